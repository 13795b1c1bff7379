/- A part of the proof that the named laws of this program answer true, whatever the input. -/
import Derived.Test.YtajpljopgikpgaaGreatTryTree
import Derived.Test.YtajpljopgikpgaaGreatPart8
namespace Go.Proofs.YtajpljopgikpgaaGreat
open Go Go.Lift Go.Proofs Go.ChangeShapes Go.WideShapes Go.ChangeAt Go.RowKit
set_option maxRecDepth 100000 in
theorem EditApart_lifted(os:Os)(b:os.Started)(H:Type)(enc:TypeId×Value→H):
  ReturnsInHanded {} Tryz.checked os 3 .any (Rows.editApartSpec.pre6 enc Tryz.prog Tryz.f3 Rows.editApartRow.domain false) (Rows.editApartSpec.post enc Tryz.prog Tryz.f3 false true false false):=
 law_lifted (C:=Tryz.checked) (ts:= [dx,cB,cH,cH,cH]) (tb:=pX) (by kernel_rfl) (by kernel_rfl) JS rfl (fun ds hd=>by
   match ds,hd with
   | [y,s,w,A,K],_=>exact⟨rfl,rfl,rfl⟩) Tryz.own Tryz.laidOut (fun t g=>by
   simp only[List.mem_cons,List.not_mem_nil,or_false]at g
   rcases g with rfl|rfl|rfl|rfl|rfl<;>exact⟨by kernel_rfl,of_decide_eq_true (by kernel_rfl)⟩) b (by kernel_rfl) Tryz.func3
  (ChangeSpec.witness6 (enc:=enc) (C:=Tryz.checked) false ⟨#[],#[.int .u8 0,.agg #[.int .u64 0,.int .u64 0,.int .u64 0],.slice none 0 0,.slice none 0 0,.slice none 0 0],[]⟩ 8 (by kernel_rfl) (by kernel_rfl) (by kernel_rfl) (by kernel_rfl)) Tryz.call3 (by
  intro W Q args ds p a N
  obtain⟨B,_,y,_,_,_,rfl,_,u,L⟩:=pt N
  obtain⟨o,_,s,_,_,_,rfl,_,D,I⟩:=pt L
  obtain⟨M,_,w,_,_,_,rfl,_,J,F⟩:=pt I
  obtain⟨j,_,A,_,_,_,rfl,_,i,v⟩:=pt F
  obtain⟨G,_,K,_,_,_,rfl,_,E,r4⟩:=pt v
  obtain rfl:=GZ r4
  obtain⟨k,rfl,f⟩:=KH (a 0 _ B rfl rfl) u
  obtain⟨x,rfl⟩:=KI (a 1 _ o rfl rfl) D
  obtain⟨sl,l,rfl,q,c,_⟩:=vJ (a 2 _ M rfl rfl) J
  obtain⟨P,m,rfl,hm,e,_⟩:=vJ (a 3 _ j rfl rfl) i
  obtain⟨O,n,rfl,z,d,_⟩:=vJ (a 4 _ G rfl rfl) E
  exact Bj q c hm e z d f.1 f.2)
theorem EditApart_holds:Rows.EditApartSaid:=
 OpenClaim.holds_of_wide 3 Tryz.f3 rfl rfl rfl rfl rfl rfl rfl ⟨rfl,rfl,rfl,rfl,rfl⟩ rfl rfl rfl rfl rfl (by kernel_rfl) Tryz.func3 (by kernel_rfl)
  (of_decide_eq_true (by kernel_rfl)) (by unfold Func.isWrapper;first|(rw[if_pos (by decide+kernel)];kernel_rfl)|(rw[if_neg (by decide+kernel)];exact⟨rfl,rfl⟩))
  (fun os a H enc _=>EditApart_lifted os a H enc)
end Go.Proofs.YtajpljopgikpgaaGreat
