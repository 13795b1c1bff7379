/- A part of the proof that the named laws of this program answer true, whatever the input. -/
import Derived.Test.YtcpiahjlddmfiaaGreatTryTree
import Derived.Test.YtcpiahjlddmfiaaGreatPart6
namespace Go.Proofs.YtcpiahjlddmfiaaGreat
open Go Go.Lift Go.Proofs Go.ChangeShapes Go.WideShapes Go.ChangeAt Go.RowKit
set_option maxRecDepth 100000 in
theorem VaultGoes_lifted(os:Os)(c:os.Started)(H:Type)(enc:TypeId×Value→H):
  ReturnsInHanded {} Tryz.checked os 4 .any (Rows.vaultGoesSpec.pre6 enc Tryz.prog Tryz.f4 Rows.vaultGoesRow.domain false) (Rows.vaultGoesSpec.post enc Tryz.prog Tryz.f4 false true false false):=
 law_lifted (C:=Tryz.checked) (ts:= [cT,bQ,dQ,cT]) (tb:=qg) (by kernel_rfl) (by kernel_rfl) Ia rfl (fun ds hd=>by
   match ds,hd with
   | [B,w,n,G],_=>exact⟨rfl,rfl,rfl⟩) Tryz.own Tryz.laidOut (fun t g=>by
   simp only[List.mem_cons,List.not_mem_nil,or_false]at g
   rcases g with rfl|rfl|rfl|rfl<;>exact⟨by kernel_rfl,of_decide_eq_true (by kernel_rfl)⟩) c (by kernel_rfl) Tryz.func4
  (ChangeSpec.witness6 (enc:=enc) (C:=Tryz.checked) false ⟨#[],#[.int .u8 0,.agg #[.int .u64 0,.int .u64 0,.int .u64 0],.slice none 0 0,.int .u8 0],[]⟩ 8 (by kernel_rfl) (by kernel_rfl) (by kernel_rfl) (by kernel_rfl)) Tryz.call4 (by
  intro W I args ds p a y
  obtain⟨z,_,B,_,_,_,rfl,_,q,s⟩:=qT y
  obtain⟨v,_,w,_,_,_,rfl,_,m,A⟩:=qT s
  obtain⟨u,_,n,_,_,_,rfl,_,F,o⟩:=qT A
  obtain⟨j,_,G,_,_,_,rfl,_,D,E⟩:=qT o
  obtain rfl:=Fp E
  obtain⟨k,rfl,f⟩:=Gq (a 0 _ z rfl rfl) q
  obtain⟨x,rfl⟩:=IK (a 1 _ v rfl rfl) m
  obtain⟨sl,l,rfl,i,d,_⟩:=EP (a 2 _ u rfl rfl) F
  obtain⟨b,rfl,e⟩:=Gq (a 3 _ j rfl rfl) D
  exact zD i d f.1 f.2 e.1 e.2)
theorem VaultGoes_holds:Rows.VaultGoesSaid:=
 OpenClaim.holds_of_wide 4 Tryz.f4 rfl rfl rfl rfl rfl rfl rfl ⟨rfl,rfl,rfl,rfl,rfl⟩ rfl rfl rfl rfl rfl (by kernel_rfl) Tryz.func4 (by kernel_rfl)
  (of_decide_eq_true (by kernel_rfl)) (by unfold Func.isWrapper;first|(rw[if_pos (by decide+kernel)];kernel_rfl)|(rw[if_neg (by decide+kernel)];exact⟨rfl,rfl⟩))
  (fun os a H enc _=>VaultGoes_lifted os a H enc)
end Go.Proofs.YtcpiahjlddmfiaaGreat
