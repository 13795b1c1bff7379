/- A part of the proof that the named laws of this program answer true, whatever the input. -/
import Derived.Test.YtakmnggbneeicaaGreatTryA21
import Derived.Test.YtakmnggbneeicaaGreatPart14
namespace Go.Proofs.YtakmnggbneeicaaGreat
open Go Go.Lift Go.Proofs Go.ChangeShapes Go.WideShapes Go.ChangeAt Go.RowKit
set_option maxRecDepth 100000 in
theorem VaultPrunes_lifted(os:Os)(b:os.Started)(H:Type)(enc:TypeId×Value→H):
  ReturnsInHanded {} Tryz.checked os 3 .any (Rows.vaultPrunesSpec.pre6 enc Tryz.prog Tryz.f3 Rows.vaultPrunesRow.domain false) (Rows.vaultPrunesSpec.post enc Tryz.prog Tryz.f3 false true false false):=
 law_lifted (C:=Tryz.checked) (ts:= [5,26,27]) (tb:=4) (by kernel_rfl) (by kernel_rfl) RL rfl (fun ds hd=>by
   match ds,hd with
   | [u,f,w],_=>exact⟨rfl,rfl,rfl⟩) Tryz.own Tryz.laidOut (fun t ht=>by
   simp only[List.mem_cons,List.not_mem_nil,or_false]at ht
   rcases ht with rfl|rfl|rfl<;>exact⟨by kernel_rfl,of_decide_eq_true (by kernel_rfl)⟩) b (by kernel_rfl) Tryz.func3
  (ChangeSpec.witness6 (enc:=enc) (C:=Tryz.checked) false ⟨#[],#[.int .u8 0,.agg #[.int .u64 0,.int .u64 0,.int .u64 0],.slice none 0 0],[]⟩ 8 (by kernel_rfl) (by kernel_rfl) (by kernel_rfl) (by kernel_rfl)) Tryz.call3 (by
  intro W A args ds p a j
  obtain⟨s,_,u,_,_,_,rfl,_,e,m⟩:=BI j
  obtain⟨g,_,f,_,_,_,rfl,_,q,v⟩:=BI m
  obtain⟨z,_,w,_,_,_,rfl,_,n,y⟩:=BI v
  obtain rfl:=RN y
  obtain⟨k,rfl,d⟩:=WH (a 0 _ s rfl rfl) e
  obtain⟨x,rfl⟩:=WI (a 1 _ g rfl rfl) q
  obtain⟨sl,l,rfl,i,c,o⟩:=TG (a 2 _ z rfl rfl) n
  exact EL i c o d.1 d.2)
theorem iw{a b:Bool}(h:a=true)(c:b=true):(a&&b)=true:=by rw[h,c];rfl
theorem D9:(laidOutB Tryz.pinned.checked.prog)=true:=by kernel_rfl
theorem D7:(mapsRowed Tryz.pinned.checked.prog)=true:=by kernel_rfl
theorem Gj:((Rows.vaultPrunesRow.inPlace==Program.inPlace Tryz.pinned.checked.prog 3))=true:=by kernel_rfl
theorem D6:((Rows.vaultPrunesRow.unfollowed==Program.unfollowed Tryz.pinned.checked.prog 3))=true:=by kernel_rfl
theorem D5:((Rows.vaultPrunesRow.recurses==Program.recurses Tryz.pinned.checked.prog 3))=true:=by kernel_rfl
theorem Gf:((Rows.vaultPrunesRow.named==Program.varsNamed Tryz.pinned.checked.prog 3))=true:=by kernel_rfl
theorem Gi:((Rows.vaultPrunesRow.plainKeys==Program.plainKeys Tryz.pinned.checked.prog))=true:=by kernel_rfl
theorem Ge:(Program.stopsHeard Tryz.pinned.checked.prog)=true:=by kernel_rfl
theorem Gg:(Program.mayEnter Tryz.pinned.checked.prog)=true:=by kernel_rfl
theorem Gh:((Rows.vaultPrunesRow.lifted==Program.liftsFinal Tryz.pinned.checked.prog))=true:=by kernel_rfl
theorem zF:joinedFacts Tryz.pinned.checked.prog 3 Tryz.f3 Rows.vaultPrunesSpec Rows.vaultPrunesRow=true:=iw (iw (iw (iw (iw (iw (iw (iw (iw (iw (iw (iw (iw (iw (iw (iw (iw (iw (iw (iw (iw (iw (iw (iw (iw (iw (iw (iw (iw (iw (iw (by kernel_rfl) D9) D7) (by kernel_rfl)) (by kernel_rfl)) (by kernel_rfl)) (by kernel_rfl)) (by kernel_rfl)) (by kernel_rfl)) Gj) D6) D5) Gf) (by kernel_rfl)) (by kernel_rfl)) (by kernel_rfl)) (by kernel_rfl)) (by kernel_rfl)) (by kernel_rfl)) (by kernel_rfl)) (by kernel_rfl)) (by kernel_rfl)) Gi) (by kernel_rfl)) Ge) Gg) Gh) (by kernel_rfl)) (by kernel_rfl)) (by kernel_rfl)) (by kernel_rfl)) (by kernel_rfl)
theorem VaultPrunes_holds:Rows.VaultPrunesSaid:=
 OpenClaim.holds_of_wide 3 Tryz.f3 rfl rfl rfl rfl rfl rfl rfl ⟨rfl,rfl,rfl,rfl,rfl⟩ rfl rfl rfl rfl rfl (by kernel_rfl) Tryz.func3 zF
  (of_decide_eq_true (by kernel_rfl)) (by unfold Func.isWrapper;first|(rw[if_pos (by decide+kernel)];kernel_rfl)|(rw[if_neg (by decide+kernel)];exact⟨rfl,rfl⟩))
  (fun os a H enc _=>VaultPrunes_lifted os a H enc)
end Go.Proofs.YtakmnggbneeicaaGreat
