/- A part of the proof that the named laws of this program answer true, whatever the input. -/
import Derived.Test.YtfmnhpbjeapjaaaGreatTryTree
import Derived.Test.YtfmnhpbjeapjaaaGreatTryBys
import Derived.Test.YtfmnhpbjeapjaaaGreatPart8
namespace Go.Proofs.YtfmnhpbjeapjaaaGreat
open Go Go.Lift Go.Proofs Go.ChangeShapes Go.WideShapes Go.ChangeAt Go.RowKit
set_option maxRecDepth 100000 in
theorem StoreBranches_lifted(os:Os)(b:os.Started)(H:Type)(enc:TypeId×Value→H):
  ReturnsInHanded {} Tryz.checked os 3 .any (Rows.storeBranchesSpec.pre6 enc Tryz.prog Tryz.f3 Rows.storeBranchesRow.domain false) (Rows.storeBranchesSpec.post enc Tryz.prog Tryz.f3 false true false false):=
 law_lifted (C:=Tryz.checked) (ts:= [Aq,cx,cE,Dy]) (tb:=rH) (by kernel_rfl) (by kernel_rfl) NF rfl (fun ds hd=>by
   match ds,hd with
   | [D,j,F,u],_=>exact⟨rfl,rfl,rfl⟩) Tryz.own Tryz.laidOut (fun t d=>by
   simp only[List.mem_cons,List.not_mem_nil,or_false]at d
   rcases d with rfl|rfl|rfl|rfl<;>exact⟨by kernel_rfl,of_decide_eq_true (by kernel_rfl)⟩) b (by kernel_rfl) Tryz.func3
  (ChangeSpec.witness6 (enc:=enc) (C:=Tryz.checked) false ⟨#[],#[.int .u8 0,.agg #[.int .u64 0,.int .u64 0,.int .u64 0],.slice none 0 0,.slice none 0 0],[]⟩ 8 (by kernel_rfl) (by kernel_rfl) (by kernel_rfl) (by kernel_rfl)) Tryz.call3 (by
  intro W G args ds p a y
  obtain⟨i,_,D,_,_,_,rfl,_,B,o⟩:=tR y
  obtain⟨E,_,j,_,_,_,rfl,_,z,g⟩:=tR o
  obtain⟨m,_,F,_,_,_,rfl,_,v,w⟩:=tR g
  obtain⟨A,_,u,_,_,_,rfl,_,n,s⟩:=tR w
  obtain rfl:=Ku s
  obtain⟨k,rfl,e⟩:=Og (a 0 _ i rfl rfl) B
  obtain⟨x,rfl⟩:=Oh (a 1 _ E rfl rfl) z
  obtain⟨sl,l,rfl,q,c,_⟩:=JM (a 2 _ m rfl rfl) v
  obtain⟨I,os,rfl,f⟩:=M4 (a 3 _ A rfl rfl) n
  exact xJ q c f e.1 e.2)
theorem gD{a b:Bool}(h:a=true)(c:b=true):(a&&b)=true:=by rw[h,c];rfl
theorem wY:(laidOutB Tryz.pinned.checked.prog)=true:=by kernel_rfl
theorem wX:(mapsRowed Tryz.pinned.checked.prog)=true:=by kernel_rfl
theorem yv:((Rows.storeBranchesRow.inPlace==Program.inPlace Tryz.pinned.checked.prog 3))=true:=by kernel_rfl
theorem wW:((Rows.storeBranchesRow.unfollowed==Program.unfollowed Tryz.pinned.checked.prog 3))=true:=by kernel_rfl
theorem wV:((Rows.storeBranchesRow.recurses==Program.recurses Tryz.pinned.checked.prog 3))=true:=by kernel_rfl
theorem yp:((Rows.storeBranchesRow.named==Program.varsNamed Tryz.pinned.checked.prog 3))=true:=by kernel_rfl
theorem yu:((Rows.storeBranchesRow.plainKeys==Program.plainKeys Tryz.pinned.checked.prog))=true:=by kernel_rfl
theorem yo:(Program.stopsHeard Tryz.pinned.checked.prog)=true:=by kernel_rfl
theorem yq:(Program.mayEnter Tryz.pinned.checked.prog)=true:=by kernel_rfl
theorem yr:((Rows.storeBranchesRow.lifted==Program.liftsFinal Tryz.pinned.checked.prog))=true:=by kernel_rfl
theorem tD:joinedFacts Tryz.pinned.checked.prog 3 Tryz.f3 Rows.storeBranchesSpec Rows.storeBranchesRow=true:=gD (gD (gD (gD (gD (gD (gD (gD (gD (gD (gD (gD (gD (gD (gD (gD (gD (gD (gD (gD (gD (gD (gD (gD (gD (gD (gD (gD (gD (gD (gD (by kernel_rfl) wY) wX) (by kernel_rfl)) (by kernel_rfl)) (by kernel_rfl)) (by kernel_rfl)) (by kernel_rfl)) (by kernel_rfl)) yv) wW) wV) yp) (by kernel_rfl)) (by kernel_rfl)) (by kernel_rfl)) (by kernel_rfl)) (by kernel_rfl)) (by kernel_rfl)) (by kernel_rfl)) (by kernel_rfl)) (by kernel_rfl)) yu) (by kernel_rfl)) yo) yq) yr) (by kernel_rfl)) (by kernel_rfl)) (by kernel_rfl)) (by kernel_rfl)) (by kernel_rfl)
theorem StoreBranches_holds:Rows.StoreBranchesSaid:=
 OpenClaim.holds_of_wide 3 Tryz.f3 rfl rfl rfl rfl rfl rfl rfl ⟨rfl,rfl,rfl,rfl,rfl⟩ rfl rfl rfl rfl rfl (by kernel_rfl) Tryz.func3 tD
  (of_decide_eq_true (by kernel_rfl)) (by unfold Func.isWrapper;first|(rw[if_pos (by decide+kernel)];kernel_rfl)|(rw[if_neg (by decide+kernel)];exact⟨rfl,rfl⟩))
  (fun os a H enc _=>StoreBranches_lifted os a H enc)
end Go.Proofs.YtfmnhpbjeapjaaaGreat
