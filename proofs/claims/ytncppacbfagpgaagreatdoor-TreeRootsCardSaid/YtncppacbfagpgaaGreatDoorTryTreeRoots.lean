/- A part of the proof that the named laws of this program answer true, whatever the input. -/
import Derived.Test.YtncppacbfagpgaaGreatDoorPart10
import Derived.Test.YtncppacbfagpgaaGreatDoorTryInt
import Derived.Test.YtncppacbfagpgaaGreatDoorTryTab
open Option renaming some→bH
namespace Go.Proofs.YtncppacbfagpgaaGreatDoor
open Go Go.Lift Go.Proofs Go.ChangeShapes Go.WideShapes Go.ChangeAt Go.RowKit
set_option maxRecDepth 100000 in
theorem TreeRoots_lifted(os:Os)(started:os.Started)(H:Type)(enc:TypeId×Value→H):
  ReturnsInHanded {} Tryz.checked os 4 .any (fun w args=>(Rows.treeRootsSpec.pre enc Tryz.prog Tryz.f4 [] false w args∧laidMetH Tryz.prog listed w)∧sizedMet enc Tryz.prog Tryz.f4 (OpenSpec.ofChange Rows.treeRootsSpec) false w args) (Rows.treeRootsSpec.post enc Tryz.prog Tryz.f4 false true false false):=
 Nt (C:=Tryz.checked) (ts:= [ol,cC,cL]) (tb:=rx) (by kernel_rfl) (by kernel_rfl) PY rfl (fun ds hd=>by
   match ds,hd with
   | [d0,d1,d2],_=>exact⟨rfl,rfl,rfl⟩) Tryz.own Tryz.laidOut (fun t ht=>by
   simp only[List.mem_cons,List.not_mem_nil,or_false]at ht
   rcases ht with rfl|rfl|rfl<;>exact⟨by kernel_rfl,of_decide_eq_true (by kernel_rfl)⟩) started (by kernel_rfl) Tryz.func4
  (ChangeSpec.witness_shaped (enc:=enc) (C:=Tryz.checked) (os:=os) (X:=fun w _=>laidMetH Tryz.prog listed w) false (World.doorLaid Tryz.prog 14 os) #[.int .i64 0,.agg #[.int .u64 0,.int .u64 0,.int .u64 0],.slice none 0 0] 8 rfl (World.shaped_of_RefB (by kernel_rfl) (by kernel_rfl)) (by kernel_rfl) (by kernel_rfl) (by kernel_rfl) (NK os _)) Tryz.call4 (by
  intro W b0 args ds p hval hL hA
  have tb:=P1 hL
  obtain⟨v0,_,d0,_,_,_,rfl,_,h0,r0⟩:=yJ hA
  obtain⟨v1,_,d1,_,_,_,rfl,_,h1,r1⟩:=yJ r0
  obtain⟨v2,_,d2,_,_,_,rfl,_,h2,r2⟩:=yJ r1
  obtain rfl:=MJ r2
  obtain⟨k,rfl⟩:=Pp (hval 0 _ v0 rfl rfl) h0
  obtain⟨x,rfl⟩:=Qw (hval 1 _ v1 rfl rfl) h1
  obtain⟨sl,l,rfl,hl,hll,_⟩:=L8 (hval 2 _ v2 rfl rfl) h2
  exact EH tb hl hll)
theorem iz{a b:Bool}(h:a=true)(h2:b=true):(a&&b)=true:=by rw[h,h2];rfl
theorem De:(laidOutB Tryz.pinned.checked.prog)=true:=by kernel_rfl
theorem Dd:(mapsRowed Tryz.pinned.checked.prog)=true:=by kernel_rfl
theorem FG:((Rows.treeRootsRow.inPlace==Program.inPlace Tryz.pinned.checked.prog 4))=true:=by kernel_rfl
theorem Dc:((Rows.treeRootsRow.unfollowed==Program.unfollowed Tryz.pinned.checked.prog 4))=true:=by kernel_rfl
theorem Db:((Rows.treeRootsRow.recurses==Program.recurses Tryz.pinned.checked.prog 4))=true:=by kernel_rfl
theorem FB:((Rows.treeRootsRow.named==Program.varsNamed Tryz.pinned.checked.prog 4))=true:=by kernel_rfl
theorem FF:((Rows.treeRootsRow.plainKeys==Program.plainKeys Tryz.pinned.checked.prog))=true:=by kernel_rfl
theorem FA:(Program.stopsHeard Tryz.pinned.checked.prog)=true:=by kernel_rfl
theorem FC:(Program.mayEnter Tryz.pinned.checked.prog)=true:=by kernel_rfl
theorem FE:((Rows.treeRootsRow.lifted==Program.liftsFinal Tryz.pinned.checked.prog))=true:=by kernel_rfl
theorem zk:joinedFacts Tryz.pinned.checked.prog 4 Tryz.f4 Rows.treeRootsSpec Rows.treeRootsRow=true:=iz (iz (iz (iz (iz (iz (iz (iz (iz (iz (iz (iz (iz (iz (iz (iz (iz (iz (iz (iz (iz (iz (iz (iz (iz (iz (iz (iz (iz (iz (iz (by kernel_rfl) De) Dd) (by kernel_rfl)) (by kernel_rfl)) (by kernel_rfl)) (by kernel_rfl)) (by kernel_rfl)) (by kernel_rfl)) FG) Dc) Db) FB) (by kernel_rfl)) (by kernel_rfl)) (by kernel_rfl)) (by kernel_rfl)) (by kernel_rfl)) (by kernel_rfl)) (by kernel_rfl)) (by kernel_rfl)) (by kernel_rfl)) FF) (by kernel_rfl)) FA) FC) FE) (by kernel_rfl)) (by kernel_rfl)) (by kernel_rfl)) (by kernel_rfl)) (by kernel_rfl)
theorem Da:Rows.TreeRootsSaid:=
 OpenClaim.holds_of_wide 4 Tryz.f4 rfl rfl rfl rfl rfl rfl rfl ⟨rfl,rfl,rfl,rfl,rfl⟩ rfl rfl rfl rfl rfl (by kernel_rfl) Tryz.func4 zk
  (of_decide_eq_true (by kernel_rfl)) (by unfold Func.isWrapper;first|(rw[if_pos (by decide+kernel)];kernel_rfl)|(rw[if_neg (by decide+kernel)];exact⟨rfl,rfl⟩))
  (fun os started H enc _=>TreeRoots_lifted os started H enc)
theorem TreeRoots_holds:Rows.TreeRootsCardSaid:=
 Claim7.holds_tied_plain_at .later [] [.data] true (true, "3e26572691208f6ca28453b63b0794e34a508a677aedfedba8e1f0deab5fc60c") false
  Da (fun _ h=>by cases h) (by kernel_rfl) (fun _ h=>by cases h) treeRoots_row_tie rfl ⟨rfl,rfl⟩ (by kernel_rfl) rfl
  (fun f fn hf hfn=>by
   obtain rfl:f=4:=bH.inj ((show Tryz.prog.funcNamed "quickset/quicksetlaw14.TreeRoots" =some 4 by kernel_rfl).symm.trans hf)|>.symm
   obtain rfl:fn=Tryz.f4:=(bH.inj (Tryz.func4.symm.trans hfn)).symm
   exact⟨by kernel_rfl,fun j t ht=>by
    rw[Tryz.params4]at ht
    have hm:t∈[ol,cC,cL]:=by simpa using Array.mem_of_getElem? ht
    have hall:([ol,cC,cL].all fun u=> !Tryz.prog.wantsStandIn u)=true:=by kernel_rfl
    exact(show Tryz.prog.wantsStandIn t=false by simpa using List.all_eq_true.1 hall t hm)⟩)
  (by kernel_rfl)
end Go.Proofs.YtncppacbfagpgaaGreatDoor
