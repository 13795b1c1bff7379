/- A part of the proof that the named laws of this program answer true, whatever the input. -/
import Derived.Test.YtncppacbfagpgaaGreatDoorPart9
import Derived.Test.YtncppacbfagpgaaGreatDoorTryInt
import Derived.Test.YtncppacbfagpgaaGreatDoorTryTab
open Option renaming some→bF
namespace Go.Proofs.YtncppacbfagpgaaGreatDoor
open Go Go.Lift Go.Proofs Go.ChangeShapes Go.WideShapes Go.ChangeAt Go.RowKit
set_option maxRecDepth 100000 in
theorem BuildTrees_lifted(os:Os)(started:os.Started)(H:Type)(enc:TypeId×Value→H):
  ReturnsInHanded {} Tryz.checked os 3 .any (fun w args=>(Rows.buildTreesSpec.pre enc Tryz.prog Tryz.f3 [] false w args∧laidMetH Tryz.prog listed w)∧sizedMet enc Tryz.prog Tryz.f3 (OpenSpec.ofChange Rows.buildTreesSpec) false w args) (Rows.buildTreesSpec.post enc Tryz.prog Tryz.f3 false true false false):=
 Mi (C:=Tryz.checked) (ts:= [ko,cH,cD,ci,wq,wq]) (tb:=rz) (by kernel_rfl) (by kernel_rfl) OT rfl (fun ds hd=>by
   match ds,hd with
   | [d0,d1,d2,d3,d4,d5],_=>exact⟨rfl,rfl,rfl⟩) Tryz.own Tryz.laidOut (fun t ht=>by
   simp only[List.mem_cons,List.not_mem_nil,or_false]at ht
   rcases ht with rfl|rfl|rfl|rfl|rfl|rfl<;>exact⟨by kernel_rfl,of_decide_eq_true (by kernel_rfl)⟩) started (by kernel_rfl) Tryz.func3
  (ChangeSpec.witness_shaped (enc:=enc) (C:=Tryz.checked) (os:=os) (X:=fun w _=>laidMetH Tryz.prog listed w) false (World.doorLaid Tryz.prog 14 os) #[.int .i64 0,.agg #[.int .u64 0,.int .u64 0,.int .u64 0],.slice none 0 0,.int .u8 0,.int .u16 0,.int .u16 0] 8 rfl (World.shaped_of_RefB (by kernel_rfl) (by kernel_rfl)) (by kernel_rfl) (by kernel_rfl) (by kernel_rfl) (MD os _)) Tryz.call3 (by
  intro W b0 args ds p hval hL hA
  have tb:=OW hL
  obtain⟨v0,_,d0,_,_,_,rfl,_,h0,r0⟩:=pt hA
  obtain⟨v1,_,d1,_,_,_,rfl,_,h1,r1⟩:=pt r0
  obtain⟨v2,_,d2,_,_,_,rfl,_,h2,r2⟩:=pt r1
  obtain⟨v3,_,d3,_,_,_,rfl,_,h3,r3⟩:=pt r2
  obtain⟨v4,_,d4,_,_,_,rfl,_,h4,r4⟩:=pt r3
  obtain⟨v5,_,d5,_,_,_,rfl,_,h5,r5⟩:=pt r4
  obtain rfl:=Ly r5
  obtain⟨k,rfl⟩:=On (hval 0 _ v0 rfl rfl) h0
  obtain⟨x,rfl⟩:=Pu (hval 1 _ v1 rfl rfl) h1
  obtain⟨sl,l,rfl,hl,hll,_⟩:=KW (hval 2 _ v2 rfl rfl) h2
  obtain⟨at1,rfl,_⟩:=Pt (hval 3 _ v3 rfl rfl) h3
  obtain⟨kx,rfl,hx2⟩:=JG (hval 4 _ v4 rfl rfl) h4
  obtain⟨vx,rfl,hv2⟩:=JG (hval 5 _ v5 rfl rfl) h5
  exact Cn tb hl hll hx2 hv2)
theorem g6{a b:Bool}(h:a=true)(h2:b=true):(a&&b)=true:=by rw[h,h2];rfl
theorem BX:(laidOutB Tryz.pinned.checked.prog)=true:=by kernel_rfl
theorem BW:(mapsRowed Tryz.pinned.checked.prog)=true:=by kernel_rfl
theorem CO:((Rows.buildTreesRow.inPlace==Program.inPlace Tryz.pinned.checked.prog 3))=true:=by kernel_rfl
theorem BV:((Rows.buildTreesRow.unfollowed==Program.unfollowed Tryz.pinned.checked.prog 3))=true:=by kernel_rfl
theorem BU:((Rows.buildTreesRow.recurses==Program.recurses Tryz.pinned.checked.prog 3))=true:=by kernel_rfl
theorem CJ:((Rows.buildTreesRow.named==Program.varsNamed Tryz.pinned.checked.prog 3))=true:=by kernel_rfl
theorem CN:((Rows.buildTreesRow.plainKeys==Program.plainKeys Tryz.pinned.checked.prog))=true:=by kernel_rfl
theorem CI:(Program.stopsHeard Tryz.pinned.checked.prog)=true:=by kernel_rfl
theorem CL:(Program.mayEnter Tryz.pinned.checked.prog)=true:=by kernel_rfl
theorem CM:((Rows.buildTreesRow.lifted==Program.liftsFinal Tryz.pinned.checked.prog))=true:=by kernel_rfl
theorem xJ:joinedFacts Tryz.pinned.checked.prog 3 Tryz.f3 Rows.buildTreesSpec Rows.buildTreesRow=true:=g6 (g6 (g6 (g6 (g6 (g6 (g6 (g6 (g6 (g6 (g6 (g6 (g6 (g6 (g6 (g6 (g6 (g6 (g6 (g6 (g6 (g6 (g6 (g6 (g6 (g6 (g6 (g6 (g6 (g6 (g6 (by kernel_rfl) BX) BW) (by kernel_rfl)) (by kernel_rfl)) (by kernel_rfl)) (by kernel_rfl)) (by kernel_rfl)) (by kernel_rfl)) CO) BV) BU) CJ) (by kernel_rfl)) (by kernel_rfl)) (by kernel_rfl)) (by kernel_rfl)) (by kernel_rfl)) (by kernel_rfl)) (by kernel_rfl)) (by kernel_rfl)) (by kernel_rfl)) CN) (by kernel_rfl)) CI) CL) CM) (by kernel_rfl)) (by kernel_rfl)) (by kernel_rfl)) (by kernel_rfl)) (by kernel_rfl)
theorem BT:Rows.BuildTreesSaid:=
 OpenClaim.holds_of_wide 3 Tryz.f3 rfl rfl rfl rfl rfl rfl rfl ⟨rfl,rfl,rfl,rfl,rfl⟩ rfl rfl rfl rfl rfl (by kernel_rfl) Tryz.func3 xJ
  (of_decide_eq_true (by kernel_rfl)) (by unfold Func.isWrapper;first|(rw[if_pos (by decide+kernel)];kernel_rfl)|(rw[if_neg (by decide+kernel)];exact⟨rfl,rfl⟩))
  (fun os started H enc _=>BuildTrees_lifted os started H enc)
theorem BuildTrees_holds:Rows.BuildTreesCardSaid:=
 Claim7.holds_tied_plain_at .later [] [.data] true (true, "3e26572691208f6ca28453b63b0794e34a508a677aedfedba8e1f0deab5fc60c") false
  BT (fun _ h=>by cases h) (by kernel_rfl) (fun _ h=>by cases h) buildTrees_row_tie rfl ⟨rfl,rfl⟩ (by kernel_rfl) rfl
  (fun f fn hf hfn=>by
   obtain rfl:f=3:=bF.inj ((show Tryz.prog.funcNamed "quickset/quicksetlaw15.BuildTrees" =some 3 by kernel_rfl).symm.trans hf)|>.symm
   obtain rfl:fn=Tryz.f3:=(bF.inj (Tryz.func3.symm.trans hfn)).symm
   exact⟨by kernel_rfl,fun j t ht=>by
    rw[Tryz.params3]at ht
    have hm:t∈[ko,cH,cD,ci,wq,wq]:=by simpa using Array.mem_of_getElem? ht
    have hall:([ko,cH,cD,ci,wq,wq].all fun u=> !Tryz.prog.wantsStandIn u)=true:=by kernel_rfl
    exact(show Tryz.prog.wantsStandIn t=false by simpa using List.all_eq_true.1 hall t hm)⟩)
  (by kernel_rfl)
end Go.Proofs.YtncppacbfagpgaaGreatDoor
