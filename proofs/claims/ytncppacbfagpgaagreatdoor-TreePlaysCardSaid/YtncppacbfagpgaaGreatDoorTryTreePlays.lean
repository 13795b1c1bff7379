/- A part of the proof that the named laws of this program answer true, whatever the input. -/
import Derived.Test.YtncppacbfagpgaaGreatDoorPart11
import Derived.Test.YtncppacbfagpgaaGreatDoorTryInt
import Derived.Test.YtncppacbfagpgaaGreatDoorTryAct
import Derived.Test.YtncppacbfagpgaaGreatDoorTryTab
open Option renaming some→bK
namespace Go.Proofs.YtncppacbfagpgaaGreatDoor
open Go Go.Lift Go.Proofs Go.ChangeShapes Go.WideShapes Go.ChangeAt Go.RowKit
set_option maxRecDepth 100000 in
theorem TreePlays_lifted(os:Os)(started:os.Started)(H:Type)(enc:TypeId×Value→H):
  ReturnsInHanded {} Tryz.checked os 5 .any (fun w args=>(Rows.treePlaysSpec.pre enc Tryz.prog Tryz.f5 [] false w args∧laidMetH Tryz.prog listed w)∧sizedMet enc Tryz.prog Tryz.f5 (OpenSpec.ofChange Rows.treePlaysSpec) false w args) (Rows.treePlaysSpec.post enc Tryz.prog Tryz.f5 false true false false):=
 Qu (C:=Tryz.checked) (ts:= [pf,cr,nU]) (tb:=sZ) (by kernel_rfl) (by kernel_rfl) Tw rfl (fun ds hd=>by
   match ds,hd with
   | [d0,d1,d2],_=>exact⟨rfl,rfl,rfl⟩) Tryz.own Tryz.laidOut (fun t ht=>by
   simp only[List.mem_cons,List.not_mem_nil,or_false]at ht
   rcases ht with rfl|rfl|rfl<;>exact⟨by kernel_rfl,of_decide_eq_true (by kernel_rfl)⟩) started (by kernel_rfl) Tryz.func5
  (ChangeSpec.witness_shaped (enc:=enc) (C:=Tryz.checked) (os:=os) (X:=fun w _=>laidMetH Tryz.prog listed w) false (World.doorLaid Tryz.prog 14 os) #[.int .i64 0,.agg #[.int .u64 0,.int .u64 0,.int .u64 0],.slice none 0 0] 8 rfl (World.shaped_of_RefB (by kernel_rfl) (by kernel_rfl)) (by kernel_rfl) (by kernel_rfl) (by kernel_rfl) (QL os _)) Tryz.call5 (by
  intro W b0 args ds p hval hL hA
  have tb:=Tz hL
  obtain⟨v0,_,d0,_,_,_,rfl,_,h0,r0⟩:=AB hA
  obtain⟨v1,_,d1,_,_,_,rfl,_,h1,r1⟩:=AB r0
  obtain⟨v2,_,d2,_,_,_,rfl,_,h2,r2⟩:=AB r1
  obtain rfl:=PM r2
  obtain⟨k,rfl⟩:=SP (hval 0 _ v0 rfl rfl) h0
  obtain⟨x,rfl⟩:=T8 (hval 1 _ v1 rfl rfl) h1
  obtain⟨s,l,rfl,hs,hsl,hb⟩:=Q1 (hval 2 _ v2 rfl rfl) h2
  exact GU tb hs hsl hb)
theorem iW{a b:Bool}(h:a=true)(h2:b=true):(a&&b)=true:=by rw[h,h2];rfl
theorem Fb:(laidOutB Tryz.pinned.checked.prog)=true:=by kernel_rfl
theorem Fa:(mapsRowed Tryz.pinned.checked.prog)=true:=by kernel_rfl
theorem HZ:((Rows.treePlaysRow.inPlace==Program.inPlace Tryz.pinned.checked.prog 5))=true:=by kernel_rfl
theorem E9:((Rows.treePlaysRow.unfollowed==Program.unfollowed Tryz.pinned.checked.prog 5))=true:=by kernel_rfl
theorem E8:((Rows.treePlaysRow.recurses==Program.recurses Tryz.pinned.checked.prog 5))=true:=by kernel_rfl
theorem HT:((Rows.treePlaysRow.named==Program.varsNamed Tryz.pinned.checked.prog 5))=true:=by kernel_rfl
theorem HX:((Rows.treePlaysRow.plainKeys==Program.plainKeys Tryz.pinned.checked.prog))=true:=by kernel_rfl
theorem HS:(Program.stopsHeard Tryz.pinned.checked.prog)=true:=by kernel_rfl
theorem HU:(Program.mayEnter Tryz.pinned.checked.prog)=true:=by kernel_rfl
theorem HW:((Rows.treePlaysRow.lifted==Program.liftsFinal Tryz.pinned.checked.prog))=true:=by kernel_rfl
theorem Be:joinedFacts Tryz.pinned.checked.prog 5 Tryz.f5 Rows.treePlaysSpec Rows.treePlaysRow=true:=iW (iW (iW (iW (iW (iW (iW (iW (iW (iW (iW (iW (iW (iW (iW (iW (iW (iW (iW (iW (iW (iW (iW (iW (iW (iW (iW (iW (iW (iW (iW (by kernel_rfl) Fb) Fa) (by kernel_rfl)) (by kernel_rfl)) (by kernel_rfl)) (by kernel_rfl)) (by kernel_rfl)) (by kernel_rfl)) HZ) E9) E8) HT) (by kernel_rfl)) (by kernel_rfl)) (by kernel_rfl)) (by kernel_rfl)) (by kernel_rfl)) (by kernel_rfl)) (by kernel_rfl)) (by kernel_rfl)) (by kernel_rfl)) HX) (by kernel_rfl)) HS) HU) HW) (by kernel_rfl)) (by kernel_rfl)) (by kernel_rfl)) (by kernel_rfl)) (by kernel_rfl)
theorem E7:Rows.TreePlaysSaid:=
 OpenClaim.holds_of_wide 5 Tryz.f5 rfl rfl rfl rfl rfl rfl rfl ⟨rfl,rfl,rfl,rfl,rfl⟩ rfl rfl rfl rfl rfl (by kernel_rfl) Tryz.func5 Be
  (of_decide_eq_true (by kernel_rfl)) (by unfold Func.isWrapper;first|(rw[if_pos (by decide+kernel)];kernel_rfl)|(rw[if_neg (by decide+kernel)];exact⟨rfl,rfl⟩))
  (fun os started H enc _=>TreePlays_lifted os started H enc)
theorem TreePlays_holds:Rows.TreePlaysCardSaid:=
 Claim7.holds_tied_plain_at .later [] [.data] true (true, "3e26572691208f6ca28453b63b0794e34a508a677aedfedba8e1f0deab5fc60c") false
  E7 (fun _ h=>by cases h) (by kernel_rfl) (fun _ h=>by cases h) treePlays_row_tie rfl ⟨rfl,rfl⟩ (by kernel_rfl) rfl
  (fun f fn hf hfn=>by
   obtain rfl:f=5:=bK.inj ((show Tryz.prog.funcNamed "quickset/quicksetlaw14.TreePlays" =some 5 by kernel_rfl).symm.trans hf)|>.symm
   obtain rfl:fn=Tryz.f5:=(bK.inj (Tryz.func5.symm.trans hfn)).symm
   exact⟨by kernel_rfl,fun j t ht=>by
    rw[Tryz.params5]at ht
    have hm:t∈[pf,cr,nU]:=by simpa using Array.mem_of_getElem? ht
    have hall:([pf,cr,nU].all fun u=> !Tryz.prog.wantsStandIn u)=true:=by kernel_rfl
    exact(show Tryz.prog.wantsStandIn t=false by simpa using List.all_eq_true.1 hall t hm)⟩)
  (by kernel_rfl)
end Go.Proofs.YtncppacbfagpgaaGreatDoor
