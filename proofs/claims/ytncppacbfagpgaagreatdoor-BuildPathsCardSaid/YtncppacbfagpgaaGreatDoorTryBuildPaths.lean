/- A part of the proof that the named laws of this program answer true, whatever the input. -/
import Derived.Test.YtncppacbfagpgaaGreatDoorPart9
import Derived.Test.YtncppacbfagpgaaGreatDoorTryTab
open Option renaming some→bG
namespace Go.Proofs.YtncppacbfagpgaaGreatDoor
open Go Go.Lift Go.Proofs Go.ChangeShapes Go.WideShapes Go.ChangeAt Go.RowKit
set_option maxRecDepth 100000 in
theorem BuildPaths_lifted(os:Os)(started:os.Started)(H:Type)(enc:TypeId×Value→H):
  ReturnsInHanded {} Tryz.checked os 6 .any (fun w args=>(Rows.buildPathsSpec.pre enc Tryz.prog Tryz.f6 [] false w args∧laidMetH Tryz.prog listed w)∧sizedMet enc Tryz.prog Tryz.f6 (OpenSpec.ofChange Rows.buildPathsSpec) false w args) (Rows.buildPathsSpec.post enc Tryz.prog Tryz.f6 false true false false):=
 Lz (C:=Tryz.checked) (ts:= [dQ,bX,bO,bO]) (tb:=qI) (by kernel_rfl) (by kernel_rfl) Np rfl (fun ds hd=>by
   match ds,hd with
   | [d0,d1,d2,d3],_=>exact⟨rfl,rfl,rfl⟩) Tryz.own Tryz.laidOut (fun t ht=>by
   simp only[List.mem_cons,List.not_mem_nil,or_false]at ht
   rcases ht with rfl|rfl|rfl|rfl<;>exact⟨by kernel_rfl,of_decide_eq_true (by kernel_rfl)⟩) started (by kernel_rfl) Tryz.func6
  (ChangeSpec.witness_shaped (enc:=enc) (C:=Tryz.checked) (os:=os) (X:=fun w _=>laidMetH Tryz.prog listed w) false (World.doorLaid Tryz.prog 14 os) #[.int .u8 0,.agg #[.int .u64 0,.int .u64 0,.int .u64 0],.slice none 0 0,.slice none 0 0] 8 rfl (World.shaped_of_RefB (by kernel_rfl) (by kernel_rfl)) (by kernel_rfl) (by kernel_rfl) (by kernel_rfl) (LO os _)) Tryz.call6 (by
  intro W b0 args ds p hval hL hA
  have tb:=Ns hL
  obtain⟨v0,_,d0,_,_,_,rfl,_,h0,r0⟩:=tR hA
  obtain⟨v1,_,d1,_,_,_,rfl,_,h1,r1⟩:=tR r0
  obtain⟨v2,_,d2,_,_,_,rfl,_,h2,r2⟩:=tR r1
  obtain⟨v3,_,d3,_,_,_,rfl,_,h3,r3⟩:=tR r2
  obtain rfl:=K6 r3
  obtain⟨k,rfl,hk⟩:=NU (hval 0 _ v0 rfl rfl) h0
  obtain⟨x,rfl⟩:=NV (hval 1 _ v1 rfl rfl) h1
  obtain⟨sl,l,rfl,hl,hll,_⟩:=D4 (hval 2 _ v2 rfl rfl) h2
  obtain⟨sm,m,rfl,hm,hml,_⟩:=D4 (hval 3 _ v3 rfl rfl) h3
  exact Cy tb hl hll hm hml hk.1 hk.2)
theorem gS{a b:Bool}(h:a=true)(h2:b=true):(a&&b)=true:=by rw[h,h2];rfl
theorem B9:(laidOutB Tryz.pinned.checked.prog)=true:=by kernel_rfl
theorem B8:(mapsRowed Tryz.pinned.checked.prog)=true:=by kernel_rfl
theorem CX:((Rows.buildPathsRow.inPlace==Program.inPlace Tryz.pinned.checked.prog 6))=true:=by kernel_rfl
theorem B7:((Rows.buildPathsRow.unfollowed==Program.unfollowed Tryz.pinned.checked.prog 6))=true:=by kernel_rfl
theorem B6:((Rows.buildPathsRow.recurses==Program.recurses Tryz.pinned.checked.prog 6))=true:=by kernel_rfl
theorem CT:((Rows.buildPathsRow.named==Program.varsNamed Tryz.pinned.checked.prog 6))=true:=by kernel_rfl
theorem CW:((Rows.buildPathsRow.plainKeys==Program.plainKeys Tryz.pinned.checked.prog))=true:=by kernel_rfl
theorem CS:(Program.stopsHeard Tryz.pinned.checked.prog)=true:=by kernel_rfl
theorem CU:(Program.mayEnter Tryz.pinned.checked.prog)=true:=by kernel_rfl
theorem CV:((Rows.buildPathsRow.lifted==Program.liftsFinal Tryz.pinned.checked.prog))=true:=by kernel_rfl
theorem xy:joinedFacts Tryz.pinned.checked.prog 6 Tryz.f6 Rows.buildPathsSpec Rows.buildPathsRow=true:=gS (gS (gS (gS (gS (gS (gS (gS (gS (gS (gS (gS (gS (gS (gS (gS (gS (gS (gS (gS (gS (gS (gS (gS (gS (gS (gS (gS (gS (gS (gS (by kernel_rfl) B9) B8) (by kernel_rfl)) (by kernel_rfl)) (by kernel_rfl)) (by kernel_rfl)) (by kernel_rfl)) (by kernel_rfl)) CX) B7) B6) CT) (by kernel_rfl)) (by kernel_rfl)) (by kernel_rfl)) (by kernel_rfl)) (by kernel_rfl)) (by kernel_rfl)) (by kernel_rfl)) (by kernel_rfl)) (by kernel_rfl)) CW) (by kernel_rfl)) CS) CU) CV) (by kernel_rfl)) (by kernel_rfl)) (by kernel_rfl)) (by kernel_rfl)) (by kernel_rfl)
theorem B5:Rows.BuildPathsSaid:=
 OpenClaim.holds_of_wide 6 Tryz.f6 rfl rfl rfl rfl rfl rfl rfl ⟨rfl,rfl,rfl,rfl,rfl⟩ rfl rfl rfl rfl rfl (by kernel_rfl) Tryz.func6 xy
  (of_decide_eq_true (by kernel_rfl)) (by unfold Func.isWrapper;first|(rw[if_pos (by decide+kernel)];kernel_rfl)|(rw[if_neg (by decide+kernel)];exact⟨rfl,rfl⟩))
  (fun os started H enc _=>BuildPaths_lifted os started H enc)
theorem BuildPaths_holds:Rows.BuildPathsCardSaid:=
 Claim7.holds_tied_plain_at .later [] [.data] true (true, "3e26572691208f6ca28453b63b0794e34a508a677aedfedba8e1f0deab5fc60c") false
  B5 (fun _ h=>by cases h) (by kernel_rfl) (fun _ h=>by cases h) buildPaths_row_tie rfl ⟨rfl,rfl⟩ (by kernel_rfl) rfl
  (fun f fn hf hfn=>by
   obtain rfl:f=6:=bG.inj ((show Tryz.prog.funcNamed "quickset/quicksetlaw15.BuildPaths" =some 6 by kernel_rfl).symm.trans hf)|>.symm
   obtain rfl:fn=Tryz.f6:=(bG.inj (Tryz.func6.symm.trans hfn)).symm
   exact⟨by kernel_rfl,fun j t ht=>by
    rw[Tryz.params6]at ht
    have hm:t∈[dQ,bX,bO,bO]:=by simpa using Array.mem_of_getElem? ht
    have hall:([dQ,bX,bO,bO].all fun u=> !Tryz.prog.wantsStandIn u)=true:=by kernel_rfl
    exact(show Tryz.prog.wantsStandIn t=false by simpa using List.all_eq_true.1 hall t hm)⟩)
  (by kernel_rfl)
end Go.Proofs.YtncppacbfagpgaaGreatDoor
