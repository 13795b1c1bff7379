/- A part of the proof that the named laws of this program answer true, whatever the input. -/
import Derived.Test.YtncppacbfagpgaaGreatDoorPart12
import Derived.Test.YtncppacbfagpgaaGreatDoorTryInt
import Derived.Test.YtncppacbfagpgaaGreatDoorTryTab
open Option renaming some→bK
namespace Go.Proofs.YtncppacbfagpgaaGreatDoor
open Go Go.Lift Go.Proofs Go.ChangeShapes Go.WideShapes Go.ChangeAt Go.RowKit
set_option maxRecDepth 100000 in
theorem MergeKinds_lifted(os:Os)(started:os.Started)(H:Type)(enc:TypeId×Value→H):
  ReturnsInHanded {} Tryz.checked os 9 .any (fun w args=>(Rows.mergeKindsSpec.pre enc Tryz.prog Tryz.f9 [] false w args∧laidMetH Tryz.prog listed w)∧sizedMet enc Tryz.prog Tryz.f9 (OpenSpec.ofChange Rows.mergeKindsSpec) false w args) (Rows.mergeKindsSpec.post enc Tryz.prog Tryz.f9 false true false false):=
 Un (C:=Tryz.checked) (ts:= [cH,cH,co,co,cZ,cH,nR]) (tb:=wt) (by kernel_rfl) (by kernel_rfl) Xt rfl (fun ds hd=>by
   match ds,hd with
   | [d0,d1,d2,d3,d4,d5,d6],_=>exact⟨rfl,rfl,rfl⟩) Tryz.own Tryz.laidOut (fun t ht=>by
   simp only[List.mem_cons,List.not_mem_nil,or_false]at ht
   rcases ht with rfl|rfl|rfl|rfl|rfl|rfl|rfl<;>exact⟨by kernel_rfl,of_decide_eq_true (by kernel_rfl)⟩) started (by kernel_rfl) Tryz.func9
  (ChangeSpec.witness_shaped (enc:=enc) (C:=Tryz.checked) (os:=os) (X:=fun w _=>laidMetH Tryz.prog listed w) false (World.doorLaid Tryz.prog 14 os) #[.int .u8 0,.int .u8 0,.agg #[.int .u64 0,.int .u64 0,.int .u64 0],.agg #[.int .u64 0,.int .u64 0,.int .u64 0],.slice none 0 0,.int .u8 0,.int .i64 0] 8 rfl (World.shaped_of_RefB (by kernel_rfl) (by kernel_rfl)) (by kernel_rfl) (by kernel_rfl) (by kernel_rfl) (UG os _)) Tryz.call9 (by
  intro W b0 args ds p hval hL hA
  have tb:=Xw hL
  obtain⟨v0,_,d0,_,_,_,rfl,_,h0,r0⟩:=qu hA
  obtain⟨v1,_,d1,_,_,_,rfl,_,h1,r1⟩:=qu r0
  obtain⟨v2,_,d2,_,_,_,rfl,_,h2,r2⟩:=qu r1
  obtain⟨v3,_,d3,_,_,_,rfl,_,h3,r3⟩:=qu r2
  obtain⟨v4,_,d4,_,_,_,rfl,_,h4,r4⟩:=qu r3
  obtain⟨v5,_,d5,_,_,_,rfl,_,h5,r5⟩:=qu r4
  obtain⟨v6,_,d6,_,_,_,rfl,_,h6,r6⟩:=qu r5
  obtain rfl:=Tu r6
  obtain⟨k,rfl,hk⟩:=Pq (hval 0 _ v0 rfl rfl) h0
  obtain⟨k2,rfl,hk2⟩:=Pq (hval 1 _ v1 rfl rfl) h1
  obtain⟨x,rfl⟩:=UY (hval 2 _ v2 rfl rfl) h2
  obtain⟨y,rfl⟩:=UY (hval 3 _ v3 rfl rfl) h3
  obtain⟨sl,l,rfl,hl,hll,_⟩:=SR (hval 4 _ v4 rfl rfl) h4
  obtain⟨at1,rfl,hat⟩:=Pq (hval 5 _ v5 rfl rfl) h5
  obtain⟨q,rfl⟩:=WN (hval 6 _ v6 rfl rfl) h6
  exact HW tb hl hll hk.1 hk.2 hk2.1 hk2.2 hat.1 hat.2)
theorem jY{a b:Bool}(h:a=true)(h2:b=true):(a&&b)=true:=by rw[h,h2];rfl
theorem G4:(laidOutB Tryz.pinned.checked.prog)=true:=by kernel_rfl
theorem G3:(mapsRowed Tryz.pinned.checked.prog)=true:=by kernel_rfl
theorem Ig:((Rows.mergeKindsRow.inPlace==Program.inPlace Tryz.pinned.checked.prog 9))=true:=by kernel_rfl
theorem GZ:((Rows.mergeKindsRow.unfollowed==Program.unfollowed Tryz.pinned.checked.prog 9))=true:=by kernel_rfl
theorem GY:((Rows.mergeKindsRow.recurses==Program.recurses Tryz.pinned.checked.prog 9))=true:=by kernel_rfl
theorem Ib:((Rows.mergeKindsRow.named==Program.varsNamed Tryz.pinned.checked.prog 9))=true:=by kernel_rfl
theorem Ie:((Rows.mergeKindsRow.plainKeys==Program.plainKeys Tryz.pinned.checked.prog))=true:=by kernel_rfl
theorem Ia:(Program.stopsHeard Tryz.pinned.checked.prog)=true:=by kernel_rfl
theorem Ic:(Program.mayEnter Tryz.pinned.checked.prog)=true:=by kernel_rfl
theorem Id:((Rows.mergeKindsRow.lifted==Program.liftsFinal Tryz.pinned.checked.prog))=true:=by kernel_rfl
theorem B8:joinedFacts Tryz.pinned.checked.prog 9 Tryz.f9 Rows.mergeKindsSpec Rows.mergeKindsRow=true:=jY (jY (jY (jY (jY (jY (jY (jY (jY (jY (jY (jY (jY (jY (jY (jY (jY (jY (jY (jY (jY (jY (jY (jY (jY (jY (jY (jY (jY (jY (jY (by kernel_rfl) G4) G3) (by kernel_rfl)) (by kernel_rfl)) (by kernel_rfl)) (by kernel_rfl)) (by kernel_rfl)) (by kernel_rfl)) Ig) GZ) GY) Ib) (by kernel_rfl)) (by kernel_rfl)) (by kernel_rfl)) (by kernel_rfl)) (by kernel_rfl)) (by kernel_rfl)) (by kernel_rfl)) (by kernel_rfl)) (by kernel_rfl)) Ie) (by kernel_rfl)) Ia) Ic) Id) (by kernel_rfl)) (by kernel_rfl)) (by kernel_rfl)) (by kernel_rfl)) (by kernel_rfl)
theorem GX:Rows.MergeKindsSaid:=
 OpenClaim.holds_of_wide 9 Tryz.f9 rfl rfl rfl rfl rfl rfl rfl ⟨rfl,rfl,rfl,rfl,rfl⟩ rfl rfl rfl rfl rfl (by kernel_rfl) Tryz.func9 B8
  (of_decide_eq_true (by kernel_rfl)) (by unfold Func.isWrapper;first|(rw[if_pos (by decide+kernel)];kernel_rfl)|(rw[if_neg (by decide+kernel)];exact⟨rfl,rfl⟩))
  (fun os started H enc _=>MergeKinds_lifted os started H enc)
theorem MergeKinds_holds:Rows.MergeKindsCardSaid:=
 Claim7.holds_tied_plain_at .later [] [.data] true (true, "3e26572691208f6ca28453b63b0794e34a508a677aedfedba8e1f0deab5fc60c") false
  GX (fun _ h=>by cases h) (by kernel_rfl) (fun _ h=>by cases h) mergeKinds_row_tie rfl ⟨rfl,rfl⟩ (by kernel_rfl) rfl
  (fun f fn hf hfn=>by
   obtain rfl:f=9:=bK.inj ((show Tryz.prog.funcNamed "quickset/quicksetlaw18.MergeKinds" =some 9 by kernel_rfl).symm.trans hf)|>.symm
   obtain rfl:fn=Tryz.f9:=(bK.inj (Tryz.func9.symm.trans hfn)).symm
   exact⟨by kernel_rfl,fun j t ht=>by
    rw[Tryz.params9]at ht
    have hm:t∈[cH,cH,co,co,cZ,cH,nR]:=by simpa using Array.mem_of_getElem? ht
    have hall:([cH,cH,co,co,cZ,cH,nR].all fun u=> !Tryz.prog.wantsStandIn u)=true:=by kernel_rfl
    exact(show Tryz.prog.wantsStandIn t=false by simpa using List.all_eq_true.1 hall t hm)⟩)
  (by kernel_rfl)
end Go.Proofs.YtncppacbfagpgaaGreatDoor
