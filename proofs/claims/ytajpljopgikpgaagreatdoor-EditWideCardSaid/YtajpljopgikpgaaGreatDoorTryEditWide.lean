/- A part of the proof that the named laws of this program answer true, whatever the input. -/
import Derived.Test.YtajpljopgikpgaaGreatDoorPart11
import Derived.Test.YtajpljopgikpgaaGreatDoorTryInt
import Derived.Test.YtajpljopgikpgaaGreatDoorTryTab
open Option renaming some→bm
namespace Go.Proofs.YtajpljopgikpgaaGreatDoor
open Go Go.Lift Go.Proofs Go.ChangeShapes Go.WideShapes Go.ChangeAt Go.RowKit
set_option maxRecDepth 100000 in
theorem EditWide_lifted(os:Os)(b:os.Started)(H:Type)(enc:TypeId×Value→H):
  ReturnsInHanded {} Tryz.checked os 3 .any (fun w args=>(Rows.editWideSpec.pre enc Tryz.prog Tryz.f3 [] false w args∧laidMetH Tryz.prog listed w)∧sizedMet enc Tryz.prog Tryz.f3 (OpenSpec.ofChange Rows.editWideSpec) false w args) (Rows.editWideSpec.post enc Tryz.prog Tryz.f3 false true false false):=
 Ny (C:=Tryz.checked) (ts:= [bX,cu,DD,bX]) (tb:=re) (by kernel_rfl) (by kernel_rfl) Ql rfl (fun ds hd=>by
   match ds,hd with
   | [v,q,g,s],_=>exact⟨rfl,rfl,rfl⟩) Tryz.own Tryz.laidOut (fun t e=>by
   simp only[List.mem_cons,List.not_mem_nil,or_false]at e
   rcases e with rfl|rfl|rfl|rfl<;>exact⟨by kernel_rfl,of_decide_eq_true (by kernel_rfl)⟩) b (by kernel_rfl) Tryz.func3
  (ChangeSpec.witness_shaped (enc:=enc) (C:=Tryz.checked) (os:=os) (X:=fun w _=>laidMetH Tryz.prog listed w) false (World.doorLaid Tryz.prog 14 os) #[.int .u8 0,.agg #[.int .u64 0,.int .u64 0,.int .u64 0],.int .u16 0,.int .u8 0] 8 rfl (World.shaped_of_RefB (by kernel_rfl) (by kernel_rfl)) (by kernel_rfl) (by kernel_rfl) (by kernel_rfl) (N5 os _)) Tryz.call3 (by
  intro W J args ds p a A G
  have tb:=Qq A
  obtain⟨u,_,v,_,_,_,rfl,_,y,i⟩:=uK G
  obtain⟨o,_,q,_,_,_,rfl,_,j,m⟩:=uK i
  obtain⟨z,_,g,_,_,_,rfl,_,D,E⟩:=uK m
  obtain⟨f,_,s,_,_,_,rfl,_,B,F⟩:=uK E
  obtain rfl:=MR F
  obtain⟨k,rfl,d⟩:=Ok (a 0 _ u rfl rfl) y
  obtain⟨x,rfl⟩:=Q9 (a 1 _ o rfl rfl) j
  obtain⟨n,rfl,c⟩:=PP (a 2 _ z rfl rfl) D
  obtain⟨I,rfl,_⟩:=Ok (a 3 _ f rfl rfl) B
  exact G6 tb d.1 d.2 c.1 c.2)
theorem gZ{a b:Bool}(h:a=true)(c:b=true):(a&&b)=true:=by rw[h,c];rfl
theorem F5:(laidOutB Tryz.pinned.checked.prog)=true:=by kernel_rfl
theorem F4:(mapsRowed Tryz.pinned.checked.prog)=true:=by kernel_rfl
theorem HJ:((Rows.editWideRow.inPlace==Program.inPlace Tryz.pinned.checked.prog 3))=true:=by kernel_rfl
theorem F3:((Rows.editWideRow.unfollowed==Program.unfollowed Tryz.pinned.checked.prog 3))=true:=by kernel_rfl
theorem F1:((Rows.editWideRow.recurses==Program.recurses Tryz.pinned.checked.prog 3))=true:=by kernel_rfl
theorem HF:((Rows.editWideRow.named==Program.varsNamed Tryz.pinned.checked.prog 3))=true:=by kernel_rfl
theorem HI:((Rows.editWideRow.plainKeys==Program.plainKeys Tryz.pinned.checked.prog))=true:=by kernel_rfl
theorem HD:(Program.stopsHeard Tryz.pinned.checked.prog)=true:=by kernel_rfl
theorem HG:(Program.mayEnter Tryz.pinned.checked.prog)=true:=by kernel_rfl
theorem HH:((Rows.editWideRow.lifted==Program.liftsFinal Tryz.pinned.checked.prog))=true:=by kernel_rfl
theorem AK:joinedFacts Tryz.pinned.checked.prog 3 Tryz.f3 Rows.editWideSpec Rows.editWideRow=true:=gZ (gZ (gZ (gZ (gZ (gZ (gZ (gZ (gZ (gZ (gZ (gZ (gZ (gZ (gZ (gZ (gZ (gZ (gZ (gZ (gZ (gZ (gZ (gZ (gZ (gZ (gZ (gZ (gZ (gZ (gZ (by kernel_rfl) F5) F4) (by kernel_rfl)) (by kernel_rfl)) (by kernel_rfl)) (by kernel_rfl)) (by kernel_rfl)) (by kernel_rfl)) HJ) F3) F1) HF) (by kernel_rfl)) (by kernel_rfl)) (by kernel_rfl)) (by kernel_rfl)) (by kernel_rfl)) (by kernel_rfl)) (by kernel_rfl)) (by kernel_rfl)) (by kernel_rfl)) HI) (by kernel_rfl)) HD) HG) HH) (by kernel_rfl)) (by kernel_rfl)) (by kernel_rfl)) (by kernel_rfl)) (by kernel_rfl)
theorem F0:Rows.EditWideSaid:=
 OpenClaim.holds_of_wide 3 Tryz.f3 rfl rfl rfl rfl rfl rfl rfl ⟨rfl,rfl,rfl,rfl,rfl⟩ rfl rfl rfl rfl rfl (by kernel_rfl) Tryz.func3 AK
  (of_decide_eq_true (by kernel_rfl)) (by unfold Func.isWrapper;first|(rw[if_pos (by decide+kernel)];kernel_rfl)|(rw[if_neg (by decide+kernel)];exact⟨rfl,rfl⟩))
  (fun os a H enc _=>EditWide_lifted os a H enc)
theorem EditWide_holds:Rows.EditWideCardSaid:=
 Claim7.holds_tied_plain_at .later [] [.data] true (true, "9ba128358c7824de27a08e203211f3e0ad7de9ecb0cf4962246ebc3df8925b42") false
  F0 (fun _ h=>by cases h) (by kernel_rfl) (fun _ h=>by cases h) editWide_row_tie rfl ⟨rfl,rfl⟩ (by kernel_rfl) rfl
  (fun f fn d b=>by
   obtain rfl:f=3:=bm.inj ((show Tryz.prog.funcNamed "quickset/quicksetlaw16.EditWide" =some 3 by kernel_rfl).symm.trans d)|>.symm
   obtain rfl:fn=Tryz.f3:=(bm.inj (Tryz.func3.symm.trans b)).symm
   exact⟨by kernel_rfl,fun j t c=>by
    rw[Tryz.params3]at c
    have hm:t∈[bX,cu,DD,bX]:=by simpa using Array.mem_of_getElem? c
    have a:([bX,cu,DD,bX].all fun u=> !Tryz.prog.wantsStandIn u)=true:=by kernel_rfl
    exact(show Tryz.prog.wantsStandIn t=false by simpa using List.all_eq_true.1 a t hm)⟩)
  (by kernel_rfl)
end Go.Proofs.YtajpljopgikpgaaGreatDoor
