/- A part of the proof that the named laws of this program answer true, whatever the input. -/
import Derived.Test.YtajpljopgikpgaaGreatDoorPart12
import Derived.Test.YtajpljopgikpgaaGreatDoorTryAct16
import Derived.Test.YtajpljopgikpgaaGreatDoorTryTab
open Option renaming some→bF
namespace Go.Proofs.YtajpljopgikpgaaGreatDoor
open Go Go.Lift Go.Proofs Go.ChangeShapes Go.WideShapes Go.ChangeAt Go.RowKit
set_option maxRecDepth 100000 in
theorem EditFrozen_lifted(os:Os)(b:os.Started)(H:Type)(enc:TypeId×Value→H):
  ReturnsInHanded {} Tryz.checked os 6 .any (fun w args=>(Rows.editFrozenSpec.pre enc Tryz.prog Tryz.f6 [] false w args∧laidMetH Tryz.prog listed w)∧sizedMet enc Tryz.prog Tryz.f6 (OpenSpec.ofChange Rows.editFrozenSpec) false w args) (Rows.editFrozenSpec.post enc Tryz.prog Tryz.f6 false true false false):=
 Q2 (C:=Tryz.checked) (ts:= [cz,cH,js,js]) (tb:=jF) (by kernel_rfl) (by kernel_rfl) Uu rfl (fun ds hd=>by
   match ds,hd with
   | [o,A,u,s],_=>exact⟨rfl,rfl,rfl⟩) Tryz.own Tryz.laidOut (fun t g=>by
   simp only[List.mem_cons,List.not_mem_nil,or_false]at g
   rcases g with rfl|rfl|rfl|rfl<;>exact⟨by kernel_rfl,of_decide_eq_true (by kernel_rfl)⟩) b (by kernel_rfl) Tryz.func6
  (ChangeSpec.witness_shaped (enc:=enc) (C:=Tryz.checked) (os:=os) (X:=fun w _=>laidMetH Tryz.prog listed w) false (World.doorLaid Tryz.prog 14 os) #[.int .u8 0,.agg #[.int .u64 0,.int .u64 0,.int .u64 0],.slice none 0 0,.slice none 0 0] 8 rfl (World.shaped_of_RefB (by kernel_rfl) (by kernel_rfl)) (by kernel_rfl) (by kernel_rfl) (by kernel_rfl) (RB os _)) Tryz.call6 (by
  intro W N args ds p a J K
  have tb:=Uz J
  obtain⟨I,_,o,_,_,_,rfl,_,j,y⟩:=xp K
  obtain⟨D,_,A,_,_,_,rfl,_,L,q⟩:=xp y
  obtain⟨B,_,u,_,_,_,rfl,_,v,F⟩:=xp q
  obtain⟨E,_,s,_,_,_,rfl,_,G,z⟩:=xp F
  obtain rfl:=Ql z
  obtain⟨k,rfl,i⟩:=Vj (a 0 _ I rfl rfl) j
  obtain⟨x,rfl⟩:=Vk (a 1 _ D rfl rfl) L
  obtain⟨sl,l,rfl,M,d,n⟩:=KM (a 2 _ B rfl rfl) v
  obtain⟨sm,m,rfl,hm,c,f⟩:=KM (a 3 _ E rfl rfl) G
  exact Gc tb M d n hm c f i.1 i.2)
theorem iX{a b:Bool}(h:a=true)(c:b=true):(a&&b)=true:=by rw[h,c];rfl
theorem FP:(laidOutB Tryz.pinned.checked.prog)=true:=by kernel_rfl
theorem FO:(mapsRowed Tryz.pinned.checked.prog)=true:=by kernel_rfl
theorem Gy:((Rows.editFrozenRow.inPlace==Program.inPlace Tryz.pinned.checked.prog 6))=true:=by kernel_rfl
theorem FM:((Rows.editFrozenRow.unfollowed==Program.unfollowed Tryz.pinned.checked.prog 6))=true:=by kernel_rfl
theorem FL:((Rows.editFrozenRow.recurses==Program.recurses Tryz.pinned.checked.prog 6))=true:=by kernel_rfl
theorem Gu:((Rows.editFrozenRow.named==Program.varsNamed Tryz.pinned.checked.prog 6))=true:=by kernel_rfl
theorem Gx:((Rows.editFrozenRow.plainKeys==Program.plainKeys Tryz.pinned.checked.prog))=true:=by kernel_rfl
theorem Gt:(Program.stopsHeard Tryz.pinned.checked.prog)=true:=by kernel_rfl
theorem Gv:(Program.mayEnter Tryz.pinned.checked.prog)=true:=by kernel_rfl
theorem Gw:((Rows.editFrozenRow.lifted==Program.liftsFinal Tryz.pinned.checked.prog))=true:=by kernel_rfl
theorem Bf:joinedFacts Tryz.pinned.checked.prog 6 Tryz.f6 Rows.editFrozenSpec Rows.editFrozenRow=true:=iX (iX (iX (iX (iX (iX (iX (iX (iX (iX (iX (iX (iX (iX (iX (iX (iX (iX (iX (iX (iX (iX (iX (iX (iX (iX (iX (iX (iX (iX (iX (by kernel_rfl) FP) FO) (by kernel_rfl)) (by kernel_rfl)) (by kernel_rfl)) (by kernel_rfl)) (by kernel_rfl)) (by kernel_rfl)) Gy) FM) FL) Gu) (by kernel_rfl)) (by kernel_rfl)) (by kernel_rfl)) (by kernel_rfl)) (by kernel_rfl)) (by kernel_rfl)) (by kernel_rfl)) (by kernel_rfl)) (by kernel_rfl)) Gx) (by kernel_rfl)) Gt) Gv) Gw) (by kernel_rfl)) (by kernel_rfl)) (by kernel_rfl)) (by kernel_rfl)) (by kernel_rfl)
theorem FK:Rows.EditFrozenSaid:=
 OpenClaim.holds_of_wide 6 Tryz.f6 rfl rfl rfl rfl rfl rfl rfl ⟨rfl,rfl,rfl,rfl,rfl⟩ rfl rfl rfl rfl rfl (by kernel_rfl) Tryz.func6 Bf
  (of_decide_eq_true (by kernel_rfl)) (by unfold Func.isWrapper;first|(rw[if_pos (by decide+kernel)];kernel_rfl)|(rw[if_neg (by decide+kernel)];exact⟨rfl,rfl⟩))
  (fun os a H enc _=>EditFrozen_lifted os a H enc)
theorem EditFrozen_holds:Rows.EditFrozenCardSaid:=
 Claim7.holds_tied_plain_at .later [] [.data] true (true, "9ba128358c7824de27a08e203211f3e0ad7de9ecb0cf4962246ebc3df8925b42") false
  FK (fun _ h=>by cases h) (by kernel_rfl) (fun _ h=>by cases h) editFrozen_row_tie rfl ⟨rfl,rfl⟩ (by kernel_rfl) rfl
  (fun f fn d b=>by
   obtain rfl:f=6:=bF.inj ((show Tryz.prog.funcNamed "quickset/quicksetlaw16.EditFrozen" =some 6 by kernel_rfl).symm.trans d)|>.symm
   obtain rfl:fn=Tryz.f6:=(bF.inj (Tryz.func6.symm.trans b)).symm
   exact⟨by kernel_rfl,fun j t c=>by
    rw[Tryz.params6]at c
    have hm:t∈[cz,cH,js,js]:=by simpa using Array.mem_of_getElem? c
    have a:([cz,cH,js,js].all fun u=> !Tryz.prog.wantsStandIn u)=true:=by kernel_rfl
    exact(show Tryz.prog.wantsStandIn t=false by simpa using List.all_eq_true.1 a t hm)⟩)
  (by kernel_rfl)
end Go.Proofs.YtajpljopgikpgaaGreatDoor
