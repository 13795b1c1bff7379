/- A part of the proof that the named laws of this program answer true, whatever the input. -/
import Derived.Test.YtajpljopgikpgaaGreatDoorPart12
import Derived.Test.YtajpljopgikpgaaGreatDoorTryAct
import Derived.Test.YtajpljopgikpgaaGreatDoorTryTab
open Option renaming some→bA
namespace Go.Proofs.YtajpljopgikpgaaGreatDoor
open Go Go.Lift Go.Proofs Go.ChangeShapes Go.WideShapes Go.ChangeAt Go.RowKit
set_option maxRecDepth 100000 in
theorem TreeOwns_lifted(os:Os)(c:os.Started)(H:Type)(enc:TypeId×Value→H):
  ReturnsInHanded {} Tryz.checked os 7 .any (fun w args=>(Rows.treeOwnsSpec.pre enc Tryz.prog Tryz.f7 [] false w args∧laidMetH Tryz.prog listed w)∧sizedMet enc Tryz.prog Tryz.f7 (OpenSpec.ofChange Rows.treeOwnsSpec) false w args) (Rows.treeOwnsSpec.post enc Tryz.prog Tryz.f7 false true false false):=
 Rf (C:=Tryz.checked) (ts:= [cr,cM,cq,js,js]) (tb:=tR) (by kernel_rfl) (by kernel_rfl) UH rfl (fun ds hd=>by
   match ds,hd with
   | [J,P,j,M,L],_=>exact⟨rfl,rfl,rfl⟩) Tryz.own Tryz.laidOut (fun t g=>by
   simp only[List.mem_cons,List.not_mem_nil,or_false]at g
   rcases g with rfl|rfl|rfl|rfl|rfl<;>exact⟨by kernel_rfl,of_decide_eq_true (by kernel_rfl)⟩) c (by kernel_rfl) Tryz.func7
  (ChangeSpec.witness_shaped (enc:=enc) (C:=Tryz.checked) (os:=os) (X:=fun w _=>laidMetH Tryz.prog listed w) false (World.doorLaid Tryz.prog 14 os) #[.int .u8 0,.agg #[.int .u64 0,.int .u64 0,.int .u64 0],.slice none 0 0,.slice none 0 0,.slice none 0 0] 8 rfl (World.shaped_of_RefB (by kernel_rfl) (by kernel_rfl)) (by kernel_rfl) (by kernel_rfl) (by kernel_rfl) (RV os _)) Tryz.call7 (by
  intro W S args ds p b n q
  have tb:=UK n
  obtain⟨v,_,J,_,_,_,rfl,_,O,u⟩:=ut q
  obtain⟨I,_,P,_,_,_,rfl,_,o,E⟩:=ut u
  obtain⟨F,_,j,_,_,_,rfl,_,K,A⟩:=ut E
  obtain⟨m,_,M,_,_,_,rfl,_,s,y⟩:=ut A
  obtain⟨B,_,L,_,_,_,rfl,_,D,Q⟩:=ut y
  obtain rfl:=Qs Q
  obtain⟨k,rfl,i⟩:=Vy (b 0 _ v rfl rfl) O
  obtain⟨x,rfl⟩:=Vz (b 1 _ I rfl rfl) o
  obtain⟨sl,l,rfl,G,e,_⟩:=PR (b 2 _ F rfl rfl) K
  obtain⟨R,a,rfl,N,f,_⟩:=KJ (b 3 _ m rfl rfl) s
  obtain⟨T,z,rfl,hz,d,_⟩:=KJ (b 4 _ B rfl rfl) D
  exact Jl tb G e N f hz d i.1 i.2)
theorem ja{a b:Bool}(h:a=true)(c:b=true):(a&&b)=true:=by rw[h,c];rfl
theorem IH:(laidOutB Tryz.pinned.checked.prog)=true:=by kernel_rfl
theorem IG:(mapsRowed Tryz.pinned.checked.prog)=true:=by kernel_rfl
theorem KV:((Rows.treeOwnsRow.inPlace==Program.inPlace Tryz.pinned.checked.prog 7))=true:=by kernel_rfl
theorem IE:((Rows.treeOwnsRow.unfollowed==Program.unfollowed Tryz.pinned.checked.prog 7))=true:=by kernel_rfl
theorem IC:((Rows.treeOwnsRow.recurses==Program.recurses Tryz.pinned.checked.prog 7))=true:=by kernel_rfl
theorem KQ:((Rows.treeOwnsRow.named==Program.varsNamed Tryz.pinned.checked.prog 7))=true:=by kernel_rfl
theorem KU:((Rows.treeOwnsRow.plainKeys==Program.plainKeys Tryz.pinned.checked.prog))=true:=by kernel_rfl
theorem KP:(Program.stopsHeard Tryz.pinned.checked.prog)=true:=by kernel_rfl
theorem KS:(Program.mayEnter Tryz.pinned.checked.prog)=true:=by kernel_rfl
theorem KT:((Rows.treeOwnsRow.lifted==Program.liftsFinal Tryz.pinned.checked.prog))=true:=by kernel_rfl
theorem CY:joinedFacts Tryz.pinned.checked.prog 7 Tryz.f7 Rows.treeOwnsSpec Rows.treeOwnsRow=true:=ja (ja (ja (ja (ja (ja (ja (ja (ja (ja (ja (ja (ja (ja (ja (ja (ja (ja (ja (ja (ja (ja (ja (ja (ja (ja (ja (ja (ja (ja (ja (by kernel_rfl) IH) IG) (by kernel_rfl)) (by kernel_rfl)) (by kernel_rfl)) (by kernel_rfl)) (by kernel_rfl)) (by kernel_rfl)) KV) IE) IC) KQ) (by kernel_rfl)) (by kernel_rfl)) (by kernel_rfl)) (by kernel_rfl)) (by kernel_rfl)) (by kernel_rfl)) (by kernel_rfl)) (by kernel_rfl)) (by kernel_rfl)) KU) (by kernel_rfl)) KP) KS) KT) (by kernel_rfl)) (by kernel_rfl)) (by kernel_rfl)) (by kernel_rfl)) (by kernel_rfl)
theorem IB:Rows.TreeOwnsSaid:=
 OpenClaim.holds_of_wide 7 Tryz.f7 rfl rfl rfl rfl rfl rfl rfl ⟨rfl,rfl,rfl,rfl,rfl⟩ rfl rfl rfl rfl rfl (by kernel_rfl) Tryz.func7 CY
  (of_decide_eq_true (by kernel_rfl)) (by unfold Func.isWrapper;first|(rw[if_pos (by decide+kernel)];kernel_rfl)|(rw[if_neg (by decide+kernel)];exact⟨rfl,rfl⟩))
  (fun os a H enc _=>TreeOwns_lifted os a H enc)
theorem TreeOwns_holds:Rows.TreeOwnsCardSaid:=
 Claim7.holds_tied_plain_at .later [] [.data] true (true, "9ba128358c7824de27a08e203211f3e0ad7de9ecb0cf4962246ebc3df8925b42") false
  IB (fun _ h=>by cases h) (by kernel_rfl) (fun _ h=>by cases h) treeOwns_row_tie rfl ⟨rfl,rfl⟩ (by kernel_rfl) rfl
  (fun f fn d b=>by
   obtain rfl:f=7:=bA.inj ((show Tryz.prog.funcNamed "quickset/quicksetlaw14.TreeOwns" =some 7 by kernel_rfl).symm.trans d)|>.symm
   obtain rfl:fn=Tryz.f7:=(bA.inj (Tryz.func7.symm.trans b)).symm
   exact⟨by kernel_rfl,fun j t c=>by
    rw[Tryz.params7]at c
    have hm:t∈[cr,cM,cq,js,js]:=by simpa using Array.mem_of_getElem? c
    have a:([cr,cM,cq,js,js].all fun u=> !Tryz.prog.wantsStandIn u)=true:=by kernel_rfl
    exact(show Tryz.prog.wantsStandIn t=false by simpa using List.all_eq_true.1 a t hm)⟩)
  (by kernel_rfl)
end Go.Proofs.YtajpljopgikpgaaGreatDoor
