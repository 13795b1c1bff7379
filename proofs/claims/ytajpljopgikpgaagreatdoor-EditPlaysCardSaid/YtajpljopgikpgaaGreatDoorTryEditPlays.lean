/- A part of the proof that the named laws of this program answer true, whatever the input. -/
import Derived.Test.YtajpljopgikpgaaGreatDoorPart14
import Derived.Test.YtajpljopgikpgaaGreatDoorTryAct16
import Derived.Test.YtajpljopgikpgaaGreatDoorTryTab
open Option renaming some→bQ
namespace Go.Proofs.YtajpljopgikpgaaGreatDoor
open Go Go.Lift Go.Proofs Go.ChangeShapes Go.WideShapes Go.ChangeAt Go.RowKit
set_option maxRecDepth 100000 in
theorem EditPlays_lifted(os:Os)(b:os.Started)(H:Type)(enc:TypeId×Value→H):
  ReturnsInHanded {} Tryz.checked os 8 .any (fun w args=>(Rows.editPlaysSpec.pre enc Tryz.prog Tryz.f8 [] false w args∧laidMetH Tryz.prog listed w)∧sizedMet enc Tryz.prog Tryz.f8 (OpenSpec.ofChange Rows.editPlaysSpec) false w args) (Rows.editPlaysSpec.post enc Tryz.prog Tryz.f8 false true false false):=
 VT (C:=Tryz.checked) (ts:= [cK,cT,cK,pT]) (tb:=j7) (by kernel_rfl) (by kernel_rfl) Zi rfl (fun ds hd=>by
   match ds,hd with
   | [y,E,L,q],_=>exact⟨rfl,rfl,rfl⟩) Tryz.own Tryz.laidOut (fun t d=>by
   simp only[List.mem_cons,List.not_mem_nil,or_false]at d
   rcases d with rfl|rfl|rfl|rfl<;>exact⟨by kernel_rfl,of_decide_eq_true (by kernel_rfl)⟩) b (by kernel_rfl) Tryz.func8
  (ChangeSpec.witness_shaped (enc:=enc) (C:=Tryz.checked) (os:=os) (X:=fun w _=>laidMetH Tryz.prog listed w) false (World.doorLaid Tryz.prog 14 os) #[.int .u8 0,.agg #[.int .u64 0,.int .u64 0,.int .u64 0],.int .u8 0,.slice none 0 0] 8 rfl (World.shaped_of_RefB (by kernel_rfl) (by kernel_rfl)) (by kernel_rfl) (by kernel_rfl) (by kernel_rfl) (WB os _)) Tryz.call8 (by
  intro W M args ds p a v F
  have tb:=Zn v
  obtain⟨i,_,y,_,_,_,rfl,_,G,D⟩:=zN F
  obtain⟨B,_,E,_,_,_,rfl,_,o,K⟩:=zN D
  obtain⟨I,_,L,_,_,_,rfl,_,j,u⟩:=zN K
  obtain⟨s,_,q,_,_,_,rfl,_,A,z⟩:=zN u
  obtain rfl:=U6 z
  obtain⟨k,rfl,g⟩:=WW (a 0 _ i rfl rfl) G
  obtain⟨x,rfl⟩:=aac (a 1 _ B rfl rfl) o
  obtain⟨n,rfl,f⟩:=WW (a 2 _ I rfl rfl) j
  obtain⟨sl,l,rfl,m,c,J⟩:=WX (a 3 _ s rfl rfl) A
  exact Mh tb m c J g.1 g.2 f.1 f.2)
theorem jV{a b:Bool}(h:a=true)(c:b=true):(a&&b)=true:=by rw[h,c];rfl
theorem JM:(laidOutB Tryz.pinned.checked.prog)=true:=by kernel_rfl
theorem JL:(mapsRowed Tryz.pinned.checked.prog)=true:=by kernel_rfl
theorem MV:((Rows.editPlaysRow.inPlace==Program.inPlace Tryz.pinned.checked.prog 8))=true:=by kernel_rfl
theorem JK:((Rows.editPlaysRow.unfollowed==Program.unfollowed Tryz.pinned.checked.prog 8))=true:=by kernel_rfl
theorem JJ:((Rows.editPlaysRow.recurses==Program.recurses Tryz.pinned.checked.prog 8))=true:=by kernel_rfl
theorem MQ:((Rows.editPlaysRow.named==Program.varsNamed Tryz.pinned.checked.prog 8))=true:=by kernel_rfl
theorem MU:((Rows.editPlaysRow.plainKeys==Program.plainKeys Tryz.pinned.checked.prog))=true:=by kernel_rfl
theorem MP:(Program.stopsHeard Tryz.pinned.checked.prog)=true:=by kernel_rfl
theorem MR:(Program.mayEnter Tryz.pinned.checked.prog)=true:=by kernel_rfl
theorem MS:((Rows.editPlaysRow.lifted==Program.liftsFinal Tryz.pinned.checked.prog))=true:=by kernel_rfl
theorem EV:joinedFacts Tryz.pinned.checked.prog 8 Tryz.f8 Rows.editPlaysSpec Rows.editPlaysRow=true:=jV (jV (jV (jV (jV (jV (jV (jV (jV (jV (jV (jV (jV (jV (jV (jV (jV (jV (jV (jV (jV (jV (jV (jV (jV (jV (jV (jV (jV (jV (jV (by kernel_rfl) JM) JL) (by kernel_rfl)) (by kernel_rfl)) (by kernel_rfl)) (by kernel_rfl)) (by kernel_rfl)) (by kernel_rfl)) MV) JK) JJ) MQ) (by kernel_rfl)) (by kernel_rfl)) (by kernel_rfl)) (by kernel_rfl)) (by kernel_rfl)) (by kernel_rfl)) (by kernel_rfl)) (by kernel_rfl)) (by kernel_rfl)) MU) (by kernel_rfl)) MP) MR) MS) (by kernel_rfl)) (by kernel_rfl)) (by kernel_rfl)) (by kernel_rfl)) (by kernel_rfl)
theorem JI:Rows.EditPlaysSaid:=
 OpenClaim.holds_of_wide 8 Tryz.f8 rfl rfl rfl rfl rfl rfl rfl ⟨rfl,rfl,rfl,rfl,rfl⟩ rfl rfl rfl rfl rfl (by kernel_rfl) Tryz.func8 EV
  (of_decide_eq_true (by kernel_rfl)) (by unfold Func.isWrapper;first|(rw[if_pos (by decide+kernel)];kernel_rfl)|(rw[if_neg (by decide+kernel)];exact⟨rfl,rfl⟩))
  (fun os a H enc _=>EditPlays_lifted os a H enc)
theorem EditPlays_holds:Rows.EditPlaysCardSaid:=
 Claim7.holds_tied_plain_at .later [] [.data] true (true, "9ba128358c7824de27a08e203211f3e0ad7de9ecb0cf4962246ebc3df8925b42") false
  JI (fun _ h=>by cases h) (by kernel_rfl) (fun _ h=>by cases h) editPlays_row_tie rfl ⟨rfl,rfl⟩ (by kernel_rfl) rfl
  (fun f fn d b=>by
   obtain rfl:f=8:=bQ.inj ((show Tryz.prog.funcNamed "quickset/quicksetlaw16.EditPlays" =some 8 by kernel_rfl).symm.trans d)|>.symm
   obtain rfl:fn=Tryz.f8:=(bQ.inj (Tryz.func8.symm.trans b)).symm
   exact⟨by kernel_rfl,fun j t c=>by
    rw[Tryz.params8]at c
    have hm:t∈[cK,cT,cK,pT]:=by simpa using Array.mem_of_getElem? c
    have a:([cK,cT,cK,pT].all fun u=> !Tryz.prog.wantsStandIn u)=true:=by kernel_rfl
    exact(show Tryz.prog.wantsStandIn t=false by simpa using List.all_eq_true.1 a t hm)⟩)
  (by kernel_rfl)
end Go.Proofs.YtajpljopgikpgaaGreatDoor
