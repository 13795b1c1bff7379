/- A part of the proof that the named laws of this program answer true, whatever the input. -/
import Derived.Test.YtajpljopgikpgaaGreatDoorPart9
import Derived.Test.YtajpljopgikpgaaGreatDoorTryInt
import Derived.Test.YtajpljopgikpgaaGreatDoorTryTab
open Option renaming some→bi
namespace Go.Proofs.YtajpljopgikpgaaGreatDoor
open Go Go.Lift Go.Proofs Go.ChangeShapes Go.WideShapes Go.ChangeAt Go.RowKit
set_option maxRecDepth 100000 in
theorem EditSnaps_lifted(os:Os)(b:os.Started)(H:Type)(enc:TypeId×Value→H):
  ReturnsInHanded {} Tryz.checked os 4 .any (fun w args=>(Rows.editSnapsSpec.pre enc Tryz.prog Tryz.f4 [] false w args∧laidMetH Tryz.prog listed w)∧sizedMet enc Tryz.prog Tryz.f4 (OpenSpec.ofChange Rows.editSnapsSpec) false w args) (Rows.editSnapsSpec.post enc Tryz.prog Tryz.f4 false true false false):=
 Kl (C:=Tryz.checked) (ts:= [dg,bW,cM,dg]) (tb:=oz) (by kernel_rfl) (by kernel_rfl) MG rfl (fun ds hd=>by
   match ds,hd with
   | [i,u,A,E],_=>exact⟨rfl,rfl,rfl⟩) Tryz.own Tryz.laidOut (fun t e=>by
   simp only[List.mem_cons,List.not_mem_nil,or_false]at e
   rcases e with rfl|rfl|rfl|rfl<;>exact⟨by kernel_rfl,of_decide_eq_true (by kernel_rfl)⟩) b (by kernel_rfl) Tryz.func4
  (ChangeSpec.witness_shaped (enc:=enc) (C:=Tryz.checked) (os:=os) (X:=fun w _=>laidMetH Tryz.prog listed w) false (World.doorLaid Tryz.prog 14 os) #[.int .u8 0,.agg #[.int .u64 0,.int .u64 0,.int .u64 0],.slice none 0 0,.int .u8 0] 8 rfl (World.shaped_of_RefB (by kernel_rfl) (by kernel_rfl)) (by kernel_rfl) (by kernel_rfl) (by kernel_rfl) (KS os _)) Tryz.call4 (by
  intro W J args ds p a j F
  have tb:=MK j
  obtain⟨f,_,i,_,_,_,rfl,_,B,m⟩:=tx F
  obtain⟨n,_,u,_,_,_,rfl,_,y,G⟩:=tx m
  obtain⟨s,_,A,_,_,_,rfl,_,q,v⟩:=tx G
  obtain⟨z,_,E,_,_,_,rfl,_,o,g⟩:=tx v
  obtain rfl:=JB g
  obtain⟨k,rfl,d⟩:=K9 (a 0 _ f rfl rfl) B
  obtain⟨x,rfl⟩:=Ns (a 1 _ n rfl rfl) y
  obtain⟨sl,l,rfl,D,c,_⟩:=Ja (a 2 _ s rfl rfl) q
  obtain⟨I,rfl,hv⟩:=K9 (a 3 _ z rfl rfl) o
  exact Dv tb D c d.1 d.2 hv.1 hv.2)
theorem gg{a b:Bool}(h:a=true)(c:b=true):(a&&b)=true:=by rw[h,c];rfl
theorem BP:(laidOutB Tryz.pinned.checked.prog)=true:=by kernel_rfl
theorem BO:(mapsRowed Tryz.pinned.checked.prog)=true:=by kernel_rfl
theorem D3:((Rows.editSnapsRow.inPlace==Program.inPlace Tryz.pinned.checked.prog 4))=true:=by kernel_rfl
theorem BN:((Rows.editSnapsRow.unfollowed==Program.unfollowed Tryz.pinned.checked.prog 4))=true:=by kernel_rfl
theorem BM:((Rows.editSnapsRow.recurses==Program.recurses Tryz.pinned.checked.prog 4))=true:=by kernel_rfl
theorem DZ:((Rows.editSnapsRow.named==Program.varsNamed Tryz.pinned.checked.prog 4))=true:=by kernel_rfl
theorem D2:((Rows.editSnapsRow.plainKeys==Program.plainKeys Tryz.pinned.checked.prog))=true:=by kernel_rfl
theorem DY:(Program.stopsHeard Tryz.pinned.checked.prog)=true:=by kernel_rfl
theorem D0:(Program.mayEnter Tryz.pinned.checked.prog)=true:=by kernel_rfl
theorem D1:((Rows.editSnapsRow.lifted==Program.liftsFinal Tryz.pinned.checked.prog))=true:=by kernel_rfl
theorem yc:joinedFacts Tryz.pinned.checked.prog 4 Tryz.f4 Rows.editSnapsSpec Rows.editSnapsRow=true:=gg (gg (gg (gg (gg (gg (gg (gg (gg (gg (gg (gg (gg (gg (gg (gg (gg (gg (gg (gg (gg (gg (gg (gg (gg (gg (gg (gg (gg (gg (gg (by kernel_rfl) BP) BO) (by kernel_rfl)) (by kernel_rfl)) (by kernel_rfl)) (by kernel_rfl)) (by kernel_rfl)) (by kernel_rfl)) D3) BN) BM) DZ) (by kernel_rfl)) (by kernel_rfl)) (by kernel_rfl)) (by kernel_rfl)) (by kernel_rfl)) (by kernel_rfl)) (by kernel_rfl)) (by kernel_rfl)) (by kernel_rfl)) D2) (by kernel_rfl)) DY) D0) D1) (by kernel_rfl)) (by kernel_rfl)) (by kernel_rfl)) (by kernel_rfl)) (by kernel_rfl)
theorem BL:Rows.EditSnapsSaid:=
 OpenClaim.holds_of_wide 4 Tryz.f4 rfl rfl rfl rfl rfl rfl rfl ⟨rfl,rfl,rfl,rfl,rfl⟩ rfl rfl rfl rfl rfl (by kernel_rfl) Tryz.func4 yc
  (of_decide_eq_true (by kernel_rfl)) (by unfold Func.isWrapper;first|(rw[if_pos (by decide+kernel)];kernel_rfl)|(rw[if_neg (by decide+kernel)];exact⟨rfl,rfl⟩))
  (fun os a H enc _=>EditSnaps_lifted os a H enc)
theorem EditSnaps_holds:Rows.EditSnapsCardSaid:=
 Claim7.holds_tied_plain_at .later [] [.data] true (true, "9ba128358c7824de27a08e203211f3e0ad7de9ecb0cf4962246ebc3df8925b42") false
  BL (fun _ h=>by cases h) (by kernel_rfl) (fun _ h=>by cases h) editSnaps_row_tie rfl ⟨rfl,rfl⟩ (by kernel_rfl) rfl
  (fun f fn d b=>by
   obtain rfl:f=4:=bi.inj ((show Tryz.prog.funcNamed "quickset/quicksetlaw16.EditSnaps" =some 4 by kernel_rfl).symm.trans d)|>.symm
   obtain rfl:fn=Tryz.f4:=(bi.inj (Tryz.func4.symm.trans b)).symm
   exact⟨by kernel_rfl,fun j t c=>by
    rw[Tryz.params4]at c
    have hm:t∈[dg,bW,cM,dg]:=by simpa using Array.mem_of_getElem? c
    have a:([dg,bW,cM,dg].all fun u=> !Tryz.prog.wantsStandIn u)=true:=by kernel_rfl
    exact(show Tryz.prog.wantsStandIn t=false by simpa using List.all_eq_true.1 a t hm)⟩)
  (by kernel_rfl)
end Go.Proofs.YtajpljopgikpgaaGreatDoor
