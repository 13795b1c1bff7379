/- A part of the proof that the named laws of this program answer true, whatever the input. -/
import Derived.Test.YtajpljopgikpgaaGreatDoorPart11
import Derived.Test.YtajpljopgikpgaaGreatDoorTryInt
import Derived.Test.YtajpljopgikpgaaGreatDoorTryStrs
import Derived.Test.YtajpljopgikpgaaGreatDoorTryTab
open Option renaming some→bv
namespace Go.Proofs.YtajpljopgikpgaaGreatDoor
open Go Go.Lift Go.Proofs Go.ChangeShapes Go.WideShapes Go.ChangeAt Go.RowKit
set_option maxRecDepth 100000 in
theorem EditRuns_lifted(os:Os)(b:os.Started)(H:Type)(enc:TypeId×Value→H):
  ReturnsInHanded {} Tryz.checked os 5 .any (fun w args=>(Rows.editRunsSpec.pre enc Tryz.prog Tryz.f5 [] false w args∧laidMetH Tryz.prog listed w)∧sizedMet enc Tryz.prog Tryz.f5 (OpenSpec.ofChange Rows.editRunsSpec) false w args) (Rows.editRunsSpec.post enc Tryz.prog Tryz.f5 false true false false):=
 O2 (C:=Tryz.checked) (ts:= [cp,cH,cR,cR,vP,EK]) (tb:=qm) (by kernel_rfl) (by kernel_rfl) RR rfl (fun ds hd=>by
   match ds,hd with
   | [u,s,O,I,D,S],_=>exact⟨rfl,rfl,rfl⟩) Tryz.own Tryz.laidOut (fun t j=>by
   simp only[List.mem_cons,List.not_mem_nil,or_false]at j
   rcases j with rfl|rfl|rfl|rfl|rfl|rfl<;>exact⟨by kernel_rfl,of_decide_eq_true (by kernel_rfl)⟩) b (by kernel_rfl) Tryz.func5
  (ChangeSpec.witness_shaped (enc:=enc) (C:=Tryz.checked) (os:=os) (X:=fun w _=>laidMetH Tryz.prog listed w) false (World.doorLaid Tryz.prog 14 os) #[.int .u8 0,.agg #[.int .u64 0,.int .u64 0,.int .u64 0],.slice none 0 0,.slice none 0 0,.slice none 0 0,.int .u16 0] 8 rfl (World.shaped_of_RefB (by kernel_rfl) (by kernel_rfl)) (by kernel_rfl) (by kernel_rfl) (by kernel_rfl) (Px os _)) Tryz.call5 (by
  intro W Z args ds p a J K
  have tb:=RZ J
  obtain⟨R,_,u,_,_,_,rfl,_,G,P⟩:=qh K
  obtain⟨B,_,s,_,_,_,rfl,_,T,q⟩:=qh P
  obtain⟨v,_,O,_,_,_,rfl,_,A,o⟩:=qh q
  obtain⟨V,_,I,_,_,_,rfl,_,E,N⟩:=qh o
  obtain⟨F,_,D,_,_,_,rfl,_,Q,r4⟩:=qh N
  obtain⟨M,_,S,_,_,_,rfl,_,y,z⟩:=qh r4
  obtain rfl:=Of z
  obtain⟨k,rfl,i⟩:=S7 (a 0 _ R rfl rfl) G
  obtain⟨x,rfl⟩:=S8 (a 1 _ B rfl rfl) T
  obtain⟨sl,l,rfl,L,c,_⟩:=FF (a 2 _ v rfl rfl) A
  obtain⟨sm,m,rfl,hm,e,_⟩:=FF (a 3 _ V rfl rfl) E
  obtain⟨Y,d,rfl,hd,f⟩:=PQ (a 4 _ F rfl rfl) Q
  obtain⟨n,rfl,g⟩:=Ri (a 5 _ M rfl rfl) y
  exact Ik tb L c hm e hd f i.1 i.2 g.1 g.2)
theorem ik{a b:Bool}(h:a=true)(c:b=true):(a&&b)=true:=by rw[h,c];rfl
theorem Hb:(laidOutB Tryz.pinned.checked.prog)=true:=by kernel_rfl
theorem Ha:(mapsRowed Tryz.pinned.checked.prog)=true:=by kernel_rfl
theorem I9:((Rows.editRunsRow.inPlace==Program.inPlace Tryz.pinned.checked.prog 5))=true:=by kernel_rfl
theorem G9:((Rows.editRunsRow.unfollowed==Program.unfollowed Tryz.pinned.checked.prog 5))=true:=by kernel_rfl
theorem G8:((Rows.editRunsRow.recurses==Program.recurses Tryz.pinned.checked.prog 5))=true:=by kernel_rfl
theorem IY:((Rows.editRunsRow.named==Program.varsNamed Tryz.pinned.checked.prog 5))=true:=by kernel_rfl
theorem I6:((Rows.editRunsRow.plainKeys==Program.plainKeys Tryz.pinned.checked.prog))=true:=by kernel_rfl
theorem IX:(Program.stopsHeard Tryz.pinned.checked.prog)=true:=by kernel_rfl
theorem IZ:(Program.mayEnter Tryz.pinned.checked.prog)=true:=by kernel_rfl
theorem I0:((Rows.editRunsRow.lifted==Program.liftsFinal Tryz.pinned.checked.prog))=true:=by kernel_rfl
theorem BR:joinedFacts Tryz.pinned.checked.prog 5 Tryz.f5 Rows.editRunsSpec Rows.editRunsRow=true:=ik (ik (ik (ik (ik (ik (ik (ik (ik (ik (ik (ik (ik (ik (ik (ik (ik (ik (ik (ik (ik (ik (ik (ik (ik (ik (ik (ik (ik (ik (ik (by kernel_rfl) Hb) Ha) (by kernel_rfl)) (by kernel_rfl)) (by kernel_rfl)) (by kernel_rfl)) (by kernel_rfl)) (by kernel_rfl)) I9) G9) G8) IY) (by kernel_rfl)) (by kernel_rfl)) (by kernel_rfl)) (by kernel_rfl)) (by kernel_rfl)) (by kernel_rfl)) (by kernel_rfl)) (by kernel_rfl)) (by kernel_rfl)) I6) (by kernel_rfl)) IX) IZ) I0) (by kernel_rfl)) (by kernel_rfl)) (by kernel_rfl)) (by kernel_rfl)) (by kernel_rfl)
theorem G7:Rows.EditRunsSaid:=
 OpenClaim.holds_of_wide 5 Tryz.f5 rfl rfl rfl rfl rfl rfl rfl ⟨rfl,rfl,rfl,rfl,rfl⟩ rfl rfl rfl rfl rfl (by kernel_rfl) Tryz.func5 BR
  (of_decide_eq_true (by kernel_rfl)) (by unfold Func.isWrapper;first|(rw[if_pos (by decide+kernel)];kernel_rfl)|(rw[if_neg (by decide+kernel)];exact⟨rfl,rfl⟩))
  (fun os a H enc _=>EditRuns_lifted os a H enc)
theorem EditRuns_holds:Rows.EditRunsCardSaid:=
 Claim7.holds_tied_plain_at .later [] [.data] true (true, "9ba128358c7824de27a08e203211f3e0ad7de9ecb0cf4962246ebc3df8925b42") false
  G7 (fun _ h=>by cases h) (by kernel_rfl) (fun _ h=>by cases h) editRuns_row_tie rfl ⟨rfl,rfl⟩ (by kernel_rfl) rfl
  (fun f fn d b=>by
   obtain rfl:f=5:=bv.inj ((show Tryz.prog.funcNamed "quickset/quicksetlaw16.EditRuns" =some 5 by kernel_rfl).symm.trans d)|>.symm
   obtain rfl:fn=Tryz.f5:=(bv.inj (Tryz.func5.symm.trans b)).symm
   exact⟨by kernel_rfl,fun j t c=>by
    rw[Tryz.params5]at c
    have hm:t∈[cp,cH,cR,cR,vP,EK]:=by simpa using Array.mem_of_getElem? c
    have a:([cp,cH,cR,cR,vP,EK].all fun u=> !Tryz.prog.wantsStandIn u)=true:=by kernel_rfl
    exact(show Tryz.prog.wantsStandIn t=false by simpa using List.all_eq_true.1 a t hm)⟩)
  (by kernel_rfl)
end Go.Proofs.YtajpljopgikpgaaGreatDoor
