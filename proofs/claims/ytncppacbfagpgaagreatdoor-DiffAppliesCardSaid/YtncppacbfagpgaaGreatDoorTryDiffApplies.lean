/- A part of the proof that the named laws of this program answer true, whatever the input. -/
import Derived.Test.YtncppacbfagpgaaGreatDoorPart14
import Derived.Test.YtncppacbfagpgaaGreatDoorTryChs
import Derived.Test.YtncppacbfagpgaaGreatDoorTryInt
import Derived.Test.YtncppacbfagpgaaGreatDoorTryTab
open Option renaming some→bR
namespace Go.Proofs.YtncppacbfagpgaaGreatDoor
open Go Go.Lift Go.Proofs Go.ChangeShapes Go.WideShapes Go.ChangeAt Go.RowKit
set_option maxRecDepth 100000 in
theorem DiffApplies_lifted(os:Os)(e:os.Started)(H:Type)(enc:TypeId×Value→H):
  ReturnsInHanded {} Tryz.checked os 7 .any (fun w args=>(Rows.diffAppliesSpec.pre enc Tryz.prog Tryz.f7 [] false w args∧laidMetH Tryz.prog listed w)∧sizedMet enc Tryz.prog Tryz.f7 (OpenSpec.ofChange Rows.diffAppliesSpec) false w args) (Rows.diffAppliesSpec.post enc Tryz.prog Tryz.f7 false true false false):=
 WY (C:=Tryz.checked) (ts:= [cM,cC,cK,kR,cM,Ln,mz]) (tb:=mz) (by kernel_rfl) (by kernel_rfl) MN rfl (fun ds hd=>by
   match ds,hd with
   | [z,q,P,R,A,n,L],_=>exact⟨rfl,rfl,rfl⟩) Tryz.own Tryz.laidOut (fun t i=>by
   simp only[List.mem_cons,List.not_mem_nil,or_false]at i
   rcases i with rfl|rfl|rfl|rfl|rfl|rfl|rfl<;>exact⟨by kernel_rfl,of_decide_eq_true (by kernel_rfl)⟩) e (by kernel_rfl) Tryz.func7
  (ChangeSpec.witness_shaped (enc:=enc) (C:=Tryz.checked) (os:=os) (X:=fun w _=>laidMetH Tryz.prog listed w) false (World.doorLaid Tryz.prog 14 os) #[.int .u8 0,.agg #[.int .u64 0,.int .u64 0,.int .u64 0],.slice none 0 0,.slice none 0 0,.int .u8 0,.int .u16 0,.bool false] 8 rfl (World.shaped_of_RefB (by kernel_rfl) (by kernel_rfl)) (by kernel_rfl) (by kernel_rfl) (by kernel_rfl) (Xh os _)) Tryz.call7 (by
  intro W b0 args ds p d s I
  have tb:=ZS s
  obtain⟨v,_,z,_,_,_,rfl,_,Z,N⟩:=sq I
  obtain⟨V,_,q,_,_,_,rfl,_,F,B⟩:=sq N
  obtain⟨U,_,P,_,_,_,rfl,_,h2,J⟩:=sq B
  obtain⟨D,_,R,_,_,_,rfl,_,Y,y⟩:=sq J
  obtain⟨T,_,A,_,_,_,rfl,_,G,Q⟩:=sq y
  obtain⟨E,_,n,_,_,_,rfl,_,o,K⟩:=sq Q
  obtain⟨O,_,L,_,_,_,rfl,_,M,S⟩:=sq K
  obtain rfl:=V9 S
  obtain⟨k,rfl,j⟩:=Xx (d 0 _ v rfl rfl) Z
  obtain⟨x,rfl⟩:=aas (d 1 _ V rfl rfl) F
  obtain⟨sl,l,rfl,u,f,_⟩:=Vu (d 2 _ U rfl rfl) h2
  obtain⟨sc,c,rfl,hc,g⟩:=Zd (d 3 _ D rfl rfl) Y
  obtain⟨a,rfl,_⟩:=Xx (d 4 _ T rfl rfl) G
  obtain⟨m,rfl,hm⟩:=Zc (d 5 _ E rfl rfl) o
  obtain⟨b,rfl⟩:=Xy (d 6 _ O rfl rfl) M
  exact IT tb u f hc g j.1 j.2 hm)
theorem kH{a b:Bool}(h:a=true)(h2:b=true):(a&&b)=true:=by rw[h,h2];rfl
theorem G8:(laidOutB Tryz.pinned.checked.prog)=true:=by kernel_rfl
theorem G7:(mapsRowed Tryz.pinned.checked.prog)=true:=by kernel_rfl
theorem JW:((Rows.diffAppliesRow.inPlace==Program.inPlace Tryz.pinned.checked.prog 7))=true:=by kernel_rfl
theorem G6:((Rows.diffAppliesRow.unfollowed==Program.unfollowed Tryz.pinned.checked.prog 7))=true:=by kernel_rfl
theorem G5:((Rows.diffAppliesRow.recurses==Program.recurses Tryz.pinned.checked.prog 7))=true:=by kernel_rfl
theorem JS:((Rows.diffAppliesRow.named==Program.varsNamed Tryz.pinned.checked.prog 7))=true:=by kernel_rfl
theorem JV:((Rows.diffAppliesRow.plainKeys==Program.plainKeys Tryz.pinned.checked.prog))=true:=by kernel_rfl
theorem JR:(Program.stopsHeard Tryz.pinned.checked.prog)=true:=by kernel_rfl
theorem JT:(Program.mayEnter Tryz.pinned.checked.prog)=true:=by kernel_rfl
theorem JU:((Rows.diffAppliesRow.lifted==Program.liftsFinal Tryz.pinned.checked.prog))=true:=by kernel_rfl
theorem CG:joinedFacts Tryz.pinned.checked.prog 7 Tryz.f7 Rows.diffAppliesSpec Rows.diffAppliesRow=true:=kH (kH (kH (kH (kH (kH (kH (kH (kH (kH (kH (kH (kH (kH (kH (kH (kH (kH (kH (kH (kH (kH (kH (kH (kH (kH (kH (kH (kH (kH (kH (by kernel_rfl) G8) G7) (by kernel_rfl)) (by kernel_rfl)) (by kernel_rfl)) (by kernel_rfl)) (by kernel_rfl)) (by kernel_rfl)) JW) G6) G5) JS) (by kernel_rfl)) (by kernel_rfl)) (by kernel_rfl)) (by kernel_rfl)) (by kernel_rfl)) (by kernel_rfl)) (by kernel_rfl)) (by kernel_rfl)) (by kernel_rfl)) JV) (by kernel_rfl)) JR) JT) JU) (by kernel_rfl)) (by kernel_rfl)) (by kernel_rfl)) (by kernel_rfl)) (by kernel_rfl)
theorem G4:Rows.DiffAppliesSaid:=
 OpenClaim.holds_of_wide 7 Tryz.f7 rfl rfl rfl rfl rfl rfl rfl ⟨rfl,rfl,rfl,rfl,rfl⟩ rfl rfl rfl rfl rfl (by kernel_rfl) Tryz.func7 CG
  (of_decide_eq_true (by kernel_rfl)) (by unfold Func.isWrapper;first|(rw[if_pos (by decide+kernel)];kernel_rfl)|(rw[if_neg (by decide+kernel)];exact⟨rfl,rfl⟩))
  (fun os a H enc _=>DiffApplies_lifted os a H enc)
theorem DiffApplies_holds:Rows.DiffAppliesCardSaid:=
 Claim7.holds_tied_plain_at .later [] [.data] true (true, "3e26572691208f6ca28453b63b0794e34a508a677aedfedba8e1f0deab5fc60c") false
  G4 (fun _ h=>by cases h) (by kernel_rfl) (fun _ h=>by cases h) diffApplies_row_tie rfl ⟨rfl,rfl⟩ (by kernel_rfl) rfl
  (fun f fn d b=>by
   obtain rfl:f=7:=bR.inj ((show Tryz.prog.funcNamed "quickset/quicksetlaw17.DiffApplies" =some 7 by kernel_rfl).symm.trans d)|>.symm
   obtain rfl:fn=Tryz.f7:=(bR.inj (Tryz.func7.symm.trans b)).symm
   exact⟨by kernel_rfl,fun j t c=>by
    rw[Tryz.params7]at c
    have hm:t∈[cM,cC,cK,kR,cM,Ln,mz]:=by simpa using Array.mem_of_getElem? c
    have a:([cM,cC,cK,kR,cM,Ln,mz].all fun u=> !Tryz.prog.wantsStandIn u)=true:=by kernel_rfl
    exact(show Tryz.prog.wantsStandIn t=false by simpa using List.all_eq_true.1 a t hm)⟩)
  (by kernel_rfl)
end Go.Proofs.YtncppacbfagpgaaGreatDoor
