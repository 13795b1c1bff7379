/- A part of the proof that the named laws of this program answer true, whatever the input. -/
import Derived.Test.YtncppacbfagpgaaGreatDoorPart14
import Derived.Test.YtncppacbfagpgaaGreatDoorTryStrs
import Derived.Test.YtncppacbfagpgaaGreatDoorTryTab
open Option renaming some→bQ
namespace Go.Proofs.YtncppacbfagpgaaGreatDoor
open Go Go.Lift Go.Proofs Go.ChangeShapes Go.WideShapes Go.ChangeAt Go.RowKit
set_option maxRecDepth 100000 in
theorem DiffTells_lifted(os:Os)(c:os.Started)(H:Type)(enc:TypeId×Value→H):
  ReturnsInHanded {} Tryz.checked os 8 .any (fun w args=>(Rows.diffTellsSpec.pre enc Tryz.prog Tryz.f8 [] false w args∧laidMetH Tryz.prog listed w)∧sizedMet enc Tryz.prog Tryz.f8 (OpenSpec.ofChange Rows.diffTellsSpec) false w args) (Rows.diffTellsSpec.post enc Tryz.prog Tryz.f8 false true false false):=
 YL (C:=Tryz.checked) (ts:= [cP,cE,cD,cD,BE,rX]) (tb:=rX) (by kernel_rfl) (by kernel_rfl) XT rfl (fun ds hd=>by
   match ds,hd with
   | [y,z,M,o,L,G],_=>exact⟨rfl,rfl,rfl⟩) Tryz.own Tryz.laidOut (fun t i=>by
   simp only[List.mem_cons,List.not_mem_nil,or_false]at i
   rcases i with rfl|rfl|rfl|rfl|rfl|rfl<;>exact⟨by kernel_rfl,of_decide_eq_true (by kernel_rfl)⟩) c (by kernel_rfl) Tryz.func8
  (ChangeSpec.witness_shaped (enc:=enc) (C:=Tryz.checked) (os:=os) (X:=fun w _=>laidMetH Tryz.prog listed w) false (World.doorLaid Tryz.prog 14 os) #[.int .u8 0,.agg #[.int .u64 0,.int .u64 0,.int .u64 0],.slice none 0 0,.slice none 0 0,.slice none 0 0,.bool false] 8 rfl (World.shaped_of_RefB (by kernel_rfl) (by kernel_rfl)) (by kernel_rfl) (by kernel_rfl) (by kernel_rfl) (Y4 os _)) Tryz.call8 (by
  intro W V args ds p a u A
  have tb:=abC u
  obtain⟨J,_,y,_,_,_,rfl,_,O,B⟩:=vZ A
  obtain⟨I,_,z,_,_,_,rfl,_,K,U⟩:=vZ B
  obtain⟨T,_,M,_,_,_,rfl,_,h2,D⟩:=vZ U
  obtain⟨P,_,o,_,_,_,rfl,_,N,n⟩:=vZ D
  obtain⟨R,_,L,_,_,_,rfl,_,S,q⟩:=vZ n
  obtain⟨Q,_,G,_,_,_,rfl,_,E,F⟩:=vZ q
  obtain rfl:=XU F
  obtain⟨k,rfl,j⟩:=acb (a 0 _ J rfl rfl) O
  obtain⟨x,rfl⟩:=acd (a 1 _ I rfl rfl) K
  obtain⟨sl,l,rfl,v,d,_⟩:=ND (a 2 _ T rfl rfl) h2
  obtain⟨Y,m,rfl,hm,e,_⟩:=ND (a 3 _ P rfl rfl) N
  obtain⟨sg,g,rfl,s,f⟩:=Zl (a 4 _ R rfl rfl) S
  obtain⟨b,rfl⟩:=Zm (a 5 _ Q rfl rfl) E
  exact OM tb v d hm e s f j.1 j.2)
theorem lC{a b:Bool}(h:a=true)(h2:b=true):(a&&b)=true:=by rw[h,h2];rfl
theorem Mg:(laidOutB Tryz.pinned.checked.prog)=true:=by kernel_rfl
theorem Mf:(mapsRowed Tryz.pinned.checked.prog)=true:=by kernel_rfl
theorem Pv:((Rows.diffTellsRow.inPlace==Program.inPlace Tryz.pinned.checked.prog 8))=true:=by kernel_rfl
theorem Me:((Rows.diffTellsRow.unfollowed==Program.unfollowed Tryz.pinned.checked.prog 8))=true:=by kernel_rfl
theorem Md:((Rows.diffTellsRow.recurses==Program.recurses Tryz.pinned.checked.prog 8))=true:=by kernel_rfl
theorem Pq:((Rows.diffTellsRow.named==Program.varsNamed Tryz.pinned.checked.prog 8))=true:=by kernel_rfl
theorem Pu:((Rows.diffTellsRow.plainKeys==Program.plainKeys Tryz.pinned.checked.prog))=true:=by kernel_rfl
theorem Pp:(Program.stopsHeard Tryz.pinned.checked.prog)=true:=by kernel_rfl
theorem Ps:(Program.mayEnter Tryz.pinned.checked.prog)=true:=by kernel_rfl
theorem Pt:((Rows.diffTellsRow.lifted==Program.liftsFinal Tryz.pinned.checked.prog))=true:=by kernel_rfl
theorem GK:joinedFacts Tryz.pinned.checked.prog 8 Tryz.f8 Rows.diffTellsSpec Rows.diffTellsRow=true:=lC (lC (lC (lC (lC (lC (lC (lC (lC (lC (lC (lC (lC (lC (lC (lC (lC (lC (lC (lC (lC (lC (lC (lC (lC (lC (lC (lC (lC (lC (lC (by kernel_rfl) Mg) Mf) (by kernel_rfl)) (by kernel_rfl)) (by kernel_rfl)) (by kernel_rfl)) (by kernel_rfl)) (by kernel_rfl)) Pv) Me) Md) Pq) (by kernel_rfl)) (by kernel_rfl)) (by kernel_rfl)) (by kernel_rfl)) (by kernel_rfl)) (by kernel_rfl)) (by kernel_rfl)) (by kernel_rfl)) (by kernel_rfl)) Pu) (by kernel_rfl)) Pp) Ps) Pt) (by kernel_rfl)) (by kernel_rfl)) (by kernel_rfl)) (by kernel_rfl)) (by kernel_rfl)
theorem Mc:Rows.DiffTellsSaid:=
 OpenClaim.holds_of_wide 8 Tryz.f8 rfl rfl rfl rfl rfl rfl rfl ⟨rfl,rfl,rfl,rfl,rfl⟩ rfl rfl rfl rfl rfl (by kernel_rfl) Tryz.func8 GK
  (of_decide_eq_true (by kernel_rfl)) (by unfold Func.isWrapper;first|(rw[if_pos (by decide+kernel)];kernel_rfl)|(rw[if_neg (by decide+kernel)];exact⟨rfl,rfl⟩))
  (fun os a H enc _=>DiffTells_lifted os a H enc)
theorem DiffTells_holds:Rows.DiffTellsCardSaid:=
 Claim7.holds_tied_plain_at .later [] [.data] true (true, "3e26572691208f6ca28453b63b0794e34a508a677aedfedba8e1f0deab5fc60c") false
  Mc (fun _ h=>by cases h) (by kernel_rfl) (fun _ h=>by cases h) diffTells_row_tie rfl ⟨rfl,rfl⟩ (by kernel_rfl) rfl
  (fun f fn d b=>by
   obtain rfl:f=8:=bQ.inj ((show Tryz.prog.funcNamed "quickset/quicksetlaw17.DiffTells" =some 8 by kernel_rfl).symm.trans d)|>.symm
   obtain rfl:fn=Tryz.f8:=(bQ.inj (Tryz.func8.symm.trans b)).symm
   exact⟨by kernel_rfl,fun j t c=>by
    rw[Tryz.params8]at c
    have hm:t∈[cP,cE,cD,cD,BE,rX]:=by simpa using Array.mem_of_getElem? c
    have a:([cP,cE,cD,cD,BE,rX].all fun u=> !Tryz.prog.wantsStandIn u)=true:=by kernel_rfl
    exact(show Tryz.prog.wantsStandIn t=false by simpa using List.all_eq_true.1 a t hm)⟩)
  (by kernel_rfl)
end Go.Proofs.YtncppacbfagpgaaGreatDoor
