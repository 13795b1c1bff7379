/- A part of the proof that the named laws of this program answer true, whatever the input. -/
import Derived.Test.YtncppacbfagpgaaGreatDoorPart14
import Derived.Test.YtncppacbfagpgaaGreatDoorTryStrs
import Derived.Test.YtncppacbfagpgaaGreatDoorTryInt
import Derived.Test.YtncppacbfagpgaaGreatDoorTryTab
open Option renaming some→bO
namespace Go.Proofs.YtncppacbfagpgaaGreatDoor
open Go Go.Lift Go.Proofs Go.ChangeShapes Go.WideShapes Go.ChangeAt Go.RowKit
set_option maxRecDepth 100000 in
theorem MergeTakes_lifted(os:Os)(c:os.Started)(H:Type)(enc:TypeId×Value→H):
  ReturnsInHanded {} Tryz.checked os 10 .any (fun w args=>(Rows.mergeTakesSpec.pre enc Tryz.prog Tryz.f10 [] false w args∧laidMetH Tryz.prog listed w)∧sizedMet enc Tryz.prog Tryz.f10 (OpenSpec.ofChange Rows.mergeTakesSpec) false w args) (Rows.mergeTakesSpec.post enc Tryz.prog Tryz.f10 false true false false):=
 Yg (C:=Tryz.checked) (ts:= [cQ,cA,cr,cr,cr,vC,vC,rG,jJ]) (tb:=rG) (by kernel_rfl) (by kernel_rfl) Xp rfl (fun ds hd=>by
   match ds,hd with
   | [S,y,N,d3,d4,Q,D,V,d8],_=>exact⟨rfl,rfl,rfl⟩) Tryz.own Tryz.laidOut (fun t s=>by
   simp only[List.mem_cons,List.not_mem_nil,or_false]at s
   rcases s with rfl|rfl|rfl|rfl|rfl|rfl|rfl|rfl|rfl<;>exact⟨by kernel_rfl,of_decide_eq_true (by kernel_rfl)⟩) c (by kernel_rfl) Tryz.func10
  (ChangeSpec.witness_shaped (enc:=enc) (C:=Tryz.checked) (os:=os) (X:=fun w _=>laidMetH Tryz.prog listed w) false (World.doorLaid Tryz.prog 14 os) #[.int .u8 0,.agg #[.int .u64 0,.int .u64 0,.int .u64 0],.slice none 0 0,.slice none 0 0,.slice none 0 0,.slice none 0 0,.slice none 0 0,.bool false,.int .i64 0] 8 rfl (World.shaped_of_RefB (by kernel_rfl) (by kernel_rfl)) (by kernel_rfl) (by kernel_rfl) (by kernel_rfl) (Yz os _)) Tryz.call10 (by
  intro W b0 args ds p a A B
  have tb:=abn A
  obtain⟨z,_,S,_,_,_,rfl,_,h0,r0⟩:=pw B
  obtain⟨v1,_,y,_,_,_,rfl,_,h1,r1⟩:=pw r0
  obtain⟨v2,_,N,_,_,_,rfl,_,h2,r2⟩:=pw r1
  obtain⟨P,_,d3,_,_,_,rfl,_,O,r3⟩:=pw r2
  obtain⟨Y,_,d4,_,_,_,rfl,_,E,M⟩:=pw r3
  obtain⟨v5,_,Q,_,_,_,rfl,_,h5,T⟩:=pw M
  obtain⟨v,_,D,_,_,_,rfl,_,R,r6⟩:=pw T
  obtain⟨Z,_,V,_,_,_,rfl,_,J,U⟩:=pw r6
  obtain⟨I,_,d8,_,_,_,rfl,_,F,L⟩:=pw U
  obtain rfl:=Xq L
  obtain⟨k,rfl,u⟩:=ab2 (a 0 _ z rfl rfl) h0
  obtain⟨x,rfl⟩:=ab3 (a 1 _ v1 rfl rfl) h1
  obtain⟨sl,l,rfl,hl,f,_⟩:=Gj (a 2 _ v2 rfl rfl) h2
  obtain⟨sm,m,rfl,hm,e,_⟩:=Gj (a 3 _ P rfl rfl) O
  obtain⟨sn,n,rfl,K,i,_⟩:=Gj (a 4 _ Y rfl rfl) E
  obtain⟨sg,g,rfl,G,o⟩:=QG (a 5 _ v5 rfl rfl) h5
  obtain⟨sd,d,rfl,hd,j⟩:=QG (a 6 _ v rfl rfl) R
  obtain⟨b,rfl⟩:=YU (a 7 _ Z rfl rfl) J
  obtain⟨q,rfl⟩:=aaE (a 8 _ I rfl rfl) F
  exact Lg tb hl f hm e K i G o hd j u.1 u.2)
theorem lw{a b:Bool}(h:a=true)(h2:b=true):(a&&b)=true:=by rw[h,h2];rfl
theorem Kf:(laidOutB Tryz.pinned.checked.prog)=true:=by kernel_rfl
theorem Ke:(mapsRowed Tryz.pinned.checked.prog)=true:=by kernel_rfl
theorem Lz:((Rows.mergeTakesRow.inPlace==Program.inPlace Tryz.pinned.checked.prog 10))=true:=by kernel_rfl
theorem Kd:((Rows.mergeTakesRow.unfollowed==Program.unfollowed Tryz.pinned.checked.prog 10))=true:=by kernel_rfl
theorem Kc:((Rows.mergeTakesRow.recurses==Program.recurses Tryz.pinned.checked.prog 10))=true:=by kernel_rfl
theorem Lv:((Rows.mergeTakesRow.named==Program.varsNamed Tryz.pinned.checked.prog 10))=true:=by kernel_rfl
theorem Ly:((Rows.mergeTakesRow.plainKeys==Program.plainKeys Tryz.pinned.checked.prog))=true:=by kernel_rfl
theorem Lu:(Program.stopsHeard Tryz.pinned.checked.prog)=true:=by kernel_rfl
theorem Lw:(Program.mayEnter Tryz.pinned.checked.prog)=true:=by kernel_rfl
theorem Lx:((Rows.mergeTakesRow.lifted==Program.liftsFinal Tryz.pinned.checked.prog))=true:=by kernel_rfl
theorem EG:joinedFacts Tryz.pinned.checked.prog 10 Tryz.f10 Rows.mergeTakesSpec Rows.mergeTakesRow=true:=lw (lw (lw (lw (lw (lw (lw (lw (lw (lw (lw (lw (lw (lw (lw (lw (lw (lw (lw (lw (lw (lw (lw (lw (lw (lw (lw (lw (lw (lw (lw (by kernel_rfl) Kf) Ke) (by kernel_rfl)) (by kernel_rfl)) (by kernel_rfl)) (by kernel_rfl)) (by kernel_rfl)) (by kernel_rfl)) Lz) Kd) Kc) Lv) (by kernel_rfl)) (by kernel_rfl)) (by kernel_rfl)) (by kernel_rfl)) (by kernel_rfl)) (by kernel_rfl)) (by kernel_rfl)) (by kernel_rfl)) (by kernel_rfl)) Ly) (by kernel_rfl)) Lu) Lw) Lx) (by kernel_rfl)) (by kernel_rfl)) (by kernel_rfl)) (by kernel_rfl)) (by kernel_rfl)
theorem Kb:Rows.MergeTakesSaid:=
 OpenClaim.holds_of_wide 10 Tryz.f10 rfl rfl rfl rfl rfl rfl rfl ⟨rfl,rfl,rfl,rfl,rfl⟩ rfl rfl rfl rfl rfl (by kernel_rfl) Tryz.func10 EG
  (of_decide_eq_true (by kernel_rfl)) (by unfold Func.isWrapper;first|(rw[if_pos (by decide+kernel)];kernel_rfl)|(rw[if_neg (by decide+kernel)];exact⟨rfl,rfl⟩))
  (fun os a H enc _=>MergeTakes_lifted os a H enc)
theorem MergeTakes_holds:Rows.MergeTakesCardSaid:=
 Claim7.holds_tied_plain_at .later [] [.data] true (true, "3e26572691208f6ca28453b63b0794e34a508a677aedfedba8e1f0deab5fc60c") false
  Kb (fun _ h=>by cases h) (by kernel_rfl) (fun _ h=>by cases h) mergeTakes_row_tie rfl ⟨rfl,rfl⟩ (by kernel_rfl) rfl
  (fun f fn d b=>by
   obtain rfl:f=10:=bO.inj ((show Tryz.prog.funcNamed "quickset/quicksetlaw18.MergeTakes" =some 10 by kernel_rfl).symm.trans d)|>.symm
   obtain rfl:fn=Tryz.f10:=(bO.inj (Tryz.func10.symm.trans b)).symm
   exact⟨by kernel_rfl,fun j t c=>by
    rw[Tryz.params10]at c
    have hm:t∈[cQ,cA,cr,cr,cr,vC,vC,rG,jJ]:=by simpa using Array.mem_of_getElem? c
    have a:([cQ,cA,cr,cr,cr,vC,vC,rG,jJ].all fun u=> !Tryz.prog.wantsStandIn u)=true:=by kernel_rfl
    exact(show Tryz.prog.wantsStandIn t=false by simpa using List.all_eq_true.1 a t hm)⟩)
  (by kernel_rfl)
end Go.Proofs.YtncppacbfagpgaaGreatDoor
