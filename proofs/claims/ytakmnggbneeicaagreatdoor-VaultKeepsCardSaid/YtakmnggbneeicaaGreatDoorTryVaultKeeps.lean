/- A part of the proof that the named laws of this program answer true, whatever the input. -/
import Derived.Test.YtakmnggbneeicaaGreatDoorTryA21
import Derived.Test.YtakmnggbneeicaaGreatDoorPart6
import Derived.Test.YtakmnggbneeicaaGreatDoorTryTab
open Option renaming some->bI
namespace Go.Proofs.YtakmnggbneeicaaGreatDoor
open Go Go.Lift Go.Proofs Go.ChangeShapes Go.WideShapes Go.ChangeAt Go.RowKit
set_option maxRecDepth 100000 in
theorem VaultKeeps_lifted(os:Os)(b:os.Started)(H:Type)(enc:TypeId×Value->H):
  ReturnsInHanded {} Tryz.checked os 3 .any (λw args=>(Rows.vaultKeepsSpec.pre enc Tryz.prog Tryz.f3 [] false w args/\laidMetH Tryz.prog listed w)/\sizedMet enc Tryz.prog Tryz.f3 (OpenSpec.ofChange Rows.vaultKeepsSpec) false w args) (Rows.vaultKeepsSpec.post enc Tryz.prog Tryz.f3 false true false false):=
 VY (C:=Tryz.checked) (ts:= [5,26,27]) (tb:=4) a5 a5 Vd rfl (λds hd=>by
   match ds,hd with
   | [e,A,B],_=>exact⟨rfl,rfl,rfl⟩) Tryz.own Tryz.laidOut (λt ht=>by
   simp only[List.mem_cons,List.not_mem_nil,or_false]at ht
   rcases ht with rfl|rfl|rfl<;>exact⟨a5,of_decide_eq_true a5⟩) b a5 Tryz.func3
  (ChangeSpec.witness_shaped (enc:=enc) (C:=Tryz.checked) (os:=os) (X:=λw _=>laidMetH Tryz.prog listed w) false (World.doorLaid Tryz.prog 14 os) #[.int .u8 0,.agg #[.int .u64 0,.int .u64 0,.int .u64 0],.slice none 0 0] 8 rfl (World.shaped_of_RefB a5 a5) a5 a5 a5 (WC os _)) Tryz.call3 (by
  intro W D args ds p a n y
  have tb:=Zs n
  obtain⟨g,_,e,_,_,_,rfl,_,v,m⟩:=DK y
  obtain⟨i,_,A,_,_,_,rfl,_,z,u⟩:=DK m
  obtain⟨o,_,B,_,_,_,rfl,_,q,s⟩:=DK u
  obtain rfl:=Vf s
  obtain⟨k,rfl,d⟩:=ZZ (a 0 _ g rfl rfl) v
  obtain⟨x,rfl⟩:=Z0 (a 1 _ i rfl rfl) z
  obtain⟨sl,l,rfl,f,c,j⟩:=W0 (a 2 _ o rfl rfl) q
  exact Jp tb f c j d.1 d.2)
theorem jm{a b:Bool}(h:a=true)(c:b=true):(a&&b)=true:=by rw[h,c];rfl
theorem IB:(laidOutB Tryz.pinned.checked.prog)=true:=a5
theorem IA:(mapsRowed Tryz.pinned.checked.prog)=true:=a5
theorem JO:((Rows.vaultKeepsRow.inPlace==Program.inPlace Tryz.pinned.checked.prog 3))=true:=a5
theorem Iz:((Rows.vaultKeepsRow.unfollowed==Program.unfollowed Tryz.pinned.checked.prog 3))=true:=a5
theorem Iy:((Rows.vaultKeepsRow.recurses==Program.recurses Tryz.pinned.checked.prog 3))=true:=a5
theorem JK:((Rows.vaultKeepsRow.named==Program.varsNamed Tryz.pinned.checked.prog 3))=true:=a5
theorem JN:((Rows.vaultKeepsRow.plainKeys==Program.plainKeys Tryz.pinned.checked.prog))=true:=a5
theorem JJ:(Program.stopsHeard Tryz.pinned.checked.prog)=true:=a5
theorem JL:(Program.mayEnter Tryz.pinned.checked.prog)=true:=a5
theorem JM:((Rows.vaultKeepsRow.lifted==Program.liftsFinal Tryz.pinned.checked.prog))=true:=a5
theorem CQ:joinedFacts Tryz.pinned.checked.prog 3 Tryz.f3 Rows.vaultKeepsSpec Rows.vaultKeepsRow=true:=jm (jm (jm (jm (jm (jm (jm (jm (jm (jm (jm (jm (jm (jm (jm (jm (jm (jm (jm (jm (jm (jm (jm (jm (jm (jm (jm (jm (jm (jm (jm a5 IB) IA) a5) a5) a5) a5) a5) a5) JO) Iz) Iy) JK) a5) a5) a5) a5) a5) a5) a5) a5) a5) JN) a5) JJ) JL) JM) a5) a5) a5) a5) a5
theorem Ix:Rows.VaultKeepsSaid:=
 OpenClaim.holds_of_wide 3 Tryz.f3 rfl rfl rfl rfl rfl rfl rfl ⟨rfl,rfl,rfl,rfl,rfl⟩ rfl rfl rfl rfl rfl a5 Tryz.func3 CQ
  (of_decide_eq_true a5) (by unfold Func.isWrapper;first|(rw[if_pos (by decide+kernel)];kernel_rfl)|(rw[if_neg (by decide+kernel)];exact⟨rfl,rfl⟩))
  (λos a H enc _=>VaultKeeps_lifted os a H enc)
theorem VaultKeeps_holds:Rows.VaultKeepsCardSaid:=
 Claim7.holds_tied_plain_at .later [] [.data] true (true, "6bbbb60115e56fad8a4d29bfa8a8be1e5c3699814ab7c27a0ded322c10ecb520") true
  Ix (λ_ h=>by cases h) a5 (λ_ h=>by cases h) vaultKeeps_row_tie rfl ⟨rfl,rfl⟩ a5 rfl
  (λf fn c b=>by
   obtain rfl:f=3:=bI.inj ((show Tryz.prog.funcNamed "quickset/quicksetlaw21.VaultKeeps" =some 3 by kernel_rfl).symm.trans c)|>.symm
   obtain rfl:fn=Tryz.f3:=(bI.inj (Tryz.func3.symm.trans b)).symm
   exact⟨a5,λj t ht=>by
    rw[Tryz.params3]at ht
    have hm:t∈[5,26,27]:=by simpa using Array.mem_of_getElem? ht
    have a:([5,26,27].all λu=> !Tryz.prog.wantsStandIn u)=true:=a5
    exact(show Tryz.prog.wantsStandIn t=false by simpa using List.all_eq_true.1 a t hm)⟩)
  a5
end Go.Proofs.YtakmnggbneeicaaGreatDoor
