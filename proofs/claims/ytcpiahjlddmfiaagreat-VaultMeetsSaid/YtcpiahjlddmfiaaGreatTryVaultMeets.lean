/- A part of the proof that the named laws of this program answer true, whatever the input. -/
import Derived.Test.YtcpiahjlddmfiaaGreatTryTree
import Derived.Test.YtcpiahjlddmfiaaGreatPart10
namespace Go.Proofs.YtcpiahjlddmfiaaGreat
open Go Go.Lift Go.Proofs Go.ChangeShapes Go.WideShapes Go.ChangeAt Go.RowKit
set_option maxRecDepth 100000 in
theorem VaultMeets_lifted(os:Os)(b:os.Started)(H:Type)(enc:TypeId×Value→H):
  ReturnsInHanded {} Tryz.checked os 3 .any (Rows.vaultMeetsSpec.pre6 enc Tryz.prog Tryz.f3 Rows.vaultMeetsRow.domain false) (Rows.vaultMeetsSpec.post enc Tryz.prog Tryz.f3 false true false false):=
 law_lifted (C:=Tryz.checked) (ts:= [HX,ct,cf,cf,cf,HX]) (tb:=xe) (by kernel_rfl) (by kernel_rfl) S4 rfl (fun ds hd=>by
   match ds,hd with
   | [D,P,z,R,N,j],_=>exact⟨rfl,rfl,rfl⟩) Tryz.own Tryz.laidOut (fun t f=>by
   simp only[List.mem_cons,List.not_mem_nil,or_false]at f
   rcases f with rfl|rfl|rfl|rfl|rfl|rfl<;>exact⟨by kernel_rfl,of_decide_eq_true (by kernel_rfl)⟩) b (by kernel_rfl) Tryz.func3
  (ChangeSpec.witness6 (enc:=enc) (C:=Tryz.checked) false ⟨#[],#[.int .u8 0,.agg #[.int .u64 0,.int .u64 0,.int .u64 0],.slice none 0 0,.slice none 0 0,.slice none 0 0,.int .u8 0],[]⟩ 8 (by kernel_rfl) (by kernel_rfl) (by kernel_rfl) (by kernel_rfl)) Tryz.call3 (by
  intro W Z args ds p a G
  obtain⟨I,_,D,_,_,_,rfl,_,y,u⟩:=ss G
  obtain⟨J,_,P,_,_,_,rfl,_,A,s⟩:=ss u
  obtain⟨T,_,z,_,_,_,rfl,_,S,O⟩:=ss s
  obtain⟨L,_,R,_,_,_,rfl,_,B,w⟩:=ss O
  obtain⟨K,_,N,_,_,_,rfl,_,E,o⟩:=ss w
  obtain⟨Q,_,j,_,_,_,rfl,_,F,V⟩:=ss o
  obtain rfl:=Pv V
  obtain⟨k,rfl,i⟩:=QO (a 0 _ I rfl rfl) y
  obtain⟨x,rfl⟩:=TL (a 1 _ J rfl rfl) A
  obtain⟨sl,l,rfl,U,d,_⟩:=Cv (a 2 _ T rfl rfl) S
  obtain⟨X,m,rfl,hm,c,_⟩:=Cv (a 3 _ L rfl rfl) B
  obtain⟨Y,n,rfl,v,e,_⟩:=Cv (a 4 _ K rfl rfl) E
  obtain⟨q,rfl,g⟩:=QO (a 5 _ Q rfl rfl) F
  exact F8 U d hm c v e i.1 i.2 g.1 g.2)
theorem VaultMeets_holds:Rows.VaultMeetsSaid:=
 OpenClaim.holds_of_wide 3 Tryz.f3 rfl rfl rfl rfl rfl rfl rfl ⟨rfl,rfl,rfl,rfl,rfl⟩ rfl rfl rfl rfl rfl (by kernel_rfl) Tryz.func3 (by kernel_rfl)
  (of_decide_eq_true (by kernel_rfl)) (by unfold Func.isWrapper;first|(rw[if_pos (by decide+kernel)];kernel_rfl)|(rw[if_neg (by decide+kernel)];exact⟨rfl,rfl⟩))
  (fun os a H enc _=>VaultMeets_lifted os a H enc)
end Go.Proofs.YtcpiahjlddmfiaaGreat
