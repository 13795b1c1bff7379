/- A part of the proof that the named laws of this program answer true, whatever the input. -/
import Derived.Test.YtcpiahjlddmfiaaGreatTryNums
namespace Go.Proofs.YtcpiahjlddmfiaaGreat
open Go Go.Lift Go.Proofs Go.ChangeShapes Go.WideShapes Go.ChangeAt Go.RowKit
set_option maxRecDepth 100000 in
theorem VaultPuts_lifted(os:Os)(b:os.Started)(H:Type)(enc:TypeId×Value→H):
  ReturnsInHanded {} Tryz.checked os 5 .any (Rows.vaultPutsSpec.pre6 enc Tryz.prog Tryz.f5 Rows.vaultPutsRow.domain false) (Rows.vaultPutsSpec.post enc Tryz.prog Tryz.f5 false true false false):=
 law_lifted (C:=Tryz.checked) (ts:= [bX,cq,uk,wO,LY]) (tb:=vD) (by kernel_rfl) (by kernel_rfl) Sn rfl (fun ds hd=>by
   match ds,hd with
   | [L,o,A,q,s],_=>exact⟨rfl,rfl,rfl⟩) Tryz.own Tryz.laidOut (fun t f=>by
   simp only[List.mem_cons,List.not_mem_nil,or_false]at f
   rcases f with rfl|rfl|rfl|rfl|rfl<;>exact⟨by kernel_rfl,of_decide_eq_true (by kernel_rfl)⟩) b (by kernel_rfl) Tryz.func5
  (ChangeSpec.witness6 (enc:=enc) (C:=Tryz.checked) false ⟨#[],#[.int .u8 0,.agg #[.int .u64 0,.int .u64 0,.int .u64 0],.slice none 0 0,.slice none 0 0,.string ⟨#[]⟩],[]⟩ 8 (by kernel_rfl) (by kernel_rfl) (by kernel_rfl) (by kernel_rfl)) Tryz.call5 (by
  intro W O args ds p a g
  obtain⟨G,_,L,_,_,_,rfl,_,m,v⟩:=tI g
  obtain⟨F,_,o,_,_,_,rfl,_,B,u⟩:=tI v
  obtain⟨i,_,A,_,_,_,rfl,_,z,J⟩:=tI u
  obtain⟨E,_,q,_,_,_,rfl,_,K,D⟩:=tI J
  obtain⟨I,_,s,_,_,_,rfl,_,n,j⟩:=tI D
  obtain rfl:=OB j
  obtain⟨k,rfl,e⟩:=S5 (a 0 _ G rfl rfl) m
  obtain⟨x,rfl⟩:=S6 (a 1 _ F rfl rfl) B
  obtain⟨N,is,rfl,hi,c⟩:=PX (a 2 _ i rfl rfl) z
  obtain⟨sp,pp,rfl,y,d⟩:=NN (a 3 _ E rfl rfl) K
  obtain⟨w,rfl⟩:=RN (a 4 _ I rfl rfl) n
  exact F9 hi c y d e.1 e.2)
theorem VaultPuts_holds:Rows.VaultPutsSaid:=
 OpenClaim.holds_of_wide 5 Tryz.f5 rfl rfl rfl rfl rfl rfl rfl ⟨rfl,rfl,rfl,rfl,rfl⟩ rfl rfl rfl rfl rfl (by kernel_rfl) Tryz.func5 (by kernel_rfl)
  (of_decide_eq_true (by kernel_rfl)) (by unfold Func.isWrapper;first|(rw[if_pos (by decide+kernel)];kernel_rfl)|(rw[if_neg (by decide+kernel)];exact⟨rfl,rfl⟩))
  (fun os a H enc _=>VaultPuts_lifted os a H enc)
end Go.Proofs.YtcpiahjlddmfiaaGreat
