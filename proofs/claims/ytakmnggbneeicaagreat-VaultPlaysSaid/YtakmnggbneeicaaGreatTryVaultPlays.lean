/- A part of the proof that the named laws of this program answer true, whatever the input. -/
import Derived.Test.YtakmnggbneeicaaGreatTryA21
import Derived.Test.YtakmnggbneeicaaGreatTryInt
import Derived.Test.YtakmnggbneeicaaGreatPart6
namespace Go.Proofs.YtakmnggbneeicaaGreat
open Go Go.Lift Go.Proofs Go.ChangeShapes Go.WideShapes Go.ChangeAt Go.RowKit
set_option maxRecDepth 100000 in
theorem VaultPlays_lifted(os:Os)(b:os.Started)(H:Type)(enc:TypeId×Value->H):
  ReturnsInHanded {} Tryz.checked os 4 .any (Rows.vaultPlaysSpec.pre6 enc Tryz.prog Tryz.f4 Rows.vaultPlaysRow.domain false) (Rows.vaultPlaysSpec.post enc Tryz.prog Tryz.f4 false true false false):=
 law_lifted (C:=Tryz.checked) (ts:= [3,26,27]) (tb:=4) a5 a5 WY rfl (λds hd=>by
   match ds,hd with
   | [u,n,q],_=>exact⟨rfl,rfl,rfl⟩) Tryz.own Tryz.laidOut (λt ht=>by
   simp only[List.mem_cons,List.not_mem_nil,or_false]at ht
   rcases ht with rfl|rfl|rfl<;>exact⟨a5,of_decide_eq_true a5⟩) b a5 Tryz.func4
  (ChangeSpec.witness6 (enc:=enc) (C:=Tryz.checked) false ⟨#[],#[.int .i64 0,.agg #[.int .u64 0,.int .u64 0,.int .u64 0],.slice none 0 0],[]⟩ 8 a5 a5 a5 a5) Tryz.call4 (by
  intro W z args ds p a o
  obtain⟨v,_,u,_,_,_,rfl,_,j,s⟩:=Ey o
  obtain⟨w,_,n,_,_,_,rfl,_,g,e⟩:=Ey s
  obtain⟨d,_,q,_,_,_,rfl,_,f,y⟩:=Ey e
  obtain rfl:=W0 y
  obtain⟨k,rfl⟩:=aaM (a 0 _ v rfl rfl) j
  obtain⟨x,rfl⟩:=ab9 (a 1 _ w rfl rfl) g
  obtain⟨sl,l,rfl,i,c,m⟩:=YK (a 2 _ d rfl rfl) f
  exact Kv i c m)
theorem jC{a b:Bool}(h:a=true)(c:b=true):(a&&b)=true:=by rw[h,c];rfl
theorem JB:(laidOutB Tryz.pinned.checked.prog)=true:=a5
theorem JA:(mapsRowed Tryz.pinned.checked.prog)=true:=a5
theorem KZ:((Rows.vaultPlaysRow.inPlace==Program.inPlace Tryz.pinned.checked.prog 4))=true:=a5
theorem Jz:((Rows.vaultPlaysRow.unfollowed==Program.unfollowed Tryz.pinned.checked.prog 4))=true:=a5
theorem Jy:((Rows.vaultPlaysRow.recurses==Program.recurses Tryz.pinned.checked.prog 4))=true:=a5
theorem KU:((Rows.vaultPlaysRow.named==Program.varsNamed Tryz.pinned.checked.prog 4))=true:=a5
theorem KY:((Rows.vaultPlaysRow.plainKeys==Program.plainKeys Tryz.pinned.checked.prog))=true:=a5
theorem KT:(Program.stopsHeard Tryz.pinned.checked.prog)=true:=a5
theorem KV:(Program.mayEnter Tryz.pinned.checked.prog)=true:=a5
theorem KW:((Rows.vaultPlaysRow.lifted==Program.liftsFinal Tryz.pinned.checked.prog))=true:=a5
theorem DL:joinedFacts Tryz.pinned.checked.prog 4 Tryz.f4 Rows.vaultPlaysSpec Rows.vaultPlaysRow=true:=jC (jC (jC (jC (jC (jC (jC (jC (jC (jC (jC (jC (jC (jC (jC (jC (jC (jC (jC (jC (jC (jC (jC (jC (jC (jC (jC (jC (jC (jC (jC a5 JB) JA) a5) a5) a5) a5) a5) a5) KZ) Jz) Jy) KU) a5) a5) a5) a5) a5) a5) a5) a5) a5) KY) a5) KT) KV) KW) a5) a5) a5) a5) a5
theorem VaultPlays_holds:Rows.VaultPlaysSaid:=
 OpenClaim.holds_of_wide 4 Tryz.f4 rfl rfl rfl rfl rfl rfl rfl ⟨rfl,rfl,rfl,rfl,rfl⟩ rfl rfl rfl rfl rfl a5 Tryz.func4 DL
  (of_decide_eq_true a5) (by unfold Func.isWrapper;first|(rw[if_pos (by decide+kernel)];kernel_rfl)|(rw[if_neg (by decide+kernel)];exact⟨rfl,rfl⟩))
  (λos a H enc _=>VaultPlays_lifted os a H enc)
end Go.Proofs.YtakmnggbneeicaaGreat
