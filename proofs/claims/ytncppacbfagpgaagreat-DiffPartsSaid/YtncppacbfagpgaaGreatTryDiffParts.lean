/- A part of the proof that the named laws of this program answer true, whatever the input. -/
import Derived.Test.YtncppacbfagpgaaGreatTryTree
import Derived.Test.YtncppacbfagpgaaGreatTryStrs
import Derived.Test.YtncppacbfagpgaaGreatPart12
namespace Go.Proofs.YtncppacbfagpgaaGreat
open Go Go.Lift Go.Proofs Go.ChangeShapes Go.WideShapes Go.ChangeAt Go.RowKit
set_option maxRecDepth 100000 in
theorem DiffParts_lifted(os:Os)(started:os.Started)(H:Type)(enc:TypeId×Value→H):
  ReturnsInHanded {} Tryz.checked os 4 .any (Rows.diffPartsSpec.pre6 enc Tryz.prog Tryz.f4 Rows.diffPartsRow.domain false) (Rows.diffPartsSpec.post enc Tryz.prog Tryz.f4 false true false false):=
 law_lifted (C:=Tryz.checked) (ts:= [eZ,cn,cj,cj,E4,eZ,yX]) (tb:=xn) (by kernel_rfl) (by kernel_rfl) U4 rfl (fun ds hd=>by
   match ds,hd with
   | [d0,d1,d2,d3,d4,d5,d6],_=>exact⟨rfl,rfl,rfl⟩) Tryz.own Tryz.laidOut (fun t ht=>by
   simp only[List.mem_cons,List.not_mem_nil,or_false]at ht
   rcases ht with rfl|rfl|rfl|rfl|rfl|rfl|rfl<;>exact⟨by kernel_rfl,of_decide_eq_true (by kernel_rfl)⟩) started (by kernel_rfl) Tryz.func4
  (ChangeSpec.witness6 (enc:=enc) (C:=Tryz.checked) false ⟨#[],#[.int .u8 0,.agg #[.int .u64 0,.int .u64 0,.int .u64 0],.slice none 0 0,.slice none 0 0,.slice none 0 0,.int .u8 0,.string ⟨#[]⟩],[]⟩ 8 (by kernel_rfl) (by kernel_rfl) (by kernel_rfl) (by kernel_rfl)) Tryz.call4 (by
  intro W b0 args ds p hval hA
  obtain⟨v0,_,d0,_,_,_,rfl,_,h0,r0⟩:=qy hA
  obtain⟨v1,_,d1,_,_,_,rfl,_,h1,r1⟩:=qy r0
  obtain⟨v2,_,d2,_,_,_,rfl,_,h2,r2⟩:=qy r1
  obtain⟨v3,_,d3,_,_,_,rfl,_,h3,r3⟩:=qy r2
  obtain⟨v4,_,d4,_,_,_,rfl,_,h4,r4⟩:=qy r3
  obtain⟨v5,_,d5,_,_,_,rfl,_,h5,r5⟩:=qy r4
  obtain⟨v6,_,d6,_,_,_,rfl,_,h6,r6⟩:=qy r5
  obtain rfl:=RV r6
  obtain⟨k,rfl,hk⟩:=Tn (hval 0 _ v0 rfl rfl) h0
  obtain⟨x,rfl⟩:=Vu (hval 1 _ v1 rfl rfl) h1
  obtain⟨sl,l,rfl,hl,hll,_⟩:=Jm (hval 2 _ v2 rfl rfl) h2
  obtain⟨sm,m,rfl,hm,hml,_⟩:=Jm (hval 3 _ v3 rfl rfl) h3
  obtain⟨sg,g,rfl,hg,hgl⟩:=To (hval 4 _ v4 rfl rfl) h4
  obtain⟨c,rfl,hc⟩:=Tn (hval 5 _ v5 rfl rfl) h5
  obtain⟨s,rfl⟩:=UF (hval 6 _ v6 rfl rfl) h6
  exact Kk hl hll hm hml hg hgl hk.1 hk.2 hc.1 hc.2)
theorem DiffParts_holds:Rows.DiffPartsSaid:=
 OpenClaim.holds_of_wide 4 Tryz.f4 rfl rfl rfl rfl rfl rfl rfl ⟨rfl,rfl,rfl,rfl,rfl⟩ rfl rfl rfl rfl rfl (by kernel_rfl) Tryz.func4 (by kernel_rfl)
  (of_decide_eq_true (by kernel_rfl)) (by unfold Func.isWrapper;first|(rw[if_pos (by decide+kernel)];kernel_rfl)|(rw[if_neg (by decide+kernel)];exact⟨rfl,rfl⟩))
  (fun os started H enc _=>DiffParts_lifted os started H enc)
end Go.Proofs.YtncppacbfagpgaaGreat
