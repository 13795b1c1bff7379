/- A part of the proof that the named laws of this program answer true, whatever the input. -/
import Derived.Test.YtncppacbfagpgaaGreatTryTree
import Derived.Test.YtncppacbfagpgaaGreatTryStrs
import Derived.Test.YtncppacbfagpgaaGreatPart12
namespace Go.Proofs.YtncppacbfagpgaaGreat
open Go Go.Lift Go.Proofs Go.ChangeShapes Go.WideShapes Go.ChangeAt Go.RowKit
set_option maxRecDepth 100000 in
theorem MergePatches_lifted(os:Os)(started:os.Started)(H:Type)(enc:TypeId×Value→H):
  ReturnsInHanded {} Tryz.checked os 6 .any (Rows.mergePatchesSpec.pre6 enc Tryz.prog Tryz.f6 Rows.mergePatchesRow.domain false) (Rows.mergePatchesSpec.post enc Tryz.prog Tryz.f6 false true false false):=
 law_lifted (C:=Tryz.checked) (ts:= [fq,cC,cB,cB,cB,Aw,Aw]) (tb:=xw) (by kernel_rfl) (by kernel_rfl) Ua rfl (fun ds hd=>by
   match ds,hd with
   | [d0,d1,d2,d3,d4,d5,d6],_=>exact⟨rfl,rfl,rfl⟩) Tryz.own Tryz.laidOut (fun t ht=>by
   simp only[List.mem_cons,List.not_mem_nil,or_false]at ht
   rcases ht with rfl|rfl|rfl|rfl|rfl|rfl|rfl<;>exact⟨by kernel_rfl,of_decide_eq_true (by kernel_rfl)⟩) started (by kernel_rfl) Tryz.func6
  (ChangeSpec.witness6 (enc:=enc) (C:=Tryz.checked) false ⟨#[],#[.int .u8 0,.agg #[.int .u64 0,.int .u64 0,.int .u64 0],.slice none 0 0,.slice none 0 0,.slice none 0 0,.slice none 0 0,.slice none 0 0],[]⟩ 8 (by kernel_rfl) (by kernel_rfl) (by kernel_rfl) (by kernel_rfl)) Tryz.call6 (by
  intro W b0 args ds p hval hA
  obtain⟨v0,_,d0,_,_,_,rfl,_,h0,r0⟩:=qK hA
  obtain⟨v1,_,d1,_,_,_,rfl,_,h1,r1⟩:=qK r0
  obtain⟨v2,_,d2,_,_,_,rfl,_,h2,r2⟩:=qK r1
  obtain⟨v3,_,d3,_,_,_,rfl,_,h3,r3⟩:=qK r2
  obtain⟨v4,_,d4,_,_,_,rfl,_,h4,r4⟩:=qK r3
  obtain⟨v5,_,d5,_,_,_,rfl,_,h5,r5⟩:=qK r4
  obtain⟨v6,_,d6,_,_,_,rfl,_,h6,r6⟩:=qK r5
  obtain rfl:=QB r6
  obtain⟨k,rfl,hk⟩:=UJ (hval 0 _ v0 rfl rfl) h0
  obtain⟨x,rfl⟩:=UK (hval 1 _ v1 rfl rfl) h1
  obtain⟨sl,l,rfl,hl,hll,_⟩:=CA (hval 2 _ v2 rfl rfl) h2
  obtain⟨sm,m,rfl,hm,hml,_⟩:=CA (hval 3 _ v3 rfl rfl) h3
  obtain⟨sn,n,rfl,hn,hnl,_⟩:=CA (hval 4 _ v4 rfl rfl) h4
  obtain⟨sg,g,rfl,hg,hgl⟩:=Lo (hval 5 _ v5 rfl rfl) h5
  obtain⟨sd,d,rfl,hd,hdl⟩:=Lo (hval 6 _ v6 rfl rfl) h6
  exact D1 hl hll hm hml hn hnl hg hgl hd hdl hk.1 hk.2)
theorem MergePatches_holds:Rows.MergePatchesSaid:=
 OpenClaim.holds_of_wide 6 Tryz.f6 rfl rfl rfl rfl rfl rfl rfl ⟨rfl,rfl,rfl,rfl,rfl⟩ rfl rfl rfl rfl rfl (by kernel_rfl) Tryz.func6 (by kernel_rfl)
  (of_decide_eq_true (by kernel_rfl)) (by unfold Func.isWrapper;first|(rw[if_pos (by decide+kernel)];kernel_rfl)|(rw[if_neg (by decide+kernel)];exact⟨rfl,rfl⟩))
  (fun os started H enc _=>MergePatches_lifted os started H enc)
end Go.Proofs.YtncppacbfagpgaaGreat
