/- A part of the proof that the named laws of this program answer true, whatever the input. -/
import Derived.Test.YtncppacbfagpgaaGreatTryChs
import Derived.Test.YtncppacbfagpgaaGreatTryStrs
import Derived.Test.YtncppacbfagpgaaGreatPart11
namespace Go.Proofs.YtncppacbfagpgaaGreat
open Go Go.Lift Go.Proofs Go.ChangeShapes Go.WideShapes Go.ChangeAt Go.RowKit
set_option maxRecDepth 100000 in
theorem DiffJoins_lifted(os:Os)(started:os.Started)(H:Type)(enc:TypeId×Value→H):
  ReturnsInHanded {} Tryz.checked os 3 .any (Rows.diffJoinsSpec.pre6 enc Tryz.prog Tryz.f3 Rows.diffJoinsRow.domain false) (Rows.diffJoinsSpec.post enc Tryz.prog Tryz.f3 false true false false):=
 law_lifted (C:=Tryz.checked) (ts:= [L2,ct,cj,cj,cj,D2,js,js]) (tb:=p4) (by kernel_rfl) (by kernel_rfl) LV rfl (fun ds hd=>by
   match ds,hd with
   | [d0,d1,d2,d3,d4,d5,d6,d7],_=>exact⟨rfl,rfl,rfl⟩) Tryz.own Tryz.laidOut (fun t ht=>by
   simp only[List.mem_cons,List.not_mem_nil,or_false]at ht
   rcases ht with rfl|rfl|rfl|rfl|rfl|rfl|rfl|rfl<;>exact⟨by kernel_rfl,of_decide_eq_true (by kernel_rfl)⟩) started (by kernel_rfl) Tryz.func3
  (ChangeSpec.witness6 (enc:=enc) (C:=Tryz.checked) false ⟨#[],#[.int .u8 0,.agg #[.int .u64 0,.int .u64 0,.int .u64 0],.slice none 0 0,.slice none 0 0,.slice none 0 0,.slice none 0 0,.slice none 0 0,.slice none 0 0],[]⟩ 8 (by kernel_rfl) (by kernel_rfl) (by kernel_rfl) (by kernel_rfl)) Tryz.call3 (by
  intro W b0 args ds p hval hA
  obtain⟨v0,_,d0,_,_,_,rfl,_,h0,r0⟩:=oQ hA
  obtain⟨v1,_,d1,_,_,_,rfl,_,h1,r1⟩:=oQ r0
  obtain⟨v2,_,d2,_,_,_,rfl,_,h2,r2⟩:=oQ r1
  obtain⟨v3,_,d3,_,_,_,rfl,_,h3,r3⟩:=oQ r2
  obtain⟨v4,_,d4,_,_,_,rfl,_,h4,r4⟩:=oQ r3
  obtain⟨v5,_,d5,_,_,_,rfl,_,h5,r5⟩:=oQ r4
  obtain⟨v6,_,d6,_,_,_,rfl,_,h6,r6⟩:=oQ r5
  obtain⟨v7,_,d7,_,_,_,rfl,_,h7,r7⟩:=oQ r6
  obtain rfl:=Qa r7
  obtain⟨k,rfl,hk⟩:=Tw (hval 0 _ v0 rfl rfl) h0
  obtain⟨x,rfl⟩:=Tx (hval 1 _ v1 rfl rfl) h1
  obtain⟨sl,l,rfl,hl,hll,_⟩:=Ca (hval 2 _ v2 rfl rfl) h2
  obtain⟨sm,m,rfl,hm,hml,_⟩:=Ca (hval 3 _ v3 rfl rfl) h3
  obtain⟨sn,n,rfl,hn,hnl,_⟩:=Ca (hval 4 _ v4 rfl rfl) h4
  obtain⟨sg,g,rfl,hg,hgl⟩:=Ri (hval 5 _ v5 rfl rfl) h5
  obtain⟨sc,c,rfl,hc,hcl⟩:=OF (hval 6 _ v6 rfl rfl) h6
  obtain⟨sd,d,rfl,hd,hdl⟩:=OF (hval 7 _ v7 rfl rfl) h7
  exact IZ hl hll hm hml hn hnl hg hgl hc hcl hd hdl hk.1 hk.2)
theorem DiffJoins_holds:Rows.DiffJoinsSaid:=
 OpenClaim.holds_of_wide 3 Tryz.f3 rfl rfl rfl rfl rfl rfl rfl ⟨rfl,rfl,rfl,rfl,rfl⟩ rfl rfl rfl rfl rfl (by kernel_rfl) Tryz.func3 (by kernel_rfl)
  (of_decide_eq_true (by kernel_rfl)) (by unfold Func.isWrapper;first|(rw[if_pos (by decide+kernel)];kernel_rfl)|(rw[if_neg (by decide+kernel)];exact⟨rfl,rfl⟩))
  (fun os started H enc _=>DiffJoins_lifted os started H enc)
end Go.Proofs.YtncppacbfagpgaaGreat
