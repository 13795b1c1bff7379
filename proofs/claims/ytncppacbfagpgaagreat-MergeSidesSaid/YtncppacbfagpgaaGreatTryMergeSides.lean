/- A part of the proof that the named laws of this program answer true, whatever the input. -/
import Derived.Test.YtncppacbfagpgaaGreatTryTree
import Derived.Test.YtncppacbfagpgaaGreatTryStrs
import Derived.Test.YtncppacbfagpgaaGreatPart11
namespace Go.Proofs.YtncppacbfagpgaaGreat
open Go Go.Lift Go.Proofs Go.ChangeShapes Go.WideShapes Go.ChangeAt Go.RowKit
set_option maxRecDepth 100000 in
theorem MergeSides_lifted(os:Os)(started:os.Started)(H:Type)(enc:TypeId×Value→H):
  ReturnsInHanded {} Tryz.checked os 5 .any (Rows.mergeSidesSpec.pre6 enc Tryz.prog Tryz.f5 Rows.mergeSidesRow.domain false) (Rows.mergeSidesSpec.post enc Tryz.prog Tryz.f5 false true false false):=
 law_lifted (C:=Tryz.checked) (ts:= [fh,cy,cx,cx,cx,Aq,Aq,td]) (tb:=td) (by kernel_rfl) (by kernel_rfl) QM rfl (fun ds hd=>by
   match ds,hd with
   | [d0,d1,d2,d3,d4,d5,d6,d7],_=>exact⟨rfl,rfl,rfl⟩) Tryz.own Tryz.laidOut (fun t ht=>by
   simp only[List.mem_cons,List.not_mem_nil,or_false]at ht
   rcases ht with rfl|rfl|rfl|rfl|rfl|rfl|rfl|rfl<;>exact⟨by kernel_rfl,of_decide_eq_true (by kernel_rfl)⟩) started (by kernel_rfl) Tryz.func5
  (ChangeSpec.witness6 (enc:=enc) (C:=Tryz.checked) false ⟨#[],#[.int .u8 0,.agg #[.int .u64 0,.int .u64 0,.int .u64 0],.slice none 0 0,.slice none 0 0,.slice none 0 0,.slice none 0 0,.slice none 0 0,.bool false],[]⟩ 8 (by kernel_rfl) (by kernel_rfl) (by kernel_rfl) (by kernel_rfl)) Tryz.call5 (by
  intro W b0 args ds p hval hA
  obtain⟨v0,_,d0,_,_,_,rfl,_,h0,r0⟩:=pF hA
  obtain⟨v1,_,d1,_,_,_,rfl,_,h1,r1⟩:=pF r0
  obtain⟨v2,_,d2,_,_,_,rfl,_,h2,r2⟩:=pF r1
  obtain⟨v3,_,d3,_,_,_,rfl,_,h3,r3⟩:=pF r2
  obtain⟨v4,_,d4,_,_,_,rfl,_,h4,r4⟩:=pF r3
  obtain⟨v5,_,d5,_,_,_,rfl,_,h5,r5⟩:=pF r4
  obtain⟨v6,_,d6,_,_,_,rfl,_,h6,r6⟩:=pF r5
  obtain⟨v7,_,d7,_,_,_,rfl,_,h7,r7⟩:=pF r6
  obtain rfl:=QN r7
  obtain⟨k,rfl,hk⟩:=UU (hval 0 _ v0 rfl rfl) h0
  obtain⟨x,rfl⟩:=UV (hval 1 _ v1 rfl rfl) h1
  obtain⟨sl,l,rfl,hl,hll,_⟩:=Cy (hval 2 _ v2 rfl rfl) h2
  obtain⟨sm,m,rfl,hm,hml,_⟩:=Cy (hval 3 _ v3 rfl rfl) h3
  obtain⟨sn,n,rfl,hn,hnl,_⟩:=Cy (hval 4 _ v4 rfl rfl) h4
  obtain⟨sg,g,rfl,hg,hgl⟩:=Ly (hval 5 _ v5 rfl rfl) h5
  obtain⟨sd,d,rfl,hd,hdl⟩:=Ly (hval 6 _ v6 rfl rfl) h6
  obtain⟨b,rfl⟩:=Sb (hval 7 _ v7 rfl rfl) h7
  exact Gx hl hll hm hml hn hnl hg hgl hd hdl hk.1 hk.2)
theorem MergeSides_holds:Rows.MergeSidesSaid:=
 OpenClaim.holds_of_wide 5 Tryz.f5 rfl rfl rfl rfl rfl rfl rfl ⟨rfl,rfl,rfl,rfl,rfl⟩ rfl rfl rfl rfl rfl (by kernel_rfl) Tryz.func5 (by kernel_rfl)
  (of_decide_eq_true (by kernel_rfl)) (by unfold Func.isWrapper;first|(rw[if_pos (by decide+kernel)];kernel_rfl)|(rw[if_neg (by decide+kernel)];exact⟨rfl,rfl⟩))
  (fun os started H enc _=>MergeSides_lifted os started H enc)
end Go.Proofs.YtncppacbfagpgaaGreat
