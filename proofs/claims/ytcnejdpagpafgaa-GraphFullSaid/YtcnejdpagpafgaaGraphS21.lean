/- A part of the proof that the named laws of this program answer true, whatever the input. -/
import Derived.Test.YtcnejdpagpafgaaGraphS20
namespace Go.Proofs
open Go.Lift
theorem nilNums {W : Nat → Prop} (h : Heap) : Nums W h ⟨none, 0, 0⟩ [] := Sl.nil u32_ne
theorem fullLaw_ok {h : Heap} {s : SliceV} : HC PG f_l20_GraphFull [.slice s.a s.len s.cap] [.c .bool] (fun b h' => b = true ∧ Upd No h h') h := by
  refine H_l20_GraphFull s ?_
  unfold F_l20_GraphFull
  refine awake_ok fun h1 hu1 => condP_false.2 ?_
  refine begin_ok fun h2 gp gm hu2 hg1 hg2 g => ?_
  have z1 := hu1.size
  have hu02 := hu1.tr hu2
  have hnew : ∀ b, Two gp gm b → h.size ≤ b := fun b hb => by rcases hb with rfl | rfl <;> omega
  refine LoopP.ghost (fun (g : Nat × Vers) (t : Int) h' => t = (g.1 : Int) ∧ g.2.length = g.1 ∧ g.1 ≤ 1024 ∧ GraphAt (Two gp gm) h' gp gm g.2 ((g.1 : Int) + 1) ∧ Inv g.2 ((g.1 : Int) + 1) ∧ Upd No h h') (fun g => 1024 - g.1) (0, []) ⟨rfl, rfl, by omega, g, Inv.nil, hu02⟩ ?_
  rintro I ⟨i, L⟩ t h' ⟨ht, hL, hi, g, v, hu⟩ hI
  simp only at ht hL hi g v
  subst ht
  have hfr : ((i : Int) + 1) ∉ ids L := fun hm => by have := (v.pos _ hm).2; omega
  have hmay : mayV [] = 0 := by decide
  refine condP_dec (fun hlt => ?_) fun hge => ?_
  · have hfit : fitsV L [] = 0 := by
      unfold fitsV
      rw [if_neg (by simp), if_neg (by omega)]
    have e := addV_val hmay hfit (nx := (i : Int) + 1) (by omega)
    have v' := v.add []
    refine gAdd_ok g (by omega) hfr (nilNums h') (by simp) fun h3 hu3 g3 => ?_
    rw [e] at g3 v' ⊢
    have ew : IntKind.wrap .u32 ((i : Int) + 1) = (i : Int) + 1 := Go.IntWalk.u32_in _ (by omega)
    refine Join.plain ?_
    rw [ew]
    refine CondP.intro (fun e => by simp at e) fun _ => condP_false.2 ?_
    refine hI (i + 1, insV L ((i : Int) + 1) []) _ _ ⟨by simp, by rw [(insV_perm L _ []).length_eq]; simp [hL], by omega, by simpa using g3, by simpa using v', hu.trans hu3 fun b hb => .inr (hnew b hb)⟩ ?_
    simp only; omega
  · obtain rfl : i = 1024 := by omega
    have hfit : fitsV L [] = 6 := by
      unfold fitsV
      rw [if_neg (by simp), if_pos (by omega)]
    refine gAdd_ok g (by omega) hfr (nilNums h') (by simp) fun h3 hu3 g3 => ?_
    have e : addV L (((1024 : Nat) : Int) + 1) [] = ((0, 6), L, ((1024 : Nat) : Int) + 1) := by
      unfold addV
      rw [if_neg (by simp [hmay]), if_pos (by rw [hfit]; decide), hfit]
    rw [e] at g3 ⊢
    refine gPut_ok g3 (by omega) (nilNums h3) (by simp) fun h4 hu4 g4 => ?_
    have e4 : (putV L (((1024 : Nat) : Int) + 1) 5000 []).1 = 6 := by
      unfold putV
      rw [if_neg (by simp [hmay]), if_neg (fun hm => by have := (v.pos _ hm).2; omega), if_pos (by rw [hfit]; decide), hfit]
    rw [e4]
    have hu04 : Upd No h h4 := (hu.trans hu3 fun b hb => .inr (hnew b hb)).trans hu4 fun b hb => .inr (hnew b hb)
    have z4 := hu04.size
    refine begin_ok fun h5 kp km hu5 hk1 hk2 k => ?_
    have hnew2 : ∀ b, Two kp km b → h.size ≤ b := fun b hb => by rcases hb with rfl | rfl <;> omega
    refine gSetNext_ok k 2147483648 fun h6 hu6 k6 => ?_
    rw [if_neg (by omega)] at k6
    refine gAdd_ok k6 (by omega) (by simp) (nilNums h6) (by simp) fun h7 hu7 k7 => ?_
    have e7 : addV [] 2147483648 [] = ((0, 6), [], 2147483648) := by decide
    rw [e7] at k7 ⊢
    have hu07 : Upd No h h7 := ((hu04.tr hu5).trans hu6 fun b hb => .inr (hnew2 b hb)).trans hu7 fun b hb => .inr (hnew2 b hb)
    refine nAdd_ok (s := s) ?_
    refine nMeet_ok 1 1 fun best h8 _ hbest _ hu8 => ?_
    obtain rfl : best = 0 := hbest.resolve_right fun h => upNil h.1
    have hu08 := hu07.tr hu8
    refine condP_true.2 (condP_true.2 ?_)
    refine CondP.intro (fun _ => ?_) fun e => absurd e (by decide)
    refine condP_true.2 ?_
    refine gPut_ok (k7.upd0 hu8) (by omega) (nilNums h8) (by simp) fun h9 hu9 k9 => ?_
    have e9 : putV [] 2147483648 2147483648 [] = (1, [], 2147483648) := by decide
    rw [e9] at k9 ⊢
    refine condP_true.2 ?_
    refine gPut_ok k9 (by omega) (nilNums h9) (by simp) fun h10 hu10 k10 => ?_
    have e10 : (putV [] 2147483648 2147483647 []).1 = 0 := by decide
    rw [e10]
    have hu010 : Upd No h h10 := (hu08.trans hu9 fun b hb => .inr (hnew2 b hb)).trans hu10 fun b hb => .inr (hnew2 b hb)
    refine condP_true.2 (condP_true.2 (condP_true.2 ?_))
    refine nPut_ok (s := ⟨none, 0, 0⟩) fun h11 hu11 => ?_
    refine condP_true.2 ?_
    have hu012 := (hu010.tr hu11).tr (Upd.hnew No h11 [.int .u32 1] t_u32)
    simp only [At]
    refine nDrop_ok (s := ⟨some (newA h11), 1, 1⟩) ?_
    refine nIDs_ok ?_
    refine nParents_ok ?_
    refine nAbove_ok 1 fun s13 h13 xs _ hxs ho13 hu13 => ?_
    have hl : s13.len = 0 := by
      rw [ho13.len]
      cases xs with
      | nil => rfl
      | cons x xs => exact absurd ((hxs x).1 (List.mem_cons_self ..)) upNil
    rw [hl]
    refine nLen_ok ?_
    refine condP_true.2 ?_
    refine nNext_ok ?_
    refine condP_true.2 ?_
    refine nSetNext_ok ?_
    refine condP_true.2 ?_
    refine nHas_ok ?_
    refine condP_true.2 ?_
    refine nLeads_ok 1 1 fun b h14 hb hu14 => ?_
    obtain rfl : b = false := by
      cases b
      · rfl
      · exact absurd (hb.1 rfl) upNil
    refine condP_true.2 ?_
    refine nCopy_ok ⟨rfl, (hu012.tr hu13).tr hu14⟩
end Go.Proofs
