/- A part of the proof that the named laws of this program answer true, whatever the input. -/
import Derived.Test.YtcnejdpagpafgaaGraphS4
namespace Go.Proofs
open Go.Lift
abbrev vf (v : Int × SliceV) : List Value := [.int .u32 v.1, sv v.2]
theorem vf_ne (v : Int × SliceV) : (vf v).length = 2 ∧ 0 < 2 := ⟨rfl, by omega⟩
/-- Side by side: ids, and parents. -/
def Par (W : Nat → Prop) (h : Heap) : List (Int × SliceV) → Vers → Prop
  | [], [] => True
  | v :: l, u :: m => v.1 = u.1 ∧ Nums W h v.2 u.2 ∧ Par W h l m
  | _, _ => False
theorem Par.len {W : Nat → Prop} {h : Heap} : ∀ {l : List (Int × SliceV)} {m : Vers}, Par W h l m → l.length = m.length
  | [], [], _ => rfl
  | _ :: _, _ :: _, p => congrArg (· + 1) p.2.2.len
  | [], _ :: _, p => p.elim
  | _ :: _, [], p => p.elim
theorem Par.get {W : Nat → Prop} {h : Heap} : ∀ {l : List (Int × SliceV)} {m : Vers}, Par W h l m → ∀ {i : Nat} (hl : i < l.length) (hm : i < m.length), l[i].1 = m[i].1 ∧ Nums W h l[i].2 m[i].2
  | v :: l, u :: m, p, 0, _, _ => ⟨p.1, p.2.1⟩
  | v :: l, u :: m, p, i + 1, hl, hm => p.2.2.get (by simpa using hl) (by simpa using hm)
theorem Par.app {W : Nat → Prop} {h : Heap} : ∀ {l l' : List (Int × SliceV)} {m m' : Vers}, Par W h l m → Par W h l' m' → Par W h (l ++ l') (m ++ m')
  | [], _, [], _, _, q => q
  | _ :: _, _, _ :: _, _, p, q => ⟨p.1, p.2.1, p.2.2.app q⟩
  | [], _, _ :: _, _, p, _ => p.elim
  | _ :: _, _, [], _, p, _ => p.elim
theorem Par.take {W : Nat → Prop} {h : Heap} : ∀ {l : List (Int × SliceV)} {m : Vers}, Par W h l m → ∀ i, Par W h (l.take i) (m.take i)
  | [], [], _, i => by simp [Par]
  | _ :: _, _ :: _, _, 0 => trivial
  | _ :: _, _ :: _, p, i + 1 => ⟨p.1, p.2.1, p.2.2.take i⟩
  | [], _ :: _, p, _ => p.elim
  | _ :: _, [], p, _ => p.elim
theorem Par.drop {W : Nat → Prop} {h : Heap} : ∀ {l : List (Int × SliceV)} {m : Vers}, Par W h l m → ∀ i, Par W h (l.drop i) (m.drop i)
  | [], [], _, i => by simp [Par]
  | _ :: _, _ :: _, p, 0 => p
  | _ :: _, _ :: _, p, i + 1 => p.2.2.drop i
  | [], _ :: _, p, _ => p.elim
  | _ :: _, [], p, _ => p.elim
theorem Par.upd {W M : Nat → Prop} {h h' : Heap} (k : Upd M h h') (hm : ∀ b, M b → W b ∨ h.size ≤ b) : ∀ {l : List (Int × SliceV)} {m : Vers}, Par W h l m → Par W h' l m
  | [], [], _ => trivial
  | _ :: _, _ :: _, p => ⟨p.1, p.2.1.upd k hm, Par.upd k hm p.2.2⟩
  | [], _ :: _, p => p.elim
  | _ :: _, [], p => p.elim
structure RefAt (W : Nat → Prop) (h : Heap) (xp : Nat) (L : Vers) (nx : Int) : Prop where
  blk : ∃ s t Ls, h[xp]? = some (.cells #[sv s, .int .u32 nx] t (0, 0)) ∧ Sl vf 2 W h s Ls ∧ Par W h Ls L ∧ s.len ≤ s.cap
  wp : W xp
  lt : ∀ b, W b → b < h.size
theorem RefAt.upd {W M : Nat → Prop} {h h' : Heap} {xp : Nat} {L : Vers} {nx : Int} (g : RefAt W h xp L nx) (k : Upd M h h') (hm : ∀ b, M b → (W b ∧ b ≠ xp) ∨ h.size ≤ b) : RefAt W h' xp L nx := by
  obtain ⟨s, t, Ls, h1, h2, h3, h4⟩ := g.blk
  have hn : ¬ M xp := fun e => (hm _ e).elim (fun e => e.2 rfl) fun e => absurd (g.lt _ g.wp) (Nat.not_lt.2 e)
  have hs : ∀ b, M b → W b ∨ h.size ≤ b := fun b hb => (hm b hb).imp (·.1) id
  exact ⟨⟨s, t, Ls, k.get h1 hn, h2.upd k hs, Par.upd k hs h3, h4⟩, g.wp, fun b hb => Nat.lt_of_lt_of_le (g.lt b hb) k.size⟩
theorem RefAt.upd0 {W : Nat → Prop} {h h' : Heap} {xp : Nat} {L : Vers} {nx : Int} (g : RefAt W h xp L nx) (k : Upd No h h') : RefAt W h' xp L nx := g.upd k fun _ h => h.elim
/-- The version that a loop's variable holds: of its own block. -/
theorem verVar {W : Nat → Prop} {h : Heap} {s : SliceV} {Ls : List (Int × SliceV)} (hs : Sl vf 2 W h s Ls) {i : Nat} (hi : i < Ls.length) :
    ∃ a, s.a = some a ∧ hcell h (adr (adr a (((i : Int)).toNat * 2)) 0) = some (.int .u32 Ls[i].1) ∧ hcell h (adr (adr a (((i : Int)).toNat * 2)) 1) = some (.slice Ls[i].2.a Ls[i].2.len Ls[i].2.cap) := by
  obtain ⟨a, ha, _, hv⟩ := hs.at (List.getElem?_eq_getElem hi)
  exact ⟨a, ha, hv 0 _ rfl, hv 1 _ rfl⟩
theorem setVar (h : Heap) (t : TypeId) (a b : Value) (v : Int × SliceV) : WrS (hnew h [a, b] t) (some (newA h)) 0 [.int .u32 v.1, .slice v.2.a v.2.len v.2.cap] ∧
    (hsetL (hnew h [a, b] t) (newA h) 0 [.int .u32 v.1, .slice v.2.a v.2.len v.2.cap])[h.size]? = some (.cells #[.int .u32 v.1, .slice v.2.a v.2.len v.2.cap] t (0, 0)) ∧
    Upd No h (hsetL (hnew h [a, b] t) (newA h) 0 [.int .u32 v.1, .slice v.2.a v.2.len v.2.cap]) := by
  have hb := hnew_get h [a, b] t
  refine ⟨.inr ⟨_, rfl, fun j hj => ?_⟩, ?_, ?_⟩
  · rw [newA_eq, adr_mk]
    exact wr_blk hb (by simp at hj ⊢; omega)
  · rw [newA_eq, hsetL_blk _ _ 0 0 [a, b] hb (by simp), set_get hb]; rfl
  · rw [newA_eq, hsetL_blk _ _ 0 0 [a, b] hb (by simp)]
    exact (Upd.hnew No h [a, b] t).trans (M' := (· = h.size)) (Upd.set _ _ rfl) fun b hb => .inr (Nat.le_of_eq hb.symm)
theorem xFind_ok {W : Nat → Prop} {h : Heap} {xp : Nat} {L : Vers} {nx : Int} (g : RefAt W h xp L nx) (hn : L.length ≤ 4611686018427387904) (id : Int)
    {K : Int → Heap → Prop} (hk : ∀ (n : Int) h', Upd No h h' → (n ≥ 0 ↔ id ∈ ids L) → K n h') : HC PG f_r20_Find [.pointer (some ⟨xp, 0, none⟩), .int .u32 id] [.c (.int .i64)] K h := by
  refine H_r20_Find (some ⟨xp, 0, none⟩) id ?_
  unfold F_r20_Find
  obtain ⟨s, t, Ls, h1, h2, h3, _⟩ := g.blk
  refine ⟨_, rfl, s, by rw [adr_mk, hcell_blk h1]; rfl, ?_⟩
  have hl := h3.len
  refine LoopP.ghost (fun (i : Nat) (t : Int) h' => t = (i : Int) ∧ Upd No h h' ∧ i ≤ L.length ∧ id ∉ (ids L).take i) (fun i => L.length - i) 0 ⟨rfl, Upd.refl _ _, Nat.zero_le _, by simp⟩ ?_
  rintro I i t h' ⟨rfl, hu, hi, hp⟩ hI
  have h2' := h2.upd hu fun _ h => h.elim
  have h3' := Par.upd hu (fun _ h => h.elim) h3
  refine condP_dec (fun hlt => ?_) fun hge => ?_
  · rw [h2.len, hl] at hlt
    have hlt : i < L.length := by omega
    obtain ⟨a, ha, c0, c1⟩ := verVar h2' (hl ▸ hlt)
    obtain ⟨q1, q2, q3⟩ := setVar h' t_r20_Version (.int .u32 0) (.slice none 0 0) (Ls[i]'(hl ▸ hlt))
    refine ⟨by rw [h2.len, hl]; omega, a, ha, _, c0, _, c1, q1, _, hcell_newA q2 0, ?_⟩
    have e := (h3.get (hl ▸ hlt) hlt).1
    refine CondP.intro (fun he => ?_) fun hne => ?_
    · have he : L[i].1 = id := by rw [← e]; simpa using he
      exact hk _ _ (hu.tr q3) ⟨fun _ => List.mem_map.2 ⟨_, List.getElem_mem hlt, he⟩, fun _ => by omega⟩
    · have hne : L[i].1 ≠ id := by rw [← e]; simpa using hne
      rw [wrap_succ hlt hn]
      refine hI (i + 1) _ _ ⟨rfl, hu.tr q3, hlt, ?_⟩ (by omega)
      rw [List.take_succ_eq_append_getElem (by simpa using hlt), List.mem_append, List.mem_singleton, not_or]
      exact ⟨hp, by rw [List.getElem_map]; exact Ne.symm hne⟩
  · rw [h2.len, hl] at hge
    have : i = L.length := by omega
    rw [List.take_of_length_le (by simp [this])] at hp
    exact hk _ _ hu ⟨fun h => by omega, fun h => absurd h hp⟩
theorem xErr_ok {W : Nat → Prop} {h : Heap} {s : SliceV} {ps : List Int} (hs : Nums W h s ps) {K : Int → Heap → Prop} (hk : K (mayV ps) h) :
    HC PG f_r20_err [.slice s.a s.len s.cap] [.c (.int .i64)] K h := by
  refine H_r20_err s ?_
  unfold F_r20_err
  refine Join.plain (condP_dec (fun hgt => ?_) fun hle => CondP.intro (fun he => ?_) fun hne => ?_)
  · rw [hs.len] at hgt
    rw [show mayV ps = 1 from if_pos (.inl (by omega))] at hk
    exact condP_true.2 hk
  · rw [hs.len] at he
    have he : ps.length = 2 := by
      have : (ps.length : Int) = 2 := by simpa using he
      omega
    obtain ⟨a, ha, _, hx⟩ := Nums.at hs (i := 0) (by omega)
    obtain ⟨a', ha', _, hy⟩ := Nums.at hs (i := 1) (by omega)
    refine ⟨by rw [hs.len]; omega, a, ha, _, hx, by rw [hs.len]; omega, a', ha', _, hy, ?_⟩
    have e : mayV ps = if (ps[0] == ps[1]) = true then 1 else 0 := by
      match ps, he with
      | [x, y], _ => simp [mayV, dup]
    rw [e] at hk
    exact CondP.intro (fun h1 => by rw [if_pos h1] at hk; exact hk) fun h1 => by rw [if_neg (by rw [h1]; decide)] at hk; exact hk
  · rw [hs.len] at hle hne
    have hne : ps.length ≠ 2 := fun e => by rw [e] at hne; exact absurd hne (by decide)
    have hd : dup ps = false := by
      match ps, hne with
      | [], _ => rfl
      | [_], _ => rfl
      | [_, _], h => exact absurd rfl h
      | _ :: _ :: _ :: _, _ => rfl
    rw [show mayV ps = 0 from if_neg (by rw [hd]; simp; omega)] at hk
    exact condP_false.2 hk
theorem xThere_ok {W : Nat → Prop} {h : Heap} {xp : Nat} {L : Vers} {nx : Int} (g : RefAt W h xp L nx) (hL : L.length ≤ 4611686018427387904) {s : SliceV} {ps : List Int} (hs : Nums W h s ps) (hn : ps.length ≤ 4611686018427387904)
    {K : Int → Heap → Prop} (hk : ∀ h', Upd No h h' → K (fitsV L ps) h') : HC PG f_r20_there [.pointer (some ⟨xp, 0, none⟩), .slice s.a s.len s.cap] [.c (.int .i64)] K h := by
  refine H_r20_there (some ⟨xp, 0, none⟩) s ?_
  unfold F_r20_there
  refine LoopP.ghost (fun (i : Nat) (t : Int) h' => t = (i : Int) ∧ Upd No h h' ∧ i ≤ ps.length ∧ ∀ p ∈ ps.take i, p ∈ ids L) (fun i => ps.length - i) 0 ⟨rfl, Upd.refl _ _, Nat.zero_le _, by simp⟩ ?_
  rintro I i t h' ⟨rfl, hu, hi, hp⟩ hI
  have hs1 : Nums W h' s ps := hs.upd hu fun _ h => h.elim
  have g1 := g.upd0 hu
  refine condP_dec (fun hlt => ?_) fun hge => ?_
  · rw [hs.len] at hlt
    have hlt : i < ps.length := by omega
    obtain ⟨a, ha, _, hx⟩ := Nums.at hs1 hlt
    refine ⟨by rw [hs.len]; omega, a, ha, _, hx, xFind_ok g1 hL _ fun n h2 hu2 hn2 => condP_dec (fun h3 => ?_) fun h3 => ?_⟩
    · have hno : ps[i] ∉ ids L := fun hm => by have := hn2.2 hm; omega
      rw [show fitsV L ps = 4 from if_pos (List.any_eq_true.2 ⟨_, List.getElem_mem hlt, by simpa using hno⟩)] at hk
      exact hk _ (hu.tr hu2)
    · rw [wrap_succ hlt hn]
      refine hI (i + 1) _ _ ⟨rfl, hu.tr hu2, hlt, ?_⟩ (by omega)
      rw [List.take_succ_eq_append_getElem hlt]
      intro p hpm
      rcases List.mem_append.1 hpm with h4 | h4
      · exact hp p h4
      · rw [List.mem_singleton.1 h4]; exact hn2.1 (by omega)
  · rw [hs.len] at hge
    have : i = ps.length := by omega
    subst this
    rw [List.take_length] at hp
    have hno : ¬ (ps.any (fun p => !decide (p ∈ ids L))) = true := fun e => by
      obtain ⟨p, hpm, h4⟩ := List.any_eq_true.1 e
      simp [hp p hpm] at h4
    obtain ⟨s', t, Ls, h1, h2, h3, _⟩ := g1.blk
    refine ⟨_, rfl, s', by rw [adr_mk, hcell_blk h1]; rfl, ?_⟩
    rw [h2.len, h3.len]
    refine condP_dec (fun h4 => ?_) fun h4 => ?_
    · rw [show fitsV L ps = 6 from (if_neg hno).trans (if_pos (by omega))] at hk
      exact hk _ hu
    · rw [show fitsV L ps = 0 from (if_neg hno).trans (if_neg (by omega))] at hk
      exact hk _ hu
end Go.Proofs
