/- A part of the proof that the named laws of this program answer true, whatever the input. -/
import Derived.Test.YtjkhbpjhngfpaaaGreatPart7
import Derived.Test.YtjkhbpjhngfpaaaGreatPart4
import Derived.Test.YtjkhbpjhngfpaaaGreatTreeF0
import Derived.Test.YtjkhbpjhngfpaaaGreatTreeF1
import Derived.Test.YtjkhbpjhngfpaaaGreatTreeF2
import Derived.Test.YtjkhbpjhngfpaaaGreatPart6
namespace Go.Proofs
open Go Go.Lift
theorem kl_data {a b : ByteArray} : kl a b ↔ Op.bytesLess a.data.toList b.data.toList = true := by unfold kl; rw [ByteArray.toList_eq, ByteArray.toList_eq]
theorem bl_cons {a b : UInt8} {x y : List UInt8} : Op.bytesLess (a :: x) (b :: y) = true ↔ a.toNat < b.toNat ∨ (a = b ∧ Op.bytesLess x y = true) := by
  simp only [Op.bytesLess, Bool.or_eq_true, decide_eq_true_iff, Bool.and_eq_true, beq_iff_eq, UInt8.lt_iff_toNat_lt]
theorem bl_nil (x : List UInt8) : Op.bytesLess x [] = false := by cases x <;> rfl
theorem bl_app {x y : List UInt8} : ∀ pre : List UInt8, Op.bytesLess (pre ++ x) (pre ++ y) = true ↔ Op.bytesLess x y = true
  | [] => Iff.rfl
  | a :: pre => by rw [List.cons_append, List.cons_append, bl_cons, bl_app pre]; simp
theorem bl_hd {x y : List UInt8} (h : Op.bytesLess x y = true) (hx : x ≠ []) (hy : y ≠ []) : hd x ≤ hd y := by
  match x, y, hx, hy with
  | a :: x, b :: y, _, _ =>
    show a.toNat ≤ b.toNat
    rcases bl_cons.1 h with h | ⟨rfl, _⟩ <;> omega
theorem sandwich : ∀ (t : Nat) {f p g : List UInt8}, t ≤ cm f g → (f = p ∨ Op.bytesLess f p = true) → (p = g ∨ Op.bytesLess p g = true) → p.take t = f.take t ∧ t ≤ p.length
  | 0, f, p, g, _, _, _ => by simp
  | t + 1, [], p, g, h, _, _ => by simp [cm] at h
  | t + 1, a :: f, p, [], h, _, _ => by simp [cm] at h
  | t + 1, a :: f, p, b :: g, h, h1, h2 => by
    unfold cm at h
    split at h
    · rename_i e
      subst e
      rcases p with _ | ⟨c, p⟩
      · rcases h1 with h1 | h1
        · cases h1
        · rw [bl_nil] at h1; cases h1
      · have hc : c = a := by
          rcases h1 with h1 | h1
          · exact (List.cons.inj h1).1.symm
          · rcases h2 with h2 | h2
            · exact (List.cons.inj h2).1
            · have q1 := bl_cons.1 h1
              have q2 := bl_cons.1 h2
              rcases q1 with q1 | ⟨q1, _⟩
              · rcases q2 with q2 | ⟨q2, _⟩
                · omega
                · exact q2
              · exact q1.symm
        subst hc
        have := sandwich t (f := f) (p := p) (g := g) (by omega) (h1.imp (fun h => (List.cons.inj h).2) fun h => by
          rcases bl_cons.1 h with h | ⟨_, h⟩
          · omega
          · exact h) (h2.imp (fun h => (List.cons.inj h).2) fun h => by
          rcases bl_cons.1 h with h | ⟨_, h⟩
          · omega
          · exact h)
        rw [List.take_succ_cons, List.take_succ_cons, this.1, List.length_cons]
        exact ⟨rfl, by omega⟩
    · omega
theorem cm_self : ∀ f : List UInt8, cm f f = f.length
  | [] => rfl
  | a :: f => by unfold cm; rw [if_pos rfl, cm_self f]; rfl
abbrev ky (p : Pr) : List UInt8 := p.1.data.toList
def Got (l : List Pr) (pre k : List UInt8) (v : ByteArray) : Prop := ∃ p ∈ l, ky p = pre ++ k ∧ p.2 = v
structure Beg (l : List Pr) (pre : List UInt8) : Prop where
  up : Rises l
  at_ : ∀ p ∈ l, (ky p).take pre.length = pre ∧ pre.length < (ky p).length
theorem Beg.sub {l l' : List Pr} {pre : List UInt8} (b : Beg l pre) (h : l'.Sublist l) : Beg l' pre := ⟨b.up.sublist h, fun p hp => b.at_ p (h.subset hp)⟩
theorem Beg.split {l : List Pr} {pre : List UInt8} (b : Beg l pre) {p : Pr} (hp : p ∈ l) : ky p = pre ++ (ky p).drop pre.length ∧ (ky p).drop pre.length ≠ [] := by
  obtain ⟨h1, h2⟩ := b.at_ p hp
  refine ⟨?_, fun e => ?_⟩
  · conv => lhs; rw [← List.take_append_drop pre.length (ky p), h1]
  · have := congrArg List.length e
    rw [List.length_drop, List.length_nil] at this; omega
def bt (n : Nat) (p : Pr) : Nat := hd ((ky p).drop n)
theorem Beg.mono {A B : List Pr} {pre : List UInt8} (b : Beg (A ++ B) pre) {x y : Pr} (hx : x ∈ A) (hy : y ∈ B) : bt pre.length x ≤ bt pre.length y := by
  have h := (List.pairwise_append.1 b.up).2.2 x hx y hy
  rw [kl_data] at h
  obtain ⟨e1, n1⟩ := b.split (List.mem_append_left B hx)
  obtain ⟨e2, n2⟩ := b.split (List.mem_append_right A hy)
  change Op.bytesLess (ky x) (ky y) = true at h
  rw [e1, e2, bl_app] at h
  exact bl_hd h n1 n2
theorem branch_pl {l : List Pr} {pre : List UInt8} {f g : Pr} (b : Beg l pre) (hf : ∃ r, l = f :: r) (hg : l.getLast? = some g) (hb : bt pre.length f = bt pre.length g) :
    pre.length < cm (ky f) (ky g) ∧ cm (ky f) (ky g) ≤ (ky f).length ∧ (∀ p ∈ l, (ky p).take (cm (ky f) (ky g)) = (ky f).take (cm (ky f) (ky g))) ∧ (∀ p ∈ l, p = f ∨ cm (ky f) (ky g) < (ky p).length) ∧
      (cm (ky f) (ky g) < (ky f).length → cm (ky f) (ky g) < (ky g).length ∧ hd ((ky f).drop (cm (ky f) (ky g))) ≠ hd ((ky g).drop (cm (ky f) (ky g)))) := by
  obtain ⟨r, rfl⟩ := hf
  have hfm : f ∈ f :: r := List.mem_cons_self ..
  have hgm : g ∈ f :: r := List.mem_of_getLast? hg
  obtain ⟨e1, n1⟩ := b.split hfm
  obtain ⟨e2, n2⟩ := b.split hgm
  have hcp : pre.length < cm (ky f) (ky g) := by
    have : ∀ (q x y : List UInt8), cm (q ++ x) (q ++ y) = q.length + cm x y := by
      intro q x y
      induction q with
      | nil => simp
      | cons a q ih => simp only [List.cons_append, cm, if_true, ih, List.length_cons]; omega
    have h1 := this pre ((ky f).drop pre.length) ((ky g).drop pre.length)
    rw [← e1, ← e2] at h1
    have h2 := cm_pos n1 n2 hb
    omega
  have hle := cm_le (ky f) (ky g)
  have hfp : ∀ p ∈ f :: r, ky f = ky p ∨ Op.bytesLess (ky f) (ky p) = true := fun p hp => by
    rcases List.mem_cons.1 hp with rfl | hp
    · exact .inl rfl
    · exact .inr (kl_data.1 ((List.pairwise_cons.1 b.up).1 p hp))
  have hpg : ∀ p ∈ f :: r, ky p = ky g ∨ Op.bytesLess (ky p) (ky g) = true := fun p hp => by
    rcases List.eq_nil_or_concat (f :: r) with h | ⟨l', y, h⟩
    · cases h
    · rw [List.concat_eq_append] at h
      rw [h, List.getLast?_concat] at hg
      cases hg
      have hup := b.up
      rw [h] at hp hup
      rcases List.mem_append.1 hp with hp | hp
      · exact .inr (kl_data.1 ((List.pairwise_append.1 hup).2.2 p hp g (List.mem_singleton.2 rfl)))
      · rw [List.mem_singleton.1 hp]; exact .inl rfl
  have hsw : ∀ p ∈ f :: r, (ky p).take (cm (ky f) (ky g)) = (ky f).take (cm (ky f) (ky g)) ∧ cm (ky f) (ky g) ≤ (ky p).length := fun p hp => sandwich _ (Nat.le_refl _) (hfp p hp) (hpg p hp)
  have hne : ∀ p ∈ f :: r, p = f ∨ cm (ky f) (ky g) < (ky p).length := fun p hp => by
    obtain ⟨h1, h2⟩ := hsw p hp
    rcases Nat.lt_or_ge (cm (ky f) (ky g)) (ky p).length with h | h
    · exact .inr h
    · left
      have hl : (ky p).length = cm (ky f) (ky g) := by omega
      have e : ky p = (ky f).take (cm (ky f) (ky g)) := by rw [← h1, ← hl, List.take_length]
      rcases List.mem_cons.1 hp with rfl | hp
      · rfl
      · have hk := kl_data.1 ((List.pairwise_cons.1 b.up).1 p hp)
        change Op.bytesLess (ky f) (ky p) = true at hk
        exfalso
        have e3 : ky f = ky p ++ (ky f).drop (cm (ky f) (ky g)) := by rw [e, List.take_append_drop]
        have h4 : Op.bytesLess (ky p ++ (ky f).drop (cm (ky f) (ky g))) (ky p ++ []) = true := by rw [List.append_nil, ← e3]; exact hk
        rw [bl_app, bl_nil] at h4; cases h4
  refine ⟨hcp, hle.1, fun p hp => (hsw p hp).1, hne, fun hlt => ?_⟩
  have hgl : cm (ky f) (ky g) < (ky g).length := by
    rcases hne g hgm with h | h
    · exfalso
      rw [h, cm_self] at hlt; omega
    · exact h
  exact ⟨hgl, cm_drop _ _ hlt hgl⟩
theorem branch_can {l l' : List Pr} {pre : List UInt8} {f g : Pr} (b : Beg l pre) (hf : ∃ r, l = f :: r) (hg : l.getLast? = some g) (hb : bt pre.length f = bt pre.length g) {F : Fo} (hc : CanF F)
    (hl' : l' = if (ky f).length = cm (ky f) (ky g) then l.drop 1 else l) (hF : ∀ k v, InF F k v ↔ Got l' ((ky f).take (cm (ky f) (ky g))) k v) {w : Option ByteArray} (hw : w = if (ky f).length = cm (ky f) (ky g) then some f.2 else none) {lab : List UInt8} (hlab : lab = ((ky f).take (cm (ky f) (ky g))).drop pre.length) :
    CanN (lab, w, F) ∧ hd lab = bt pre.length f ∧ ∀ k v, InN (lab, w, F) k v ↔ Got l pre k v := by
  obtain ⟨h1, h2, h3, h4, h5⟩ := branch_pl b hf hg hb
  obtain ⟨r, rfl⟩ := hf
  have hfm : f ∈ f :: r := List.mem_cons_self ..
  have hgm : g ∈ f :: r := List.mem_of_getLast? hg
  generalize cm (ky f) (ky g) = to at *
  have epre : pre ++ lab = (ky f).take to := by
    have := (b.at_ f hfm).1
    rw [hlab]
    conv => rhs; rw [← List.take_append_drop pre.length ((ky f).take to), List.take_take, Nat.min_eq_left (by omega), this]
  have hlab0 : lab ≠ [] := fun e => by
    have := congrArg List.length hlab
    rw [e, List.length_nil, List.length_drop, List.length_take] at this; omega
  have hin : ∀ k v, InN (lab, w, F) k v ↔ Got (f :: r) pre k v := by
    intro k v
    constructor
    · rintro ⟨q, e, ⟨rfl, e2⟩ | e2⟩
      · simp only at e e2
        rw [List.append_nil] at e
        subst e
        rw [hw] at e2
        split at e2
        · rename_i hto
          cases e2
          refine ⟨f, hfm, ?_, rfl⟩
          rw [epre, ← hto, List.take_length]
        · cases e2
      · simp only at e e2
        obtain ⟨p, hp, e3, rfl⟩ := (hF q v).1 e2
        refine ⟨p, ?_, ?_, rfl⟩
        · rw [hl'] at hp
          split at hp
          · exact List.mem_cons_of_mem _ hp
          · exact hp
        · rw [e3, e, ← List.append_assoc, epre]
    · rintro ⟨p, hp, e, rfl⟩
      have hpt := h3 p hp
      have ep : ky p = pre ++ (lab ++ (ky p).drop to) := by
        rw [← List.append_assoc, epre, ← hpt, List.take_append_drop]
      have ek : k = lab ++ (ky p).drop to := List.append_cancel_left (e.symm.trans ep)
      refine ⟨(ky p).drop to, ek, ?_⟩
      by_cases hto : (ky f).length = to
      · rw [if_pos hto] at hw hl'
        rcases List.mem_cons.1 hp with rfl | hp
        · left
          refine ⟨List.drop_eq_nil_of_le (by omega), ?_⟩
          simp only; rw [hw]
        · right
          refine (hF _ _).2 ⟨p, by rw [hl']; exact hp, ?_, rfl⟩
          rw [← hpt, List.take_append_drop]
      · rw [if_neg hto] at hw hl'
        right
        refine (hF _ _).2 ⟨p, by rw [hl']; exact hp, ?_, rfl⟩
        rw [← hpt, List.take_append_drop]
  refine ⟨⟨hlab0, ?_, hc⟩, ?_, hin⟩
  · by_cases hto : (ky f).length = to
    · left; simp only; rw [hw, if_pos hto]; rfl
    · have hlt : to < (ky f).length := by omega
      obtain ⟨hgl, hne⟩ := h5 hlt
      refine (br_iff hc).2 (.inr ⟨(ky f).drop to, (ky g).drop to, f.2, g.2, .inr ?_, .inr ?_, fun e => ?_, fun e => ?_, hne⟩)
      · exact (hF _ _).2 ⟨f, by rw [hl', if_neg hto]; exact hfm, (List.take_append_drop ..).symm, rfl⟩
      · exact (hF _ _).2 ⟨g, by rw [hl', if_neg hto]; exact hgm, by rw [← h3 g hgm, List.take_append_drop], rfl⟩
      · have := congrArg List.length e
        rw [List.length_drop, List.length_nil] at this; omega
      · have := congrArg List.length e
        rw [List.length_drop, List.length_nil] at this; omega
  · have e := (b.split hfm).1
    unfold bt
    have e2 : (ky f).drop pre.length = lab ++ (ky f).drop to := by
      have h6 : ky f = pre ++ (lab ++ (ky f).drop to) := by rw [← List.append_assoc, epre, List.take_append_drop]
      conv => lhs; rw [h6]
      rw [List.drop_left]
    rw [e2, hd_app hlab0]
structure Row (L : List Bn) (D T : List Pr) (pre : List UInt8) : Prop where
  can : ∀ n ∈ L, CanN n
  up : L.Pairwise fun m n => hd m.1 < hd n.1
  lo : ∀ n ∈ L, ∀ p ∈ T, hd n.1 < bt pre.length p
  got : ∀ k v, (∃ n ∈ L, InN n k v) ↔ Got D pre k v
theorem Row.nil (T : List Pr) (pre : List UInt8) : Row [] [] T pre := ⟨fun n h => (by cases h), List.Pairwise.nil, fun n h => (by cases h), fun k v => ⟨fun ⟨n, h, _⟩ => (by cases h), fun ⟨p, h, _⟩ => (by cases h)⟩⟩
theorem Row.more {L : List Bn} {D A B : List Pr} {pre : List UInt8} {n : Bn} {p : Pr} (r : Row L D (A ++ B) pre) (bg : Beg (A ++ B) pre) (hp : p ∈ A) (hA : ∀ a ∈ A, bt pre.length a = bt pre.length p) (hB : ∀ b B', B = b :: B' → bt pre.length b ≠ bt pre.length p) (hc : CanN n) (hn : hd n.1 = bt pre.length p) (hg : ∀ k v, InN n k v ↔ Got A pre k v) : Row (L ++ [n]) (D ++ A) B pre := by
  refine ⟨fun m hm => ?_, List.pairwise_append.2 ⟨r.up, List.pairwise_singleton .., fun a ha b hb => ?_⟩, fun m hm q hq => ?_, fun k v => ?_⟩
  · rcases List.mem_append.1 hm with hm | hm
    · exact r.can m hm
    · rw [List.mem_singleton.1 hm]; exact hc
  · rw [List.mem_singleton.1 hb, hn]
    exact r.lo a ha p (List.mem_append_left _ hp)
  · rcases List.mem_append.1 hm with hm | hm
    · exact r.lo m hm q (List.mem_append_right _ hq)
    · rw [List.mem_singleton.1 hm, hn]
      rcases B with _ | ⟨b0, B'⟩
      · cases hq
      have h1 := hB b0 B' rfl
      have h2 := bg.mono hp (List.mem_cons_self (a := b0) (l := B'))
      rcases List.mem_cons.1 hq with rfl | hq
      · omega
      · have bg' : Beg ([b0] ++ B') pre := bg.sub (List.sublist_append_right A _)
        have := bg'.mono (List.mem_singleton.2 rfl) hq
        omega
  · constructor
    · rintro ⟨m, hm, hi⟩
      rcases List.mem_append.1 hm with hm | hm
      · obtain ⟨q, hq, e⟩ := (r.got k v).1 ⟨m, hm, hi⟩
        exact ⟨q, List.mem_append_left _ hq, e⟩
      · rw [List.mem_singleton.1 hm] at hi
        obtain ⟨q, hq, e⟩ := (hg k v).1 hi
        exact ⟨q, List.mem_append_right _ hq, e⟩
    · rintro ⟨q, hq, e⟩
      rcases List.mem_append.1 hq with hq | hq
      · obtain ⟨m, hm, hi⟩ := (r.got k v).2 ⟨q, hq, e⟩
        exact ⟨m, List.mem_append_left _ hm, hi⟩
      · exact ⟨n, List.mem_append_right _ (List.mem_singleton.2 rfl), (hg k v).2 ⟨q, hq, e⟩⟩
theorem Row.done {L : List Bn} {D : List Pr} {pre : List UInt8} (r : Row L D [] pre) : CanF (.ofL L) ∧ ∀ k v, InF (.ofL L) k v ↔ Got D pre k v := by
  refine ⟨canF_iff.2 ?_, fun k v => ?_⟩
  · rw [Fo.to_of]; exact ⟨r.up, r.can⟩
  · rw [inF_iff, Fo.to_of]; exact r.got k v
end Go.Proofs
namespace Go.Proofs
open Go Go.Lift
theorem ext_both (s : ByteArray) (a b : Nat) : (s.extract a b).data.toList = (s.data.toList.take b).drop a := by
  rw [ByteArray.data_extract, Array.toList_extract, List.extract_eq_take_drop, List.drop_take]
theorem keyLen (s : ByteArray) : s.data.toList.length = s.size := by simp
theorem Kid.less {W W' : Nat → Prop} {h : Heap} (hm : ∀ b, W' b → W b ∨ h.size ≤ b) {a : Option Addr} {n : Bn} : Kid W h a n → Kid W' h a n
  | ⟨b, sl, e1, e2, e3⟩ => ⟨b, sl, e1, e2, e3.less hm⟩
theorem Kid.updM {W M : Nat → Prop} {h h' : Heap} (k : Upd M h h') (hm : ∀ b, M b → W b ∨ h.size ≤ b) {a : Option Addr} {n : Bn} : Kid W h a n → Kid W h' a n
  | ⟨b, sl, e1, e2, e3⟩ => ⟨b, sl, e1, e2, e3.updM k hm⟩
theorem RxL.less {W W' : Nat → Prop} {h : Heap} (hm : ∀ b, W' b → W b ∨ h.size ≤ b) {ks : List (Option Addr)} {L : List Bn} (r : RxL W h ks L) : RxL W' h ks L := ⟨r.1, fun p hp => (r.2 p hp).less hm⟩
theorem RxL.updM {W M : Nat → Prop} {h h' : Heap} (k : Upd M h h') (hm : ∀ b, M b → W b ∨ h.size ≤ b) {ks : List (Option Addr)} {L : List Bn} (r : RxL W h ks L) : RxL W h' ks L := ⟨r.1, fun p hp => (r.2 p hp).updM k hm⟩
theorem byteAt {p : Pr} {n : Nat} (h : n < (ky p).length) : ∃ b : UInt8, p.1[n]? = some b ∧ b.toNat = bt n p := by
  rw [getB]
  refine ⟨(ky p)[n], List.getElem?_eq_getElem h, ?_⟩
  unfold bt hd
  rw [List.drop_eq_getElem_cons h]; rfl
theorem append1r {M : Nat → Prop} {h : Heap} {so : SliceV} {out : List (Option Addr)} {p : Option Addr} {K : SliceV → Heap → Prop} (ho : OwnS rxF 1 t_P_radix_Node M h so out) (hM : ∀ b, h.size ≤ b → M b) (hn : out.length + 1 ≤ 1000000000)
    (hk : ∀ s' h', OwnS rxF 1 t_P_radix_Node M h' s' (out ++ [p]) → Upd M h h' → K s' h') :
    ∃ xs, SRow (hnew h [.pointer p] t_P_radix_Node) (some (newA h)) (1 * 1) xs ∧ AppP (some [.pointer none]) 1 8 t_P_radix_Node so.a so.len so.cap 1 xs (hnew h [.pointer p] t_P_radix_Node) K := by
  have k := Upd.hnew No h [.pointer p] t_P_radix_Node
  have h1 : OwnS rxF 1 t_P_radix_Node (fun _ => True) (hnew h [.pointer p] t_P_radix_Node) ⟨some (newA h), 1, 1⟩ [p] := ⟨rfl, rxF_ne, Nat.le_refl _, .inr ⟨h.size, [], rfl, trivial, hnew_get .., rfl⟩⟩
  refine ⟨_, (h1.sl (W := No) fun _ _ _ h => h).srow, ?_⟩
  refine AppP.own (ys := [p]) (ho.upd k fun _ _ h => h) rfl rfl rfl rfl (by omega) (by simp only [List.length_singleton]; omega) (hM _ (by rw [hnew_size]; omega)) fun s' h' ho' hu => ?_
  exact hk s' h' ho' ((Upd.hnew M h _ _).tr hu)
theorem rxMake_ok {W : Nat → Prop} {h : Heap} {s : SliceV} {ks : List (Option Addr)} {L : List Bn} (hs : Sl rxF 1 No h s ks) (hL : RxL W h ks L) (hn : L.length ≤ 100000) (hW : ∀ y, W y → y < h.size) {label value : ByteArray} {has : Bool} {K : Option Addr → Heap → Prop}
    (hk : ∀ h' b, RxN W h' b label (if has then some value else none) (.ofL L) → Upd No h h' → K (some ⟨b, 0, none⟩) h') : HC PG f_radix_Make [.string label, .bool has, .string value, .slice s.a s.len s.cap] [.c .ptr] K h := by
  refine H_radix_Make label has value s ?_
  unfold F_radix_Make
  refine at_new fun h1 b1 k1 => ?_
  have z1 := get_lt b1
  have hlen := hs.len
  have hLl := hL.1
  refine Join.intro (fun _ h' => ∃ val, h'[h.size]? = some (.cells (rxC label has val ⟨none, 0, 0⟩ none) t_radix_Node (0, 0)) ∧ (has = true → val = value) ∧ Upd No h h') (fun R hR => ?_) ?_
  · cases has with
    | true => exact condP_true.2 ⟨_, rfl, vset (i := 2) (c' := rxC label true value ⟨none, 0, 0⟩ none) b1 (show 2 < 5 by decide) rfl fun h2 b2 hu2 => hR _ _ ⟨_, b2, fun _ => rfl, k1.own hu2 (Nat.le_refl _)⟩⟩
    | false => exact condP_false.2 (hR _ _ ⟨_, b1, fun h => (by cases h), k1⟩)
  rintro _ h2 ⟨val, b2, hval, k2⟩
  refine LoopP.ghost (fun (g : List (Option Addr) × List (Option Addr)) (t : Int) h' => t = (g.1.length : Int) ∧ ks = g.1 ++ g.2 ∧ (∃ so, h'[h.size]? = some (.cells (rxC label has val so none) t_radix_Node (0, 0)) ∧ OwnS rxF 1 t_P_radix_Node (fun y => h.size < y) h' so g.1) ∧ Upd No h h') (fun g => g.2.length) ([], ks)
    ⟨rfl, rfl, ⟨_, b2, OwnS.nil rxF_ne⟩, k2⟩ ?_
  rintro I ⟨K1, K2⟩ t h3 ⟨e1, e2, ⟨so, b3, ho3⟩, k3⟩ hI
  simp only at e1 e2 ho3
  subst e1 e2
  simp only [List.length_append] at hlen hLl
  have z3 := get_lt b3
  refine condP_dec (fun hlt => ?_) fun hge => ?_
  · rcases K2 with _ | ⟨kp, K2⟩
    · simp only [List.length_nil] at hlen; omega
    simp only [List.length_cons] at hlen hLl
    refine Join.intro (fun _ h' => (∃ so, h'[h.size]? = some (.cells (rxC label has val so none) t_radix_Node (0, 0)) ∧ OwnS rxF 1 t_P_radix_Node (fun y => h.size < y) h' so (K1 ++ [kp])) ∧ Upd No h h') (fun R hR => ?_) ?_
    · obtain ⟨kb, ksl, hki, _⟩ := hL.at (i := K1.length) (by omega)
      have hkp : kp = some ⟨kb, 0, none⟩ := by
        rw [List.getElem?_append_right (Nat.le_refl _), Nat.sub_self] at hki
        exact Option.some.inj hki
      obtain ⟨a, ha, _, hv⟩ := (hs.upd k3 fun _ h => h.elim).at0 (i := K1.length) (x := kp) (by rw [List.getElem?_append_right (Nat.le_refl _), Nat.sub_self]; rfl)
      refine ⟨⟨by omega, by omega⟩, a, ha, kp, hv, ?_⟩
      subst hkp
      refine condP_true.2 ⟨_, rfl, so, vc b3 3, at_intro ?_⟩
      refine append1r ho3 (fun b hb => by omega) (by omega) fun s4 h4 ho4 hu4 => ⟨_, rfl, ?_⟩
      have b4 := hu4.get b3 (by simp)
      refine vset (i := 3) (c' := rxC label has val s4 none) b4 (show 3 < 5 by decide) rfl fun h5 b5 hu5 => hR _ _ ⟨⟨s4, b5, ho4.upd hu5 fun x hx e => by have e : x = h.size := e; omega⟩, ?_⟩
      exact (k3.trans hu4 fun x hx => .inr (Nat.le_of_lt hx)).own hu5 (Nat.le_refl _)
    · rintro _ h4 ⟨⟨s4, b4, ho4⟩, k4⟩
      have ew : IntKind.wrap .i64 ((K1.length : Int) + 1) = ((K1 ++ [kp]).length : Int) := by rw [List.length_append, List.length_singleton, w64 (by omega)]; omega
      rw [ew]
      exact hI (K1 ++ [kp], K2) _ _ ⟨rfl, by simp, ⟨s4, b4, ho4⟩, k4⟩ (by simp)
  · have hK : K2 = [] := List.length_eq_zero_iff.1 (by omega)
    subst hK
    rw [List.append_nil] at hL
    refine hk h3 h.size ⟨val, so, none, K1, ?_, ?_, ho3.sl (fun x hx _ hw => by have := hW x hw; omega), ⟨ho3.cap, fun hw => by have := hW _ hw; omega⟩, rxF_iff.2 (by rw [Fo.to_of]; exact hL.upd0 k3)⟩ k3
    · cases has <;> exact b3
    · intro v hv
      cases has with
      | true => rw [hval rfl]; exact Option.some.inj hv
      | false => cases hv
def KidsC (B from_ : Nat) : Prop := ∀ {W : Nat → Prop} {h : Heap} {s : SliceV} {l : List Pr} {pre : List UInt8}, Sl prF 2 No h s l → s.len ≤ s.cap → Beg l pre → pre.length = from_ → (∀ p ∈ l, (ky p).length ≤ B) → l.length ≤ 100000 → (∀ y, W y → y < h.size) → ∀ {K : SliceV → Heap → Prop},
  (∀ h' s' ks L, OwnS rxF 1 t_P_radix_Node (fun y => h.size ≤ y) h' s' ks → RxL W h' ks L → Row L l [] pre → Upd No h h' → K s' h') → HC PG f_build_kids [.slice s.a s.len s.cap, .int .i64 (from_ : Int)] [.c .slice] K h
theorem branchB_ok {W : Nat → Prop} {B from_ : Nat} (hB : B ≤ 1000000) (hkids : ∀ to, from_ < to → KidsC B to) {h : Heap} {s : SliceV} {l r : List Pr} {f g : Pr} {pre : List UInt8} (hs : Sl prF 2 No h s l) (hcap : s.len ≤ s.cap) (bg : Beg l pre) (hpre : pre.length = from_) (hlB : ∀ p ∈ l, (ky p).length ≤ B) (hn : l.length ≤ 100000) (hW : ∀ y, W y → y < h.size)
    (hf : l = f :: r) (hg : l.getLast? = some g) (hb : bt from_ f = bt from_ g) {K : Option Addr → Heap → Prop}
    (hk : ∀ h' a n, Kid W h' a n → CanN n → hd n.1 = bt from_ f → (∀ k v, InN n k v ↔ Got l pre k v) → Upd No h h' → K a h') : HC PG f_build_branch [.slice s.a s.len s.cap, .int .i64 (from_ : Int)] [.c .ptr] K h := by
  refine H_build_branch s from_ ?_
  unfold F_build_branch
  subst hpre
  have hlen := hs.len
  have hl0 : 0 < l.length := by rw [hf]; simp
  have hfm : f ∈ l := by rw [hf]; exact List.mem_cons_self ..
  have hgm : g ∈ l := List.mem_of_getLast? hg
  obtain ⟨a, ha, _, hvf⟩ := hs.at (i := 0) (x := f) (by rw [hf]; rfl)
  obtain ⟨a', ha', _, hvg⟩ := hs.at (i := l.length - 1) (x := g) (by rw [← hg, List.getLast?_eq_getElem?])
  rw [ha] at ha'; cases ha'
  have ew : IntKind.wrap .i64 ((s.len : Int) - 1) = ((l.length - 1 : Nat) : Int) := by rw [w64 (by omega)]; omega
  refine ⟨⟨by omega, by omega⟩, a, ha, f.1, hvf 0 _ rfl, ?_⟩
  rw [ew]
  have hsf := hlB f hfm
  have hszf : f.1.size = (ky f).length := (keyLen f.1).symm
  refine ⟨⟨by omega, by omega⟩, a, ha, g.1, hvg 0 _ rfl, common_ok (by omega) ?_⟩
  obtain ⟨q1, q2, q3, q4, q5⟩ := branch_pl bg ⟨r, hf⟩ hg hb
  have hbc := @branch_can l (if (ky f).length = cm (ky f) (ky g) then l.drop 1 else l) pre f g bg ⟨r, hf⟩ hg hb
  obtain ⟨to, hto⟩ : ∃ to, cm (ky f) (ky g) = to := ⟨_, rfl⟩
  rw [hto] at q1 q2 q3 q4 hbc
  show _ ∧ _
  change (_ ∧ ∃ _, _ ∧ _)
  have hto' : cm f.1.data.toList g.1.data.toList = to := hto
  rw [hto']
  refine ⟨⟨by omega, by omega⟩, a, ha, f.1, hvf 0 _ rfl, ⟨by omega, by omega⟩, ⟨by omega, by rw [Int.toNat_natCast]; omega⟩, ⟨by omega, by omega⟩, a, ha, f.1, hvf 0 _ rfl, ?_⟩
  have ehas : ((f.1.size : Int) == (to : Int)) = decide ((ky f).length = to) := by
    rw [Bool.eq_iff_iff, beq_iff_eq, decide_eq_true_iff]; omega
  rw [ehas]
  have hlab : (f.1.extract (pre.length : Int).toNat (to : Int).toNat).data.toList = ((ky f).take to).drop pre.length := ext_both ..
  have hpl : ((ky f).take to).length = to := by rw [List.length_take]; omega
  refine Join.intro (fun (t : SliceV × ByteArray) h' => h' = h ∧ Sl prF 2 No h t.1 (if (ky f).length = to then l.drop 1 else l) ∧ t.1.len ≤ t.1.cap ∧ ((ky f).length = to → t.2 = f.2)) (fun R hR => ?_) ?_
  · refine condP_dec (fun e => ?_) fun e => ?_
    · refine ⟨⟨by omega, by omega⟩, a, ha, f.2, hvf 1 _ rfl, ⟨by omega, by omega⟩, hR _ _ ⟨rfl, ?_, by simp only; omega, fun _ => rfl⟩⟩
      rw [if_pos e]
      have := Sl.sub hs (l := 1) (hi := l.length) (m := s.cap) (c := s.cap - 1) (by omega) (Nat.le_refl _) (by omega)
      rw [List.take_of_length_le (by rw [List.length_drop]; omega), ← hlen] at this
      exact this
    · exact hR _ _ ⟨rfl, by rw [if_neg e]; exact hs, hcap, fun h => absurd h e⟩
  rintro ⟨s2, v2⟩ h' ⟨rfl, hs2, hc2, hv2⟩
  simp only at hs2 hc2 hv2
  have hsub : (if (ky f).length = to then l.drop 1 else l).Sublist l := by
    split
    · exact List.drop_sublist ..
    · exact List.Sublist.refl _
  have hbeg : Beg (if (ky f).length = to then l.drop 1 else l) ((ky f).take to) := by
    refine ⟨bg.up.sublist hsub, fun p hp => ?_⟩
    rw [hpl]
    refine ⟨q3 p (hsub.subset hp), ?_⟩
    rcases q4 p (hsub.subset hp) with e | h
    · subst e
      by_cases e2 : (ky p).length = to
      · rw [if_pos e2, hf] at hp
        have := (List.pairwise_cons.1 (hf ▸ bg.up)).1 p hp
        exact absurd this (kl_irrefl _)
      · omega
    · exact h
  refine hkids to q1 hs2 hc2 hbeg hpl (fun p hp => hlB p (hsub.subset hp)) (Nat.le_trans hsub.length_le hn) hW fun h3 s3 ks L ho3 hL3 hrow hu3 => ?_
  obtain ⟨hcF, hgF⟩ := hrow.done
  obtain ⟨hcn, hhd, hin⟩ := hbc (F := .ofL L) hcF rfl hgF rfl rfl
  have hLl : L.length ≤ 100000 := by
    have := can_len hcF
    rw [Fo.to_of] at this; omega
  refine rxMake_ok (W := W) (ho3.sl fun _ _ _ h => h) hL3 hLl (fun y hy => Nat.lt_of_lt_of_le (hW y hy) hu3.size) fun h4 b4 rn4 hu4 => ?_
  have ew2 : (if decide ((ky f).length = to) = true then some v2 else none) = if (ky f).length = to then some f.2 else none := by
    by_cases e : (ky f).length = to
    · rw [if_pos (decide_eq_true e), if_pos e, hv2 e]
    · rw [if_neg (by simpa using e), if_neg e]
  rw [ew2] at rn4
  exact hk h4 _ _ ⟨b4, _, rfl, hlab, rn4⟩ hcn hhd hin (hu3.tr hu4)
theorem kids_step {B from_ : Nat} (hB : B ≤ 1000000) (hkids : from_ ≤ B → ∀ to, from_ < to → KidsC B to) : KidsC B from_ := by
  intro W h s l pre hs hcap bg hpre hlB hn hW K hk
  refine H_build_kids s from_ ?_
  unfold F_build_kids
  refine at_new fun h1 b1 k1 => ?_
  subst hpre
  refine LoopP.ghost (fun (g : List Pr × List Pr × List (Option Addr) × List Bn × (Nat → Prop)) (t : SliceV × SliceV) h' => l = g.1 ++ g.2.1 ∧ Sl prF 2 (fun y => h.size ≤ y) h' t.1 g.2.1 ∧ t.1.len ≤ t.1.cap ∧ OwnS rxF 1 t_P_radix_Node g.2.2.2.2 h' t.2 g.2.2.1 ∧ (∀ y, g.2.2.2.2 y → h1.size ≤ y ∧ y < h'.size) ∧ RxL (fun y => W y ∨ g.2.2.2.2 y) h' g.2.2.1 g.2.2.2.1 ∧ Row g.2.2.2.1 g.1 g.2.1 pre ∧ Upd No h1 h') (fun g => g.2.1.length) ([], l, [], [], No)
    ⟨rfl, (hs.less (W' := fun y => h.size ≤ y) fun y hy => .inr hy).upd k1 fun _ h => h.elim, hcap, OwnS.nil rxF_ne, fun y hy => hy.elim, ⟨rfl, fun p hp => (by cases hp)⟩, Row.nil _ _, Upd.refl _ _⟩ ?_
  rintro I ⟨D, T, ks, L, Mo⟩ ⟨sT, so⟩ h4 ⟨e1, hsT, hcT, ho, hMo, hL, hrow, hu⟩ hI
  simp only at e1 hsT hcT ho hMo hL hrow
  subst e1
  have hlT := hsT.len
  simp only [List.length_append] at hn
  have bgT : Beg T pre := bg.sub (List.sublist_append_right D T)
  have k04 := k1.tr hu
  refine condP_dec (fun hgt => ?_) fun hle => ?_
  · rcases T with _ | ⟨p, T⟩
    · simp only [List.length_nil] at hlT; simp only at hgt; omega
    simp only [List.length_cons] at hlT hn
    have hpl := (bgT.at_ p (List.mem_cons_self ..)).2
    obtain ⟨b8, hb8, hb8e⟩ := byteAt hpl
    obtain ⟨a, ha, _, hv⟩ := hsT.at (i := 0) (x := p) rfl
    have c4 := hu.get0 b1
    refine ⟨⟨by omega, by simp only; omega⟩, a, ha, p.1, hv 0 _ rfl, _, vc0 c4, b8, by omega, hb8, ?_⟩
    refine at_new fun h9 b9 k9 => ?_
    have c9 := k9.get0 c4
    obtain ⟨a', ha', _, hv9⟩ := (hsT.upd k9 fun _ h => h.elim).at (i := 0) (x := p) rfl
    rw [ha] at ha'; cases ha'
    refine ⟨vc0 c9, hv9 0 _ rfl, at_cell b9 Nat.one_pos fun h10 b10 hu10 => ?_⟩
    have k410 : Upd No h4 h10 := k9.own hu10 (Nat.le_refl _)
    have c10 := k410.get0 c4
    refine indexP_ok (hsT.upd k410 fun _ h => h.elim) (by simp only [List.length_cons]; omega) (g := fun q => decide (bt pre.length q ≠ bt pre.length p)) (fun q hq h' K' hu' hK => ?_) fun h11 A Bt e hAB hA hBn hBc hu11 => ?_
    · refine HV.mk' (H_build_kids_1 q ⟨h.size, 0, none⟩ ⟨h4.size, 0, none⟩ ?_)
      unfold F_build_kids_1
      refine at_new fun h12 b12 k12 => ?_
      have k' := hu'.tr k12
      obtain ⟨bq, hbq, hbqe⟩ := byteAt (bgT.at_ q hq).2
      refine ⟨q.1, vc b12 0, _, vc0 (k'.get0 c10), bq, by omega, hbq, _, vc0 (k'.get0 b10), ?_⟩
      have eb : ((bq.toNat : Int) != (b8.toNat : Int)) = decide (bt pre.length q ≠ bt pre.length p) := by
        rw [Bool.eq_iff_iff, bne_iff_ne, decide_eq_true_iff]; omega
      rw [eb]
      exact hK h12 k12
    obtain ⟨A', rfl⟩ : ∃ A', A = p :: A' := by
      rcases A with _ | ⟨a0, A'⟩
      · have := (hBc p T (by rw [List.nil_append] at hAB; exact hAB.symm)).2
        simp at this
      · rw [List.cons_append] at hAB
        exact ⟨A', by rw [(List.cons.inj hAB).1]⟩
    have hcA : ∀ q ∈ p :: A', bt pre.length q = bt pre.length p := fun q hq => by simpa using hA q hq
    have hTA : p :: T = (p :: A') ++ Bt := hAB
    have hTl : T.length = A'.length + Bt.length := by
      have := congrArg List.length hTA
      simp only [List.length_cons, List.length_append] at this; omega
    have k411 := k410.tr hu11
    have k111 := hu.tr k411
    have c11 := hu11.get0 c10
    refine Join.intro (fun t h' => t = ((A'.length + 1 : Nat) : Int) ∧ h' = h11) (fun R1 hR1 => ?_) ?_
    · refine condP_dec (fun hneg => hR1 _ _ ⟨?_, rfl⟩) fun hpos => hR1 _ _ ⟨?_, rfl⟩
      · rcases Bt with _ | ⟨b0, B'⟩
        · have hTl : T.length = A'.length + 0 := hTl
          show ((sT.len : Nat) : Int) = _
          omega
        · have := (hBc b0 B' rfl).1
          simp only [List.length_cons] at this; omega
      · rcases Bt with _ | ⟨b0, B'⟩
        · have := hBn rfl; omega
        · have := (hBc b0 B' rfl).1
          simp only [List.length_cons] at this; exact this
    rintro t h' ⟨rfl, rfl⟩
    refine Join.intro (fun t h9 => ∃ ka n Mp, OwnS rxF 1 t_P_radix_Node Mp h9 t (ks ++ [ka]) ∧ (∀ y, Mp y → h1.size ≤ y ∧ y < h9.size) ∧ RxL (fun y => W y ∨ Mp y) h9 (ks ++ [ka]) (L ++ [n]) ∧ CanN n ∧ hd n.1 = bt pre.length p ∧ (∀ k v, InN n k v ↔ Got (p :: A') pre k v) ∧ Upd No h1 h9 ∧ Sl prF 2 (fun y => h.size ≤ y) h9 sT (p :: T)) (fun R1 hR1 => ?_) ?_
    · refine ⟨⟨by omega, by show ((A'.length + 1 : Nat) : Int) ≤ ((sT.cap : Nat) : Int); omega⟩, _, vc0 c11, ?_⟩
      have hsA := Sl.sub (hsT.upd k411 fun _ h => h.elim) (l := 0) (hi := A'.length + 1) (m := sT.cap) (c := sT.cap - 0) (Nat.zero_le _) (by simp only [List.length_cons]; omega) (by omega)
      have etk : ((p :: T).drop 0).take (A'.length + 1 - 0) = p :: A' := by
        rw [List.drop_zero, Nat.sub_zero, hTA]
        exact List.take_left' (by simp)
      rw [etk] at hsA
      obtain ⟨g, hg⟩ : ∃ g, (p :: A').getLast? = some g := ⟨_, List.getLast?_eq_some_getLast (by simp)⟩
      have hgm : g ∈ p :: A' := List.mem_of_getLast? hg
      have hsub : (p :: A').Sublist (D ++ p :: T) := by
        rw [hTA]
        exact (List.sublist_append_left _ _).trans (List.sublist_append_right D _)
      refine branchB_ok hB (hkids (by have := hlB p (by simp); omega)) (hsA.less fun _ h => h.elim) (by show A'.length + 1 - 0 ≤ sT.cap - 0; omega) (bg.sub hsub) rfl (fun q hq => hlB q (hsub.subset hq)) (by simp only [List.length_cons]; omega) (W := fun y => W y ∨ Mo y) (fun y hy => hy.elim (fun hy => Nat.lt_of_lt_of_le (hW y hy) (k04.tr k411).size) fun hy => Nat.lt_of_lt_of_le (hMo y hy).2 k411.size) rfl hg (hcA g hgm).symm fun h12 ka n kd hcn hhd hin hu12 => at_intro ?_
      have hu' := k411.tr hu12
      have z' := (hu.tr hu').size
      have hLn : L.length ≤ 256 := by
        rcases rises_len (c := 0) hrow.up fun _ _ => Nat.zero_le _ with e | e
        · rw [e]; simp
        · omega
      have hkl := hL.1
      have z12 := hu'.size
      refine append1r (M := fun y => Mo y ∨ h12.size ≤ y) ((ho.upd hu' fun _ _ h => h).more fun y hy => .inl hy) (fun b hb => .inr hb) (by omega) fun s13 h13 ho13 hu13 => hR1 _ _ ⟨ka, n, fun y => (Mo y ∨ h12.size ≤ y) ∧ y < h13.size, ho13.within, fun y hy => ⟨?_, hy.2⟩, ?_, hcn, hhd, hin, ?_, ?_⟩
      · rcases hy.1 with h | h
        · exact (hMo y h).1
        · omega
      · have hl : ∀ b, (W b ∨ ((Mo b ∨ h12.size ≤ b) ∧ b < h13.size)) → (W b ∨ Mo b) ∨ h12.size ≤ b := fun b hb => by
          rcases hb with h | ⟨h | h, _⟩
          · exact .inl (.inl h)
          · exact .inl (.inr h)
          · exact .inr h
        have hm : ∀ b, (Mo b ∨ h12.size ≤ b) → (W b ∨ ((Mo b ∨ h12.size ≤ b) ∧ b < h13.size)) ∨ h12.size ≤ b := fun b hb => by
          rcases hb with h | h
          · exact .inl (.inr ⟨.inl h, by have := (hMo b h).2; have := hu13.size; omega⟩)
          · exact .inr h
        exact (((hL.upd0 hu').app (RxL.one kd)).less hl).updM hu13 hm
      · exact (hu.tr hu').trans hu13 fun y hy => .inr (by
          rcases hy with h | h
          · exact (hMo y h).1
          · omega)
      · refine (hsT.upd hu' fun _ h => h.elim).upd hu13 fun b hb => .inl ?_
        have := k1.size
        rcases hb with h | h
        · have := (hMo b h).1; omega
        · omega
    · rintro s9 h9 ⟨ka, n, Mp, ho9, hMp, hL9, hcn, hhd, hin, hu9, hsT9⟩
      refine ⟨⟨by omega, by show ((A'.length + 1 : Nat) : Int) ≤ ((sT.len : Nat) : Int); omega⟩, ?_⟩
      rw [Int.toNat_natCast]
      have hsB := Sl.sub hsT9 (l := A'.length + 1) (hi := (p :: T).length) (m := sT.cap) (c := sT.cap - (A'.length + 1)) (by simp only [List.length_cons]; omega) (Nat.le_refl _) (by simp only [List.length_cons]; omega)
      have edr : ((p :: T).drop (A'.length + 1)).take ((p :: T).length - (A'.length + 1)) = Bt := by
        rw [hTA, List.drop_left' (by simp)]
        exact List.take_of_length_le (by simp)
      rw [edr] at hsB
      have elen : (p :: T).length - (A'.length + 1) = sT.len - (A'.length + 1) := by simp only [List.length_cons]; omega
      rw [elen] at hsB
      have hr' : Row (L ++ [n]) (D ++ (p :: A')) Bt pre := by
        rw [hTA] at hrow bgT
        exact hrow.more bgT (List.mem_cons_self ..) hcA (fun b B' e => by simpa using (hBc b B' e).2) hcn hhd hin
      refine hI (D ++ (p :: A'), Bt, ks ++ [ka], L ++ [n], Mp) _ _ ⟨by rw [hTA, List.append_assoc], hsB, by simp only; omega, ho9, hMp, hL9, hr', hu9⟩ ?_
      simp only [List.length_cons]; omega
  · have hT : T = [] := List.length_eq_zero_iff.1 (by simp only at hle; omega)
    subst hT
    rw [List.append_nil] at hk
    exact hk h4 so ks L (ho.more fun y hy => Nat.le_trans k1.size (hMo y hy).1) (hL.less fun y hy => .inl (.inl hy)) hrow k04
end Go.Proofs
namespace Go.Proofs
open Go Go.Lift
theorem kidsB_ok {B : Nat} (hB : B ≤ 1000000) : ∀ (n from_ : Nat), B < from_ + n → KidsC B from_
  | 0, _, h => kids_step hB fun h' => by omega
  | n + 1, from_, h => kids_step hB fun _ to hto => kidsB_ok hB n to (by omega)
theorem srt_sub {l : List Pr} {p : Pr} (h : p ∈ srtL l) : p ∈ l := lastK_mem (mem_srt.1 h)
theorem radixB_ok {W W0 : Nat → Prop} {h : Heap} {s : SliceV} {l : List Pr} (hs : Sl prF 2 W0 h s l) (hW : ∀ y, W y → y < h.size) (hn : l.length ≤ 100000) (hB : ∀ p ∈ l, p.1.size ≤ 1000000) {K : Option Addr → Heap → Prop}
    (hk : ∀ h' b, RadAt W h' b (srtL l) → Upd No h h' → K (some ⟨b, 0, none⟩) h') : HC PG f_build_Radix [.slice s.a s.len s.cap] [.c .ptr] K h := by
  refine H_build_Radix s ?_
  unfold F_build_Radix
  refine sorted_ok (W' := No) hs (fun _ h => h.elim) (by omega) fun e h2 hse hce k2 => ?_
  have hln := srt_len l
  have hrs := srt_rises l
  have hBs : ∀ p ∈ srtL l, (ky p).length ≤ 1000000 := fun p hp => by have := hB p (srt_sub hp); rw [show (ky p).length = p.1.size from keyLen p.1]; exact this
  generalize srtL l = L at *
  have hlen := hse.len
  refine Join.intro (fun (t : ByteArray × Bool) h' => h' = h2 ∧ (t.2 = true ↔ ∃ p r, L = p :: r ∧ ky p = [])) (fun R hR => ?_) ?_
  · refine condP_dec (fun hgt => ?_) fun hle => hR _ _ ⟨rfl, ⟨fun h => (by cases h), fun ⟨p, r, e, _⟩ => (by subst e; simp only [List.length_cons] at hlen; omega)⟩⟩
    rcases L with _ | ⟨p, r⟩
    · simp only [List.length_nil] at hlen; omega
    obtain ⟨a, ha, _, hv⟩ := hse.at (i := 0) (x := p) rfl
    refine ⟨⟨by omega, by omega⟩, a, ha, p.1, hv 0 _ rfl, hR _ _ ⟨rfl, ?_⟩⟩
    simp only
    rw [beq_list, decide_eq_true_iff]
    constructor
    · intro e; exact ⟨p, r, rfl, by unfold ky; rw [e]⟩
    · rintro ⟨p', r', e, e2⟩
      cases e
      exact bytes_list.1 e2
  rintro ⟨v6, has⟩ h' ⟨rfl, hhas⟩
  simp only at hhas
  refine Join.intro (fun (t : SliceV × ByteArray) h3 => h3 = h' ∧ ∃ l', Sl prF 2 No h' t.1 l' ∧ t.1.len ≤ t.1.cap ∧ Beg l' [] ∧ (∀ p ∈ l', p ∈ L) ∧ l'.length ≤ L.length ∧ ∀ k v, ((k = [] ∧ (if has then some t.2 else none) = some v) ∨ Got l' [] k v) ↔ ∃ p ∈ L, p.1.data.toList = k ∧ p.2 = v) (fun R hR => ?_) ?_
  · cases has with
    | true =>
      obtain ⟨p, r, rfl, e0⟩ := hhas.1 rfl
      obtain ⟨a, ha, _, hv⟩ := hse.at (i := 0) (x := p) rfl
      simp only [List.length_cons] at hlen
      refine condP_true.2 ⟨⟨by omega, by omega⟩, a, ha, p.2, hv 1 _ rfl, ⟨by omega, by omega⟩, hR _ _ ⟨rfl, r, ?_, by simp only; omega, ⟨(List.pairwise_cons.1 hrs).2, fun q hq => ⟨rfl, ?_⟩⟩, fun q hq => List.mem_cons_of_mem _ hq, by simp, fun k v => ?_⟩⟩
      · have := Sl.sub hse (l := 1) (hi := (p :: r).length) (m := e.cap) (c := e.cap - 1) (by simp) (Nat.le_refl _) (by simp only [List.length_cons]; omega)
        rw [List.drop_one, List.tail_cons, List.take_of_length_le (by simp)] at this
        have e2 : (p :: r).length - 1 = e.len - 1 := by simp only [List.length_cons]; omega
        rw [e2] at this
        exact this
      · have h1 := kl_data.1 ((List.pairwise_cons.1 hrs).1 q hq)
        refine List.length_pos_iff.2 fun e2 => ?_
        change Op.bytesLess (ky p) (ky q) = true at h1
        rw [e2, bl_nil] at h1; cases h1
      · simp only [if_true]
        constructor
        · rintro (⟨rfl, h⟩ | ⟨q, hq, h1, h2⟩)
          · exact ⟨p, List.mem_cons_self .., e0, Option.some.inj h⟩
          · exact ⟨q, List.mem_cons_of_mem _ hq, h1, h2⟩
        · rintro ⟨q, hq, h1, h2⟩
          rcases List.mem_cons.1 hq with rfl | hq
          · exact .inl ⟨by rw [← h1]; exact e0, by rw [h2]⟩
          · exact .inr ⟨q, hq, h1, h2⟩
    | false =>
      have hno : ∀ p r, L = p :: r → ky p ≠ [] := fun p r e e0 => by have := hhas.2 ⟨p, r, e, e0⟩; cases this
      refine condP_false.2 (hR _ _ ⟨rfl, L, hse, hce, ⟨hrs, fun q hq => ⟨rfl, ?_⟩⟩, fun q hq => hq, Nat.le_refl _, fun k v => ?_⟩)
      · refine List.length_pos_iff.2 fun e2 => ?_
        rcases L with _ | ⟨p, r⟩
        · cases hq
        rcases List.mem_cons.1 hq with rfl | hq
        · exact hno _ _ rfl e2
        · have h1 := kl_data.1 ((List.pairwise_cons.1 hrs).1 q hq)
          change Op.bytesLess (ky p) (ky q) = true at h1
          rw [e2, bl_nil] at h1; cases h1
      · simp only [Bool.false_eq_true, if_false]
        constructor
        · rintro (⟨_, h⟩ | ⟨q, hq, h1, h2⟩)
          · cases h
          · exact ⟨q, hq, h1, h2⟩
        · rintro ⟨q, hq, h1, h2⟩
          exact .inr ⟨q, hq, h1, h2⟩
  rintro ⟨s3, v3⟩ h3 ⟨rfl, l', hs3, hc3, hbg, hsub, hll, hiff⟩
  simp only at hs3 hc3 hiff
  refine kidsB_ok (B := 1000000) (Nat.le_refl _) 1000001 0 (by omega) (W := W) hs3 hc3 hbg rfl (fun p hp => hBs p (hsub p hp)) (by omega) (fun y hy => Nat.lt_of_lt_of_le (hW y hy) k2.size) fun h4 s4 ks Lb ho4 hL4 hrow hu4 => ?_
  obtain ⟨hcF, hgF⟩ := hrow.done
  have hLl : Lb.length ≤ 100000 := by
    have := can_len hcF
    rw [Fo.to_of] at this; omega
  refine rxMake_ok (W := W) (ho4.sl fun _ _ _ h => h) hL4 hLl (fun y hy => Nat.lt_of_lt_of_le (hW y hy) (k2.tr hu4).size) fun h5 b5 rn5 hu5 => ?_
  refine hk h5 b5 ⟨_, _, rn5, hcF, fun k v => ?_⟩ ((k2.tr hu4).tr hu5)
  rw [mem_prsR]
  unfold InR
  rw [hgF, hiff]
theorem newTr' {h : Heap} {t : Tr} {k : Heap → Prop} (hk : ∀ h', h'[h.size]? = some (.cells (trL t).toArray t_tree_Tree (0, 0)) → Upd No h h' → k h') :
    At (hnew h (trL tr0) t_tree_Tree) (fun h1 => WrS h1 (some (newA h)) 0 (trL t) ∧ At (hsetL h1 (newA h) 0 (trL t)) k) :=
  at_new fun h1 b1 k1 => setAll (c := trL tr0) (vs := trL t) b1 rfl fun h2 b2 hu2 => hk h2 b2 (k1.own hu2 (Nat.le_refl _))
theorem buildTree_ok {W W0 : Nat → Prop} {x : Hs} {h : Heap} {s : SliceV} {l : List Pr} (hs : Sl prF 2 W0 h s l) (hW : ∀ y, W y → y < h.size) (hn : l.length ≤ 100000) (hB : ∀ p ∈ l, p.1.size ≤ 256 ∧ p.2.size ≤ 4096) {kind : Int} (hkd : kind = 0 ∨ kind = 1) {K : Tr × Int → Heap → Prop}
    (hk : ∀ h' t, TreeIs W h' kind x t (srtL l) → Upd No h h' → K (t, 0) h') : HC PG f_build_Tree [.int .i64 kind, .agg #[.int .u64 x.k0, .int .u64 x.k1, .int .u64 x.mask], .slice s.a s.len s.cap] [.agg [.int .i64, .int .u64, .int .u64, .int .u64, .ptr, .ptr], .c (.int .i64)] K h := by
  refine H_build_Tree kind (x.k0, x.k1, x.mask) s ?_
  unfold F_build_Tree
  refine at_new fun h1 b1 k1 => at_new fun h2 b2 k2 => ?_
  have z1 := get_lt b1
  have z2 := get_lt b2
  have s1 : h.size ≤ h1.size := k1.size
  have c1 := k2.get0 b1
  have k02 := k1.tr k2
  refine ⟨_, vc c1 0, _, vc c1 1, _, vc c1 2, ?_⟩
  refine tNew_ok (W := No) (x := x) (fun _ h => h.elim) hkd fun h3 t3 _ k3 => ?_
  refine newTr' (t := t3) fun h4 b4 k4 => ?_
  refine condP_false.2 ?_
  have k24 := k3.tr k4
  have k04 := k02.tr k24
  have hlen := hs.len
  refine LoopP.ghost (fun (i : Nat) (t : Int) h' => t = (i : Int) ∧ i ≤ l.length ∧ Upd No h4 h') (fun i => l.length - i) 0 ⟨rfl, Nat.zero_le _, Upd.refl _ _⟩ ?_
  rintro I i t h5 ⟨rfl, hi, k5⟩ hI
  have k05 := k04.tr k5
  refine condP_dec (fun hlt => ?_) fun hge => ?_
  · have hlt : i < l.length := by omega
    obtain ⟨a, ha, _, hv⟩ := (hs.upd k05 fun _ h => h.elim).at (List.getElem?_eq_getElem hlt)
    have hb := hB _ (List.getElem_mem hlt)
    refine ⟨⟨by omega, by omega⟩, a, ha, l[i].1, hv 0 _ rfl, l[i].2, hv 1 _ rfl, ?_⟩
    refine newPr' (p := l[i]) fun h6 b6 k6 => ⟨_, vc b6 0, _, vc b6 1, pRight_ok hb.1 hb.2 (condP_false.2 ?_)⟩
    rw [wrap_succB hlt (by omega)]
    exact hI (i + 1) _ _ ⟨rfl, hlt, k5.tr k6⟩ (by omega)
  · have hW5 := Pro.lt (h2 := h2) hW k02
    have hW5' : ∀ y, Pro W h h2 y → y < h5.size := fun y hy => Nat.lt_of_lt_of_le (hW5 y hy) (k24.tr k5).size
    have d2 := (k24.tr k5).get0 b2
    have d1 := (k24.tr k5).get0 c1
    rcases hkd with rfl | rfl
    · refine condP_false.2 ⟨_, vc d1 0, _, vc d1 1, _, vc d1 2, _, vc d1 0, _, vc d1 1, _, vc d1 2, ?_⟩
      refine champB_ok (z := x) (hs.upd k05 fun _ h => h.elim) hW5' hn fun h6 b6 t6 k6 => ?_
      have e1 := k6.get0 d1
      refine ⟨⟨vc e1 0, vc e1 1, vc e1 2⟩, ?_⟩
      refine tOfChamp_ok (x := x) (.inr ⟨b6, rfl, t6⟩) (fun y hy => Nat.lt_of_lt_of_le (hW5' y hy) k6.size) fun h7 t7 i7 k7 => ?_
      refine setAll (c := trL tr0) (vs := trL t7) (k7.get0 (k6.get0 d2)) rfl fun h8 b8 hu8 => ?_
      refine ⟨_, vc b8 0, _, vc b8 1, _, vc b8 2, _, vc b8 3, _, vc b8 4, _, vc b8 5, ?_⟩
      exact hk h8 t7 ((i7.updM hu8 (fun y hy => .inl (.inr (by have hy : y = h1.size := hy; omega)))).less Pro.sub) (((k05.tr k6).tr k7).own hu8 s1)
    · refine condP_true.2 (radixB_ok (hs.upd k05 fun _ h => h.elim) hW5' hn (fun p hp => by have := (hB p hp).1; omega) fun h6 b6 t6 k6 => ?_)
      refine tOfRadix_ok (x := x) (.inr ⟨b6, rfl, t6⟩) (fun y hy => Nat.lt_of_lt_of_le (hW5' y hy) k6.size) fun h7 t7 i7 k7 => ?_
      refine setAll (c := trL tr0) (vs := trL t7) (k7.get0 (k6.get0 d2)) rfl fun h8 b8 hu8 => ?_
      refine ⟨_, vc b8 0, _, vc b8 1, _, vc b8 2, _, vc b8 3, _, vc b8 4, _, vc b8 5, ?_⟩
      exact hk h8 t7 ((i7.updM hu8 (fun y hy => .inl (.inr (by have hy : y = h1.size := hy; omega)))).less Pro.sub) (((k05.tr k6).tr k7).own hu8 s1)
def c40 (s : ByteArray) : ByteArray := s.extract 0 (if 40 < (s.size : Int) then 40 else (s.size : Int)).toNat
theorem c40_size (s : ByteArray) : (c40 s).size ≤ 40 := by
  unfold c40
  rw [ByteArray.size_extract]
  split <;> omega
def c40P (p : Pr) : Pr := (c40 p.1, c40 p.2)
def fewL (l : List Pr) : List Pr := (l.take 40).map c40P
theorem few15_ok {W : Nat → Prop} {h : Heap} {s : SliceV} {l : List Pr} (hs : Sl prF 2 W h s l) (hn : l.length ≤ 9223372036854775807) {K : SliceV → Heap → Prop}
    (hk : ∀ s' h', OwnS prF 2 t_pair_Pair (fun y => h.size ≤ y) h' s' (fewL l) → Upd No h h' → K s' h') : HC PG f_l15_few [.slice s.a s.len s.cap, .int .u8 255, .int .u16 0, .int .u16 0] [.c .slice] K h := by
  refine H_l15_few s 255 0 0 ?_
  unfold F_l15_few
  have hlen := hs.len
  refine LoopP.ghost (fun (i : Nat) (t : SliceV × Int) h' => t.2 = (i : Int) ∧ i ≤ l.length ∧ i ≤ 40 ∧ OwnS prF 2 t_pair_Pair (fun y => h.size ≤ y) h' t.1 ((l.take i).map c40P) ∧ Upd No h h') (fun i => l.length - i) 0 ⟨rfl, Nat.zero_le _, Nat.zero_le _, OwnS.nil prF_ne, Upd.refl _ _⟩ ?_
  rintro I i ⟨so, ti⟩ h3 ⟨e1, hi, hi40, ho, hu⟩ hI
  simp only at e1 ho
  subst e1
  refine condP_dec (fun hlt => ?_) fun hge => ?_
  · have hlt : i < l.length := by simp only at hlt; omega
    refine Join.intro (fun t h' => OwnS prF 2 t_pair_Pair (fun y => h.size ≤ y) h' t ((l.take (i + 1)).map c40P) ∧ i < 40 ∧ Upd No h h') (fun R hR => ?_) ?_
    · obtain ⟨a, ha, _, hv⟩ := (hs.upd hu fun _ h => h.elim).at (List.getElem?_eq_getElem hlt)
      refine ⟨⟨by omega, by simp only; omega⟩, a, ha, l[i].1, hv 0 _ rfl, l[i].2, hv 1 _ rfl, ?_⟩
      refine newPr' (p := l[i]) fun h9 b9 k9 => ?_
      refine condP_dec (fun h40 => ?_) fun h40 => ?_
      · have h40 : i = 40 := by simp only at h40; omega
        subst h40
        exact hk so h9 (ho.upd k9 fun _ _ h => h) (hu.tr k9)
      · have h40 : i < 40 := by simp only at h40; omega
        refine ⟨_, vc b9 0, _, vc b9 0, ⟨by split <;> omega, by split <;> omega⟩, ?_⟩
        simp only [Bd]
        refine ⟨_, vc b9 1, _, vc b9 1, ⟨by split <;> omega, by split <;> omega⟩, ?_⟩
        refine vset (i := 0) (c' := #[.string (c40 l[i].1), .string l[i].2]) b9 (show 0 < 2 by decide) rfl fun h16 b16 hu16 => ?_
        refine vset (i := 1) (c' := #[.string (c40 l[i].1), .string (c40 l[i].2)]) b16 (show 1 < 2 by decide) rfl fun h17 b17 hu17 => ?_
        have k17 : Upd No h3 h17 := (k9.own hu16 (Nat.le_refl _)).own hu17 (Nat.le_refl _)
        have ne : ((i : Int) == IntKind.wrap .i64 255) = false := by
          have : IntKind.wrap .i64 255 = 255 := by decide
          rw [this, beq_eq_false_iff_ne]; omega
        refine Join.intro (fun _ h' => h' = h17) (fun R2 hR2 => ?_) ?_
        · rw [ne]
          exact condP_false.2 (hR2 _ _ rfl)
        · rintro _ h' rfl
          refine ⟨_, vc b17 0, _, vc b17 1, at_intro ?_⟩
          have hz := (hu.tr k17).size
          refine append1p (p := c40P l[i]) (ho.upd k17 fun _ _ h => h) (fun b hb => by omega) (by rw [List.length_map, List.length_take]; omega) fun s' h'' ho' hu' => hR _ _ ⟨?_, h40, (hu.tr k17).trans hu' fun b hb => .inr hb⟩
          rw [List.take_add_one, List.getElem?_eq_getElem hlt, List.map_append]
          exact ho'
    · rintro s' h' ⟨ho', h40, hu'⟩
      rw [wrap_succB hlt hn]
      exact hI (i + 1) _ _ ⟨rfl, hlt, h40, ho', hu'⟩ (by omega)
  · have hil : i = l.length := by simp only at hge; omega
    have e : (l.take i).map c40P = fewL l := by
      unfold fewL
      rw [List.take_of_length_le (by omega), List.take_of_length_le (by omega)]
    rw [e] at ho
    exact hk so h3 ho hu
theorem fewL_ok (l : List Pr) : (fewL l).length ≤ 40 ∧ ∀ p ∈ fewL l, p.1.size ≤ 40 ∧ p.2.size ≤ 40 := by
  unfold fewL
  refine ⟨by rw [List.length_map, List.length_take]; omega, fun p hp => ?_⟩
  obtain ⟨q, _, rfl⟩ := List.mem_map.1 hp
  exact ⟨c40_size _, c40_size _⟩
end Go.Proofs
namespace Go.Proofs
open Go Go.Lift
abbrev bA : ByteArray := ⟨#[97]⟩
abbrev bB : ByteArray := ⟨#[98]⟩
theorem bab : kl bA bB := by rw [kl_data]; decide
theorem bba : ¬ kl bB bA := by rw [kl_data]; decide
theorem bne' : bB ≠ bA := fun h => by
  have := bab
  rw [h] at this; exact kl_irrefl _ this
theorem awake_srt : srtL [(bB, ⟨#[49]⟩), (bA, ⟨#[50]⟩), (bB, ⟨#[51]⟩)] = [(bA, ⟨#[50]⟩), (bB, ⟨#[51]⟩)] := by
  unfold srtL
  rw [List.foldl_cons, List.foldl_cons, List.foldl_cons, List.foldl_nil]
  have e1 : insR (bB, ⟨#[49]⟩) [] = [(bB, ⟨#[49]⟩)] := rfl
  rw [e1, insR_cons, if_neg bba, if_neg bne', insR_cons, if_pos bab, insR_cons, if_neg (kl_irrefl _), if_pos rfl]
theorem awake15_ok {h : Heap} {K : Bool → Heap → Prop} (hk : ∀ h', Upd No h h' → K true h') : HC PG f_l15_awake [] [.c .bool] K h := by
  refine H_l15_awake ?_
  unfold F_l15_awake
  refine at_new fun h1 b1 k1 => ?_
  have hs : Sl prF 2 No h1 ⟨some (newA h), 3, 3⟩ [(bB, ⟨#[49]⟩), (bA, ⟨#[50]⟩), (bB, ⟨#[51]⟩)] := ⟨rfl, prF_ne, fun _ => ⟨_, rfl, fun h => h.elim, row_blk b1 fun i v hv => by simpa using hv⟩⟩
  refine buildTree_ok (W := No) (x := ⟨0, 0, 0⟩) hs (fun _ h => h.elim) (by simp) (fun p hp => ?_) (.inr rfl) fun h3 t i3 k3 => ?_
  · rcases List.mem_cons.1 hp with rfl | hp
    · exact ⟨by decide, by decide⟩
    rcases List.mem_cons.1 hp with rfl | hp
    · exact ⟨by decide, by decide⟩
    rw [List.mem_singleton.1 hp]
    exact ⟨by decide, by decide⟩
  rw [awake_srt] at i3
  refine newTr' (t := t) fun h5 b5 k5 => ?_
  refine ⟨_, vc b5 0, _, vc b5 1, _, vc b5 2, _, vc b5 3, _, vc b5 4, _, vc b5 5, ?_⟩
  have hri : Rises [(bA, (⟨#[50]⟩ : ByteArray)), (bB, ⟨#[51]⟩)] := List.pairwise_cons.2 ⟨fun p hp => by rw [List.mem_singleton.1 hp]; exact bab, List.pairwise_singleton ..⟩
  refine tPairsR_ok (i3.upd0 k5) hri (fun p hp => ?_) (by decide) fun s13 h13 ho13 k13 => ?_
  · rcases List.mem_cons.1 hp with rfl | hp
    · exact ⟨by decide, by decide⟩
    rw [List.mem_singleton.1 hp]
    exact ⟨by decide, by decide⟩
  have hlen := ho13.len
  have hs13 := ho13.sl (W := No) fun _ _ _ h => h
  obtain ⟨a, ha, _, hv⟩ := hs13.at (i := 0) (x := (bA, (⟨#[50]⟩ : ByteArray))) rfl
  obtain ⟨a', ha', _, hv'⟩ := hs13.at (i := 1) (x := (bB, (⟨#[51]⟩ : ByteArray))) rfl
  rw [ha] at ha'; cases ha'
  have e1 : ((s13.len : Int) == (2 : Int)) = true := by rw [hlen]; rfl
  refine condP_true.2 ?_
  rw [e1]
  refine condP_true.2 ⟨⟨by omega, by rw [hlen]; decide⟩, a, ha, bA, hv 0 _ rfl, ⟨#[50]⟩, hv 1 _ rfl, ?_⟩
  rw [beq_self_eq_true, beq_self_eq_true]
  refine condP_true.2 ⟨⟨by omega, by rw [hlen]; decide⟩, a, ha, ⟨#[51]⟩, hv' 1 _ rfl, ?_⟩
  rw [beq_self_eq_true]
  exact hk h13 (((k1.tr k3).tr k5).tr k13)
theorem srt_fit {l : List Pr} (h : ∀ p ∈ l, p.1.size ≤ 40 ∧ p.2.size ≤ 40) : Fit (srtL l) := fun p hp => by
  have := h p (srt_sub hp); omega
set_option maxRecDepth 100000 in
theorem buildRoots_ok {h : Heap} {x : Hs} {s : SliceV} {l : List Pr} (hs : Sl prF 2 No h s l) (hl : l.length ≤ 9223372036854775807) :
    HC PG f_l15_BuildRoots [.agg #[.int .u64 x.k0, .int .u64 x.k1, .int .u64 x.mask], .slice s.a s.len s.cap] [.c .bool] (fun b h' => b = true ∧ Upd No h h') h := by
  refine H_l15_BuildRoots (x.k0, x.k1, x.mask) s ?_
  unfold F_l15_BuildRoots
  refine at_new fun h1 b1 k1 => awake15_ok fun h3 k3 => condP_false.2 ?_
  have k03 := k1.tr k3
  refine few15_ok (hs.upd k03 fun _ h => h.elim) hl fun e h5 ho5 k5 => ?_
  have k05 := k03.tr k5
  have c5 := k5.get0 (k3.get0 b1)
  have hse : Sl prF 2 No h5 e (fewL l) := ho5.sl fun _ _ _ h => h
  obtain ⟨f1, f2⟩ := fewL_ok l
  have hfit := srt_fit f2
  have hr := srt_rises (fewL l)
  have hsl := srt_len (fewL l)
  generalize fewL l = L at *
  have hB : ∀ p ∈ L, p.1.size ≤ 256 ∧ p.2.size ≤ 4096 := fun p hp => by have := f2 p hp; omega
  refine ⟨_, vc c5 0, _, vc c5 1, _, vc c5 2, ?_⟩
  refine buildTree_ok (W := No) (x := x) hse (fun _ h => h.elim) (by omega) hB (.inl rfl) fun h10 a ia k10 => ?_
  refine newTr' (t := a) fun h12 va g12 => ?_
  have k512 := k10.tr g12
  have ia := ia.upd0 g12
  have c12 := k512.get0 c5
  refine ⟨_, vc c12 0, _, vc c12 1, _, vc c12 2, ?_⟩
  refine buildTree_ok (W := No) (x := x) (hse.upd k512 fun _ h => h.elim) (fun _ h => h.elim) (by omega) hB (.inr rfl) fun h17 b ib k17 => ?_
  refine newTr' (t := b) fun h19 vb g19 => ?_
  have k1219 := k17.tr g19
  have ib := ib.upd0 g19
  have ia := ia.upd0 k1219
  have va := k1219.get0 va
  have c19 := k1219.get0 c12
  have k519 := k512.tr k1219
  refine ⟨_, vc c19 0, _, vc c19 1, _, vc c19 2, _, vc c19 0, _, vc c19 1, _, vc c19 2, _, vc va 0, _, vc va 1, _, vc va 2, _, vc va 3, _, vc va 4, _, vc va 5, ?_⟩
  refine champB_ok (z := x) (W := No) (hse.upd k519 fun _ h => h.elim) (fun _ h => h.elim) (by omega) fun h33 rb t33 k33 => ?_
  have va33 := k33.get0 va
  have c33 := k33.get0 c19
  refine ⟨⟨vc va33 0, vc va33 1, vc va33 2, vc va33 3, vc va33 4, vc va33 5⟩, ⟨vc c33 0, vc c33 1, vc c33 2⟩, ?_⟩
  refine tOfChamp_ok (x := x) (W := No) (.inr ⟨rb, rfl, t33⟩) (fun _ h => h.elim) fun h35 c ic k35 => ?_
  have va35 := k35.get0 va33
  have k1935 := k33.tr k35
  refine ⟨⟨vc va35 0, vc va35 1, vc va35 2, vc va35 3, vc va35 4, vc va35 5⟩, ?_⟩
  refine tSame_ok ic (ia.upd0 k1935) hr hfit (by omega) hr hfit (by omega) fun h37 k37 => ?_
  rw [like_same ic ia, decide_eq_true rfl]
  have k1937 := k1935.tr k37
  have vb37 := k1937.get0 vb
  refine condP_true.2 ⟨_, vc vb37 0, _, vc vb37 1, _, vc vb37 2, _, vc vb37 3, _, vc vb37 4, _, vc vb37 5, ?_⟩
  refine radixB_ok (W := No) (hse.upd (k519.tr k1937) fun _ h => h.elim) (fun _ h => h.elim) (by omega) (fun p hp => by have := f2 p hp; omega) fun h45 rr t45 k45 => ?_
  have vb45 := k45.get0 vb37
  refine ⟨⟨vc vb45 0, vc vb45 1, vc vb45 2, vc vb45 3, vc vb45 4, vc vb45 5⟩, ?_⟩
  refine tOfRadix_ok (x := x) (W := No) (.inr ⟨rr, rfl, t45⟩) (fun _ h => h.elim) fun h47 d id' k47 => ?_
  have vb47 := k47.get0 vb45
  refine ⟨⟨vc vb47 0, vc vb47 1, vc vb47 2, vc vb47 3, vc vb47 4, vc vb47 5⟩, ?_⟩
  have k1947 := (k1937.tr k45).tr k47
  refine tSame_ok id' (ib.upd0 k1947) hr hfit (by omega) hr hfit (by omega) fun h49 k49 => ⟨?_, ((k05.tr k519).tr k1947).tr k49⟩
  rw [like_same id' ib, decide_eq_true rfl]; rfl
end Go.Proofs
namespace Go.Proofs
open Go Go.Lift
theorem srt_of_mem {X l : List Pr} (hr : Rises l) (hm : ∀ p, p ∈ X ↔ p ∈ l) : srtL X = l := by
  refine rises_ext (srt_rises _) hr fun p => ?_
  rw [mem_srt]
  constructor
  · intro h; exact (hm p).1 (lastK_mem h)
  · intro h
    have hp : p ∈ X.filter fun q => decide (q.1 = p.1) := List.mem_filter.2 ⟨(hm p).2 h, decide_eq_true rfl⟩
    have hne : lastK X p.1 ≠ none := by
      unfold lastK
      intro e
      rw [List.getLast?_eq_none_iff] at e
      rw [e] at hp; cases hp
    cases hl : lastK X p.1 with
    | none => exact absurd hl hne
    | some q =>
      have h1 := lastK_key hl
      have h2 := (hm q).1 (lastK_mem hl)
      have h3 : (p.1, q.2) ∈ l := by rw [← h1]; exact h2
      have h4 := rises_uniq hr (k := p.1) (v := p.2) (w := q.2) h h3
      rw [Prod.ext h1 h4.symm]
theorem lastK_app (X Y : List Pr) (k : ByteArray) : lastK (X ++ Y) k = (lastK Y k).or (lastK X k) := by
  unfold lastK
  rw [List.filter_append, List.getLast?_append]
theorem srt_app {X Y l : List Pr} (hr : Rises l) (hY : ∀ p, p ∈ Y ↔ p ∈ l) (hX : ∀ p ∈ X, ∃ q ∈ l, q.1 = p.1) : srtL (X ++ Y) = l := by
  have hYl := srt_of_mem hr hY
  have hl : ∀ p, lastK Y p.1 = some p ↔ p ∈ l := fun p => by rw [← mem_srt, hYl]
  refine rises_ext (srt_rises _) hr fun p => ?_
  rw [mem_srt, lastK_app]
  cases hk : lastK Y p.1 with
  | some q =>
    rw [Option.some_or, ← hl p, hk]
  | none =>
    rw [Option.none_or]
    constructor
    · intro h
      obtain ⟨q, hq, e⟩ := hX p (lastK_mem h)
      have := (hl q).2 hq
      rw [e, hk] at this; cases this
    · intro h
      have := (hl p).2 h
      rw [hk] at this; cases this
theorem tmod_nat (a b : Nat) : Int.tmod (a : Int) (b : Int) = ((a % b : Nat) : Int) := by
  rw [Int.tmod_eq_emod_of_nonneg (by omega)]; rfl
set_option maxRecDepth 100000 in
set_option maxHeartbeats 2000000 in
theorem buildRows_ok {h : Heap} {k : Int} {x : Hs} {s so : SliceV} {l : List Pr} {os : List UInt8} (hs : Sl prF 2 No h s l) (hl : l.length ≤ 9223372036854775807) (hos : Sl byF 1 No h so os) (hk0 : 0 ≤ k) (hk1 : k ≤ 255) :
    HC PG f_l15_BuildRows [.int .u8 k, .agg #[.int .u64 x.k0, .int .u64 x.k1, .int .u64 x.mask], .slice s.a s.len s.cap, .slice so.a so.len so.cap] [.c .bool] (fun b h' => b = true ∧ Upd No h h') h := by
  refine H_l15_BuildRows k (x.k0, x.k1, x.mask) s so ?_
  unfold F_l15_BuildRows
  have hkk := kind2 hk0 hk1
  generalize IntKind.wrap .i64 (Int.tmod k 2) = kk at hkk
  refine at_new fun h1 b1 k1 => awake15_ok fun h3 k3 => condP_false.2 ?_
  have k03 := k1.tr k3
  refine few15_ok (hs.upd k03 fun _ h => h.elim) hl fun e h5 ho5 k5 => ?_
  have k05 := k03.tr k5
  have c5 := k5.get0 (k3.get0 b1)
  have hse5 : Sl prF 2 No h5 e (fewL l) := ho5.sl fun _ _ _ h => h
  obtain ⟨f1, f2⟩ := fewL_ok l
  have hfit := srt_fit f2
  have hr := srt_rises (fewL l)
  have hsl := srt_len (fewL l)
  have hSm : ∀ p ∈ srtL (fewL l), p.1.size ≤ 40 ∧ p.2.size ≤ 40 := fun p hp => f2 p (srt_sub hp)
  have hB : ∀ p ∈ fewL l, p.1.size ≤ 256 ∧ p.2.size ≤ 4096 := fun p hp => by have := f2 p hp; omega
  refine sorted_ok (W' := No) hse5 (fun _ h => h.elim) (by omega) fun e6 h7 hS7 _ k7 => ?_
  have k07 := k05.tr k7
  have c7 := k7.get0 c5
  have z1 : h.size < h7.size := get_lt c7
  generalize fewL l = L at *
  obtain ⟨S, hSe⟩ : ∃ S, srtL L = S := ⟨_, rfl⟩
  rw [hSe] at hfit hr hsl hSm hS7
  have hSl : S.length ≤ 40 := by omega
  have hS : Sl prF 2 (fun y => h7.size ≤ y) h7 e6 S := hS7.less fun y hy => .inr hy
  have hL : Sl prF 2 (fun y => h7.size ≤ y) h7 e L := (hse5.upd k7 fun _ h => h.elim).less fun y hy => .inr hy
  have hO : Sl byF 1 (fun y => h7.size ≤ y) h7 so os := (hos.upd k07 fun _ h => h.elim).less fun y hy => .inr hy
  have hSlen := hS.len
  have hOlen := hO.len
  refine Join.intro (fun t h' => OwnS prF 2 t_pair_Pair (fun y => h7.size ≤ y) h' t S ∧ Upd No h7 h') (fun R hR => at_intro ?_) ?_
  · have k9 := Upd.hnew No h7 [] t_pair_Pair
    have hS9 := hS.upd k9 fun _ h => h.elim
    refine ⟨_, hS9.srow, ?_⟩
    refine AppP.own (f := prF) (M := fun b => h7.size ≤ b) (xs := []) (ys := S) ⟨rfl, prF_ne, Nat.le_refl _, .inl rfl⟩ hS.len rfl (one_prF S) rfl (by omega) (by simp only [List.length_nil]; omega) (by rw [hnew_size]; omega) fun s' h' ho hu => ?_
    exact hR _ _ ⟨ho, k9.trans hu fun b hb => .inr hb⟩
  rintro turn h14 ⟨ho14, k14⟩
  have htl : turn.len = S.length := ho14.len
  -- the row is turned
  refine LoopP.ghost (fun (g : Nat × List Pr) (t : Int) h' => t = (g.1 : Int) ∧ g.1 ≤ S.length ∧ g.2.Perm S ∧ OwnS prF 2 t_pair_Pair (fun y => h7.size ≤ y) h' turn g.2 ∧ Upd (fun y => h7.size ≤ y) h7 h') (fun g => S.length - g.1) (0, S)
    ⟨rfl, Nat.zero_le _, List.Perm.refl _, ho14, k14.wide⟩ ?_
  rintro I ⟨i, xs⟩ t h17 ⟨e1, hi, hpm, ho, hu⟩ hI
  simp only at e1 hi hpm ho
  subst e1
  have hxl := hpm.length_eq
  refine condP_dec (fun hlt => ?_) fun hge => ?_
  · have hlt : i < S.length := by omega
    refine Join.intro (fun _ h' => ∃ ys, ys.Perm S ∧ OwnS prF 2 t_pair_Pair (fun y => h7.size ≤ y) h' turn ys ∧ Upd (fun y => h7.size ≤ y) h7 h') (fun R hR => ?_) ?_
    · refine condP_dec (fun hio => ?_) fun hno => hR _ _ ⟨xs, hpm, ho, hu⟩
      have hio : i < os.length := by omega
      obtain ⟨ao, hao, _, hvo⟩ := (hO.upd hu fun b hb => .inl hb).at (List.getElem?_eq_getElem hio)
      have hob := UInt8.toNat_lt os[i]
      have eo : IntKind.wrap .i64 ((os[i].toNat : Nat) : Int) = ((os[i].toNat : Nat) : Int) := w64 (by omega)
      have en : IntKind.wrap .i64 ((turn.len : Int) - (i : Int)) = ((S.length - i : Nat) : Int) := by rw [w64 (by omega)]; omega
      refine ⟨⟨by omega, by omega⟩, ao, hao, _, (by have := hvo 0 _ rfl; rw [adr_zero] at this; exact this), ?_⟩
      rw [en, eo]
      refine ⟨by omega, ?_⟩
      simp only [Bd]
      rw [tmod_nat]
      have hrl : os[i].toNat % (S.length - i) < S.length - i := Nat.mod_lt _ (by omega)
      generalize os[i].toNat % (S.length - i) = r at hrl
      have ej : IntKind.wrap .i64 ((i : Int) + (r : Int)) = ((i + r : Nat) : Int) := by rw [w64 (by omega)]; omega
      rw [ej]
      have hix : i < xs.length := by omega
      have hjx : i + r < xs.length := by omega
      obtain ⟨a, ha, hvj⟩ := readGet ho (i := i + r) (x := xs[i + r]) (List.getElem?_eq_getElem hjx)
      obtain ⟨a', ha', hvi⟩ := readGet ho (i := i) (x := xs[i]) (List.getElem?_eq_getElem hix)
      rw [ha] at ha'; cases ha'
      refine ⟨⟨by omega, by omega⟩, a, ha, xs[i + r].1, hvj 0 _ rfl, xs[i + r].2, hvj 1 _ rfl, ⟨by omega, by omega⟩, a, ha, xs[i].1, hvi 0 _ rfl, xs[i].2, hvi 1 _ rfl, ⟨by omega, by omega⟩, a, ha, ?_⟩
      obtain ⟨b, hb, hbM, hw, ho1, hu1⟩ := OwnS.setAt ho hix xs[i + r]
      rw [ha] at hb; cases hb
      rw [set_eq hix] at ho1
      refine ⟨hw, at_intro ⟨⟨by omega, by omega⟩, a, ha, ?_⟩⟩
      have hjx2 : i + r < (xs.set i xs[i + r]).length := by rw [List.length_set]; exact hjx
      obtain ⟨b, hb, _, hw2, ho2, hu2⟩ := OwnS.setAt ho1 hjx2 xs[i]
      rw [ha] at hb; cases hb
      rw [set_eq hjx2] at ho2
      refine ⟨hw2, at_intro (hR _ _ ⟨_, (List.set_set_perm hix hjx).trans hpm, ho2, ?_⟩)⟩
      have hM : ∀ y, y = a.block → h7.size ≤ y := fun y hy => by rw [hy]; exact hbM
      exact (hu.trans hu1 fun y hy => .inl (hM y hy)).trans hu2 fun y hy => .inl (hM y hy)
    · rintro _ h33 ⟨ys, hpm2, ho2, hu2⟩
      rw [wrap_succB hlt (by omega)]
      exact hI (i + 1, ys) _ _ ⟨rfl, hlt, hpm2, ho2, hu2⟩ (by simp only; omega)
  clear hI
  have hmem : ∀ p, p ∈ xs ↔ p ∈ S := fun p => hpm.mem_iff
  have hxs : srtL xs = S := srt_of_mem hr hmem
  have hXB : ∀ p ∈ xs, p.1.size ≤ 256 ∧ p.2.size ≤ 4096 := fun p hp => by have := hSm p ((hmem p).1 hp); omega
  have hS17 := hS.upd hu fun b hb => .inl hb
  have hL17 := hL.upd hu fun b hb => .inl hb
  have c17 := hu.get c7 (by omega)
  have k017 : Upd No h h17 := k07.trans hu fun b hb => .inr (by omega)
  have hT17 : Sl prF 2 No h17 turn xs := ho.sl fun _ _ _ h => h
  clear hS hL hO ho14 hge c7 c5 hse5 ho5 hu ho
  refine ⟨by decide, _, vc c17 0, _, vc c17 1, _, vc c17 2, ?_⟩
  refine buildTree_ok (W := No) (x := x) hL17 (fun _ h => h.elim) (by omega) hB hkk fun h38 a ia k38 => ?_
  rw [hSe] at ia
  refine newTr' (t := a) fun h40 va g40 => ?_
  have k1740 := k38.tr g40
  have ia := ia.upd0 g40
  have c40 := k1740.get0 c17
  refine ⟨by decide, _, vc c40 0, _, vc c40 1, _, vc c40 2, ?_⟩
  refine buildTree_ok (W := No) (x := x) (hT17.upd k1740 fun _ h => h.elim) (fun _ h => h.elim) (by omega) hXB hkk fun h45 b ib k45 => ?_
  rw [hxs] at ib
  refine newTr' (t := b) fun h47 vb g47 => ?_
  have k4047 := k45.tr g47
  have ib := ib.upd0 g47
  have ia := ia.upd0 k4047
  have va := k4047.get0 va
  have c47 := k4047.get0 c40
  have k1747 := k1740.tr k4047
  have hS47 := hS17.upd k1747 fun _ h => h.elim
  have hT47 := hT17.upd k1747 fun _ h => h.elim
  have k047 := k017.tr k1747
  clear hS17 hT17 hL17 c17 c40 k017 k1747 k1740 k4047
  have z47 : h.size < h47.size := get_lt c47
  -- the same keys, with another value, ahead
  refine LoopP.ghost (fun (g : List Pr × List Pr) (t : SliceV × Int) h' => t.2 = (g.1.length : Int) ∧ S = g.1 ++ g.2 ∧ OwnS prF 2 t_pair_Pair (fun y => h47.size ≤ y) h' t.1 (g.1.map fun p => (p.1, (⟨#[111, 108, 100]⟩ : ByteArray))) ∧ Upd No h47 h') (fun g => g.2.length) ([], S) ⟨rfl, rfl, OwnS.nil prF_ne, Upd.refl _ _⟩ ?_
  rintro I ⟨D, T⟩ ⟨st, ti⟩ h50 ⟨e1, e2, ho, hu⟩ hI
  simp only at e1 e2 ho
  subst e1
  have hlS : S.length = D.length + T.length := by rw [e2, List.length_append]
  refine condP_dec (fun hlt => ?_) fun hge => ?_
  · rcases T with _ | ⟨p, T⟩
    · simp only [List.length_nil] at hlS; simp only at hlt; omega
    simp only [List.length_cons] at hlS
    refine Join.intro (fun t h' => OwnS prF 2 t_pair_Pair (fun y => h47.size ≤ y) h' t ((D ++ [p]).map fun p => (p.1, (⟨#[111, 108, 100]⟩ : ByteArray))) ∧ Upd No h47 h') (fun R hR => ?_) ?_
    · obtain ⟨ap, hap, _, hv⟩ := (hS47.upd hu fun _ h => h.elim).at (i := D.length) (x := p) (by rw [e2, List.getElem?_append_right (Nat.le_refl _), Nat.sub_self]; rfl)
      refine ⟨⟨by omega, by simp only; omega⟩, ap, hap, p.1, hv 0 _ rfl, p.2, hv 1 _ rfl, ?_⟩
      refine newPr' (p := p) fun h56 b56 k56 => ⟨p.1, vc b56 0, at_intro ?_⟩
      have hz := (hu.tr k56).size
      refine append1p (p := (p.1, (⟨#[111, 108, 100]⟩ : ByteArray))) (ho.upd k56 fun _ _ h => h) (fun b hb => by omega) (by rw [List.length_map]; omega) fun s' h' ho' hu' => hR _ _ ⟨?_, (hu.tr k56).trans hu' fun b hb => .inr hb⟩
      rw [List.map_append]
      exact ho'
    · rintro s' h' ⟨ho', hu'⟩
      have ew : IntKind.wrap .i64 ((D.length : Int) + 1) = ((D ++ [p]).length : Int) := by rw [List.length_append, List.length_singleton, w64 (by omega)]; omega
      simp only
      rw [ew]
      exact hI (D ++ [p], T) _ _ ⟨rfl, by rw [e2]; simp, ho', hu'⟩ (by simp)
  clear hI
  have hT : T = [] := List.length_eq_zero_iff.1 (by simp only at hge; omega)
  subst hT
  rw [List.append_nil] at e2
  subst e2
  have hXY : srtL ((S.map fun p => (p.1, (⟨#[111, 108, 100]⟩ : ByteArray))) ++ xs) = S := srt_app hr hmem fun p hp => by
    obtain ⟨q, hq, rfl⟩ := List.mem_map.1 hp
    exact ⟨q, hq, rfl⟩
  have hXYB : ∀ p ∈ (S.map fun p => (p.1, (⟨#[111, 108, 100]⟩ : ByteArray))) ++ xs, p.1.size ≤ 256 ∧ p.2.size ≤ 4096 := fun p hp => by
    rcases List.mem_append.1 hp with hp | hp
    · obtain ⟨q, hq, rfl⟩ := List.mem_map.1 hp
      have := (hSm q hq).1
      exact ⟨by simp only; omega, by show 3 ≤ 4096; omega⟩
    · exact hXB p hp
  have hXYl : ((S.map fun p => (p.1, (⟨#[111, 108, 100]⟩ : ByteArray))) ++ xs).length ≤ 100000 := by rw [List.length_append, List.length_map]; omega
  have hOl : (S.map fun p => (p.1, (⟨#[111, 108, 100]⟩ : ByteArray))).length = S.length := List.length_map ..
  generalize hOe : (S.map fun p => (p.1, (⟨#[111, 108, 100]⟩ : ByteArray))) = O at ho hXY hXYB hXYl hOl
  have zs := hu.size
  have c50 := hu.get0 c47
  refine ⟨by decide, _, vc c50 0, _, vc c50 1, _, vc c50 2, ?_⟩
  have hTt : ∀ {h' : Heap}, Upd No h47 h' → Sl prF 2 No h' turn xs := fun k => hT47.upd k fun _ h => h.elim
  refine ⟨⟨_, (hTt hu).srow, ?_⟩, ?_⟩
  · refine AppP.own (ys := xs) ho (hTt hu).len rfl (one_prF xs) rfl (by omega) (by omega) (by omega) fun s112 h113 ho113 hu113 => ?_
    have k113 : Upd No h47 h113 := hu.trans hu113 fun b hb => .inr hb
    have c113 := k113.get0 c47
    have hXYs : Sl prF 2 No h113 s112 (O ++ xs) := ho113.sl fun _ _ _ h => h
    refine ⟨⟨vc c113 0, vc c113 1, vc c113 2⟩, ?_, ?_⟩
    case refine_1 =>
      refine buildTree_ok (W := No) (x := x) hXYs (fun _ h => h.elim) hXYl hXYB hkk fun h115 c ic k115 => ?_
      rw [hXY] at ic
      refine newTr' (t := c) fun hz vcc gz => ?_
      have kz := (k113.tr k115).tr gz
      have ic := ic.upd0 gz
      have va := kz.get0 va
      have vb := kz.get0 vb
      have ia := ia.upd0 kz
      have ib := ib.upd0 kz
      refine condP_true.2 (condP_true.2 (condP_true.2 ⟨_, vc va 0, _, vc va 1, _, vc va 2, _, vc va 3, _, vc va 4, _, vc va 5, _, vc vb 0, _, vc vb 1, _, vc vb 2, _, vc vb 3, _, vc vb 4, _, vc vb 5, ?_⟩))
      refine tSame_ok ia ib hr hfit (by omega) hr hfit (by omega) fun h131 k131 => ?_
      rw [like_same ia ib, decide_eq_true rfl]
      have va := k131.get0 va
      have vcc := k131.get0 vcc
      refine condP_true.2 ⟨_, vc va 0, _, vc va 1, _, vc va 2, _, vc va 3, _, vc va 4, _, vc va 5, _, vc vcc 0, _, vc vcc 1, _, vc vcc 2, _, vc vcc 3, _, vc vcc 4, _, vc vcc 5, ?_⟩
      refine tSame_ok (ia.upd0 k131) (ic.upd0 k131) hr hfit (by omega) hr hfit (by omega) fun h145 k145 => ?_
      rw [like_same ia ic, decide_eq_true rfl]
      have va := k145.get0 va
      refine condP_true.2 ⟨_, vc va 0, _, vc va 1, _, vc va 2, _, vc va 3, _, vc va 4, _, vc va 5, ?_⟩
      refine tPairs_ok (W' := No) (ia.upd0 (k131.tr k145)) hr hfit (by omega) (fun _ h => h.elim) fun s153 h153 hp153 k153 => ?_
      have kf := kz.tr ((k131.tr k145).tr k153)
      exact pairSame_ok hp153 (hS47.upd kf fun _ h => h.elim) (by omega) ⟨rfl, k047.tr kf⟩
    case refine_2 =>
      refine at_new fun h156 b156 k156 => ?_
      have k4756 := k113.tr k156
      have c156 := k4756.get0 c47
      have z156 := get_lt b156
      refine ⟨⟨vc c156 0, vc c156 1, vc c156 2⟩, ?_⟩
      refine buildTree_ok (W := fun y => y = h113.size) (x := x) (hXYs.upd k156 fun _ h => h.elim) (fun y hy => by omega) hXYl hXYB hkk fun h158 c ic k158 => ?_
      rw [hXY] at ic
      refine setAll (c := trL tr0) (vs := trL c) (k158.get0 b156) rfl fun hz vcc hu159 => ?_
      have kz : Upd No h47 hz := (k4756.tr k158).own hu159 k113.size
      have ic : TreeIs No hz kk x c S := (ic.updM hu159 fun y hy => .inl hy).less fun _ h => h.elim
      have va := kz.get0 va
      have vb := kz.get0 vb
      have ia := ia.upd0 kz
      have ib := ib.upd0 kz
      refine condP_true.2 (condP_true.2 (condP_true.2 ⟨_, vc va 0, _, vc va 1, _, vc va 2, _, vc va 3, _, vc va 4, _, vc va 5, _, vc vb 0, _, vc vb 1, _, vc vb 2, _, vc vb 3, _, vc vb 4, _, vc vb 5, ?_⟩))
      refine tSame_ok ia ib hr hfit (by omega) hr hfit (by omega) fun h131 k131 => ?_
      rw [like_same ia ib, decide_eq_true rfl]
      have va := k131.get0 va
      have vcc := k131.get0 vcc
      refine condP_true.2 ⟨_, vc va 0, _, vc va 1, _, vc va 2, _, vc va 3, _, vc va 4, _, vc va 5, _, vc vcc 0, _, vc vcc 1, _, vc vcc 2, _, vc vcc 3, _, vc vcc 4, _, vc vcc 5, ?_⟩
      refine tSame_ok (ia.upd0 k131) (ic.upd0 k131) hr hfit (by omega) hr hfit (by omega) fun h145 k145 => ?_
      rw [like_same ia ic, decide_eq_true rfl]
      have va := k145.get0 va
      refine condP_true.2 ⟨_, vc va 0, _, vc va 1, _, vc va 2, _, vc va 3, _, vc va 4, _, vc va 5, ?_⟩
      refine tPairs_ok (W' := No) (ia.upd0 (k131.tr k145)) hr hfit (by omega) (fun _ h => h.elim) fun s153 h153 hp153 k153 => ?_
      have kf := kz.tr ((k131.tr k145).tr k153)
      exact pairSame_ok hp153 (hS47.upd kf fun _ h => h.elim) (by omega) ⟨rfl, k047.tr kf⟩
  · refine at_new fun h198 b198 k198 => ?_
    have k4798 := hu.tr k198
    have c198 := k4798.get0 c47
    have z198 := get_lt b198
    refine ⟨⟨vc c198 0, vc c198 1, vc c198 2⟩, _, (hTt k4798).srow, ?_⟩
    refine AppP.own (M := fun y => h47.size ≤ y ∧ y ≠ h50.size) (ys := xs) ((ho.within.upd k198 fun _ _ h => h).more fun y hy => ⟨hy.1, by have := hy.2; omega⟩) (hTt k4798).len rfl (one_prF xs) rfl (by omega) (by omega) ⟨by omega, by omega⟩ fun s112 h113 ho113 hu113 => ?_
    have k113 : Upd No h47 h113 := k4798.trans hu113 fun b hb => .inr hb.1
    have c113 := k113.get0 c47
    have b113 := hu113.get b198 fun hx => hx.2 rfl
    have hXYs : Sl prF 2 No h113 s112 (O ++ xs) := ho113.sl fun _ _ _ h => h
    have z113 := get_lt b113
    refine ⟨⟨vc c113 0, vc c113 1, vc c113 2⟩, ?_⟩
    refine buildTree_ok (W := fun y => y = h50.size) (x := x) hXYs (fun y hy => by omega) hXYl hXYB hkk fun h158 c ic k158 => ?_
    rw [hXY] at ic
    refine setAll (c := trL tr0) (vs := trL c) (k158.get0 b113) rfl fun hz vcc hu159 => ?_
    have kz : Upd No h47 hz := (k113.tr k158).own hu159 zs
    have ic : TreeIs No hz kk x c S := (ic.updM hu159 fun y hy => .inl hy).less fun _ h => h.elim
    have va := kz.get0 va
    have vb := kz.get0 vb
    have ia := ia.upd0 kz
    have ib := ib.upd0 kz
    refine condP_true.2 (condP_true.2 (condP_true.2 ⟨_, vc va 0, _, vc va 1, _, vc va 2, _, vc va 3, _, vc va 4, _, vc va 5, _, vc vb 0, _, vc vb 1, _, vc vb 2, _, vc vb 3, _, vc vb 4, _, vc vb 5, ?_⟩))
    refine tSame_ok ia ib hr hfit (by omega) hr hfit (by omega) fun h131 k131 => ?_
    rw [like_same ia ib, decide_eq_true rfl]
    have va := k131.get0 va
    have vcc := k131.get0 vcc
    refine condP_true.2 ⟨_, vc va 0, _, vc va 1, _, vc va 2, _, vc va 3, _, vc va 4, _, vc va 5, _, vc vcc 0, _, vc vcc 1, _, vc vcc 2, _, vc vcc 3, _, vc vcc 4, _, vc vcc 5, ?_⟩
    refine tSame_ok (ia.upd0 k131) (ic.upd0 k131) hr hfit (by omega) hr hfit (by omega) fun h145 k145 => ?_
    rw [like_same ia ic, decide_eq_true rfl]
    have va := k145.get0 va
    refine condP_true.2 ⟨_, vc va 0, _, vc va 1, _, vc va 2, _, vc va 3, _, vc va 4, _, vc va 5, ?_⟩
    refine tPairs_ok (W' := No) (ia.upd0 (k131.tr k145)) hr hfit (by omega) (fun _ h => h.elim) fun s153 h153 hp153 k153 => ?_
    have kf := kz.tr ((k131.tr k145).tr k153)
    exact pairSame_ok hp153 (hS47.upd kf fun _ h => h.elim) (by omega) ⟨rfl, k047.tr kf⟩
end Go.Proofs
