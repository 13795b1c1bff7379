/- A part of the proof that the named laws of this program answer true, whatever the input. -/
import Derived.Test.YtfbbjmjfkopdnaaGreatPart7
import Derived.Test.YtfbbjmjfkopdnaaGreatPart3
import Derived.Test.YtfbbjmjfkopdnaaGreatPart6
import Derived.Test.YtfbbjmjfkopdnaaGreatPart5
namespace Go.Proofs
open Go Go.Lift
theorem kl_data {a b : ByteArray} : kl a b ↔ Op.bytesLess a.data.toList b.data.toList = true := by unfold kl; rw [ByteArray.toList_eq, ByteArray.toList_eq]
theorem bl_cons {a b : UInt8} {x y : List UInt8} : Op.bytesLess (a :: x) (b :: y) = true ↔ a.toNat < b.toNat ∨ (a = b ∧ Op.bytesLess x y = true) := by
  simp only [Op.bytesLess, Bool.or_eq_true, decide_eq_true_iff, Bool.and_eq_true, beq_iff_eq, UInt8.lt_iff_toNat_lt]
theorem bl_nil (x : List UInt8) : Op.bytesLess x [] = false := by cases x <;> rfl
theorem bl_app {x y : List UInt8} : ∀ pre : List UInt8, Op.bytesLess (pre ++ x) (pre ++ y) = true ↔ Op.bytesLess x y = true
  | [] => Iff.rfl
  | a :: pre => by rw [List.cons_append, List.cons_append, bl_cons, bl_app pre]; simp
theorem bl_hd {x y : List UInt8} (h : Op.bytesLess x y = true) (hx : x ≠ []) (hy : y ≠ []) : hd x ≤ hd y := by
  match x, y, hx, hy with
  | a :: x, b :: y, _, _ =>
    show a.toNat ≤ b.toNat
    rcases bl_cons.1 h with h | ⟨rfl, _⟩ <;> omega
theorem sandwich : ∀ (t : Nat) {f p g : List UInt8}, t ≤ cm f g → (f = p ∨ Op.bytesLess f p = true) → (p = g ∨ Op.bytesLess p g = true) → p.take t = f.take t ∧ t ≤ p.length
  | 0, f, p, g, _, _, _ => by simp
  | t + 1, [], p, g, h, _, _ => by simp [cm] at h
  | t + 1, a :: f, p, [], h, _, _ => by simp [cm] at h
  | t + 1, a :: f, p, b :: g, h, h1, h2 => by
    unfold cm at h
    split at h
    · rename_i e
      subst e
      rcases p with _ | ⟨c, p⟩
      · rcases h1 with h1 | h1
        · cases h1
        · rw [bl_nil] at h1; cases h1
      · have hc : c = a := by
          rcases h1 with h1 | h1
          · exact (List.cons.inj h1).1.symm
          · rcases h2 with h2 | h2
            · exact (List.cons.inj h2).1
            · have q1 := bl_cons.1 h1
              have q2 := bl_cons.1 h2
              rcases q1 with q1 | ⟨q1, _⟩
              · rcases q2 with q2 | ⟨q2, _⟩
                · omega
                · exact q2
              · exact q1.symm
        subst hc
        have := sandwich t (f := f) (p := p) (g := g) (by omega) (h1.imp (fun h => (List.cons.inj h).2) fun h => by
          rcases bl_cons.1 h with h | ⟨_, h⟩
          · omega
          · exact h) (h2.imp (fun h => (List.cons.inj h).2) fun h => by
          rcases bl_cons.1 h with h | ⟨_, h⟩
          · omega
          · exact h)
        rw [List.take_succ_cons, List.take_succ_cons, this.1, List.length_cons]
        exact ⟨rfl, by omega⟩
    · omega
theorem cm_self : ∀ f : List UInt8, cm f f = f.length
  | [] => rfl
  | a :: f => by unfold cm; rw [if_pos rfl, cm_self f]; rfl
abbrev ky (p : Pr) : List UInt8 := p.1.data.toList
def Got (l : List Pr) (pre k : List UInt8) (v : ByteArray) : Prop := ∃ p ∈ l, ky p = pre ++ k ∧ p.2 = v
structure Beg (l : List Pr) (pre : List UInt8) : Prop where
  up : Rises l
  at_ : ∀ p ∈ l, (ky p).take pre.length = pre ∧ pre.length < (ky p).length
theorem Beg.sub {l l' : List Pr} {pre : List UInt8} (b : Beg l pre) (h : l'.Sublist l) : Beg l' pre := ⟨b.up.sublist h, fun p hp => b.at_ p (h.subset hp)⟩
theorem Beg.split {l : List Pr} {pre : List UInt8} (b : Beg l pre) {p : Pr} (hp : p ∈ l) : ky p = pre ++ (ky p).drop pre.length ∧ (ky p).drop pre.length ≠ [] := by
  obtain ⟨h1, h2⟩ := b.at_ p hp
  refine ⟨?_, fun e => ?_⟩
  · conv => lhs; rw [← List.take_append_drop pre.length (ky p), h1]
  · have := congrArg List.length e
    rw [List.length_drop, List.length_nil] at this; omega
def bt (n : Nat) (p : Pr) : Nat := hd ((ky p).drop n)
theorem Beg.mono {A B : List Pr} {pre : List UInt8} (b : Beg (A ++ B) pre) {x y : Pr} (hx : x ∈ A) (hy : y ∈ B) : bt pre.length x ≤ bt pre.length y := by
  have h := (List.pairwise_append.1 b.up).2.2 x hx y hy
  rw [kl_data] at h
  obtain ⟨e1, n1⟩ := b.split (List.mem_append_left B hx)
  obtain ⟨e2, n2⟩ := b.split (List.mem_append_right A hy)
  change Op.bytesLess (ky x) (ky y) = true at h
  rw [e1, e2, bl_app] at h
  exact bl_hd h n1 n2
theorem branch_pl {l : List Pr} {pre : List UInt8} {f g : Pr} (b : Beg l pre) (hf : ∃ r, l = f :: r) (hg : l.getLast? = some g) (hb : bt pre.length f = bt pre.length g) :
    pre.length < cm (ky f) (ky g) ∧ cm (ky f) (ky g) ≤ (ky f).length ∧ (∀ p ∈ l, (ky p).take (cm (ky f) (ky g)) = (ky f).take (cm (ky f) (ky g))) ∧ (∀ p ∈ l, p = f ∨ cm (ky f) (ky g) < (ky p).length) ∧
      (cm (ky f) (ky g) < (ky f).length → cm (ky f) (ky g) < (ky g).length ∧ hd ((ky f).drop (cm (ky f) (ky g))) ≠ hd ((ky g).drop (cm (ky f) (ky g)))) := by
  obtain ⟨r, rfl⟩ := hf
  have hfm : f ∈ f :: r := List.mem_cons_self ..
  have hgm : g ∈ f :: r := List.mem_of_getLast? hg
  obtain ⟨e1, n1⟩ := b.split hfm
  obtain ⟨e2, n2⟩ := b.split hgm
  have hcp : pre.length < cm (ky f) (ky g) := by
    have : ∀ (q x y : List UInt8), cm (q ++ x) (q ++ y) = q.length + cm x y := by
      intro q x y
      induction q with
      | nil => simp
      | cons a q ih => simp only [List.cons_append, cm, if_true, ih, List.length_cons]; omega
    have h1 := this pre ((ky f).drop pre.length) ((ky g).drop pre.length)
    rw [← e1, ← e2] at h1
    have h2 := cm_pos n1 n2 hb
    omega
  have hle := cm_le (ky f) (ky g)
  have hfp : ∀ p ∈ f :: r, ky f = ky p ∨ Op.bytesLess (ky f) (ky p) = true := fun p hp => by
    rcases List.mem_cons.1 hp with rfl | hp
    · exact .inl rfl
    · exact .inr (kl_data.1 ((List.pairwise_cons.1 b.up).1 p hp))
  have hpg : ∀ p ∈ f :: r, ky p = ky g ∨ Op.bytesLess (ky p) (ky g) = true := fun p hp => by
    rcases List.eq_nil_or_concat (f :: r) with h | ⟨l', y, h⟩
    · cases h
    · rw [List.concat_eq_append] at h
      rw [h, List.getLast?_concat] at hg
      cases hg
      have hup := b.up
      rw [h] at hp hup
      rcases List.mem_append.1 hp with hp | hp
      · exact .inr (kl_data.1 ((List.pairwise_append.1 hup).2.2 p hp g (List.mem_singleton.2 rfl)))
      · rw [List.mem_singleton.1 hp]; exact .inl rfl
  have hsw : ∀ p ∈ f :: r, (ky p).take (cm (ky f) (ky g)) = (ky f).take (cm (ky f) (ky g)) ∧ cm (ky f) (ky g) ≤ (ky p).length := fun p hp => sandwich _ (Nat.le_refl _) (hfp p hp) (hpg p hp)
  have hne : ∀ p ∈ f :: r, p = f ∨ cm (ky f) (ky g) < (ky p).length := fun p hp => by
    obtain ⟨h1, h2⟩ := hsw p hp
    rcases Nat.lt_or_ge (cm (ky f) (ky g)) (ky p).length with h | h
    · exact .inr h
    · left
      have hl : (ky p).length = cm (ky f) (ky g) := by omega
      have e : ky p = (ky f).take (cm (ky f) (ky g)) := by rw [← h1, ← hl, List.take_length]
      rcases List.mem_cons.1 hp with rfl | hp
      · rfl
      · have hk := kl_data.1 ((List.pairwise_cons.1 b.up).1 p hp)
        change Op.bytesLess (ky f) (ky p) = true at hk
        exfalso
        have e3 : ky f = ky p ++ (ky f).drop (cm (ky f) (ky g)) := by rw [e, List.take_append_drop]
        have h4 : Op.bytesLess (ky p ++ (ky f).drop (cm (ky f) (ky g))) (ky p ++ []) = true := by rw [List.append_nil, ← e3]; exact hk
        rw [bl_app, bl_nil] at h4; cases h4
  refine ⟨hcp, hle.1, fun p hp => (hsw p hp).1, hne, fun hlt => ?_⟩
  have hgl : cm (ky f) (ky g) < (ky g).length := by
    rcases hne g hgm with h | h
    · exfalso
      rw [h, cm_self] at hlt; omega
    · exact h
  exact ⟨hgl, cm_drop _ _ hlt hgl⟩
theorem branch_can {l l' : List Pr} {pre : List UInt8} {f g : Pr} (b : Beg l pre) (hf : ∃ r, l = f :: r) (hg : l.getLast? = some g) (hb : bt pre.length f = bt pre.length g) {F : Fo} (hc : CanF F)
    (hl' : l' = if (ky f).length = cm (ky f) (ky g) then l.drop 1 else l) (hF : ∀ k v, InF F k v ↔ Got l' ((ky f).take (cm (ky f) (ky g))) k v) {w : Option ByteArray} (hw : w = if (ky f).length = cm (ky f) (ky g) then some f.2 else none) {lab : List UInt8} (hlab : lab = ((ky f).take (cm (ky f) (ky g))).drop pre.length) :
    CanN (lab, w, F) ∧ hd lab = bt pre.length f ∧ ∀ k v, InN (lab, w, F) k v ↔ Got l pre k v := by
  obtain ⟨h1, h2, h3, h4, h5⟩ := branch_pl b hf hg hb
  obtain ⟨r, rfl⟩ := hf
  have hfm : f ∈ f :: r := List.mem_cons_self ..
  have hgm : g ∈ f :: r := List.mem_of_getLast? hg
  generalize cm (ky f) (ky g) = to at *
  have epre : pre ++ lab = (ky f).take to := by
    have := (b.at_ f hfm).1
    rw [hlab]
    conv => rhs; rw [← List.take_append_drop pre.length ((ky f).take to), List.take_take, Nat.min_eq_left (by omega), this]
  have hlab0 : lab ≠ [] := fun e => by
    have := congrArg List.length hlab
    rw [e, List.length_nil, List.length_drop, List.length_take] at this; omega
  have hin : ∀ k v, InN (lab, w, F) k v ↔ Got (f :: r) pre k v := by
    intro k v
    constructor
    · rintro ⟨q, e, ⟨rfl, e2⟩ | e2⟩
      · simp only at e e2
        rw [List.append_nil] at e
        subst e
        rw [hw] at e2
        split at e2
        · rename_i hto
          cases e2
          refine ⟨f, hfm, ?_, rfl⟩
          rw [epre, ← hto, List.take_length]
        · cases e2
      · simp only at e e2
        obtain ⟨p, hp, e3, rfl⟩ := (hF q v).1 e2
        refine ⟨p, ?_, ?_, rfl⟩
        · rw [hl'] at hp
          split at hp
          · exact List.mem_cons_of_mem _ hp
          · exact hp
        · rw [e3, e, ← List.append_assoc, epre]
    · rintro ⟨p, hp, e, rfl⟩
      have hpt := h3 p hp
      have ep : ky p = pre ++ (lab ++ (ky p).drop to) := by
        rw [← List.append_assoc, epre, ← hpt, List.take_append_drop]
      have ek : k = lab ++ (ky p).drop to := List.append_cancel_left (e.symm.trans ep)
      refine ⟨(ky p).drop to, ek, ?_⟩
      by_cases hto : (ky f).length = to
      · rw [if_pos hto] at hw hl'
        rcases List.mem_cons.1 hp with rfl | hp
        · left
          refine ⟨List.drop_eq_nil_of_le (by omega), ?_⟩
          simp only; rw [hw]
        · right
          refine (hF _ _).2 ⟨p, by rw [hl']; exact hp, ?_, rfl⟩
          rw [← hpt, List.take_append_drop]
      · rw [if_neg hto] at hw hl'
        right
        refine (hF _ _).2 ⟨p, by rw [hl']; exact hp, ?_, rfl⟩
        rw [← hpt, List.take_append_drop]
  refine ⟨⟨hlab0, ?_, hc⟩, ?_, hin⟩
  · by_cases hto : (ky f).length = to
    · left; simp only; rw [hw, if_pos hto]; rfl
    · have hlt : to < (ky f).length := by omega
      obtain ⟨hgl, hne⟩ := h5 hlt
      refine (br_iff hc).2 (.inr ⟨(ky f).drop to, (ky g).drop to, f.2, g.2, .inr ?_, .inr ?_, fun e => ?_, fun e => ?_, hne⟩)
      · exact (hF _ _).2 ⟨f, by rw [hl', if_neg hto]; exact hfm, (List.take_append_drop ..).symm, rfl⟩
      · exact (hF _ _).2 ⟨g, by rw [hl', if_neg hto]; exact hgm, by rw [← h3 g hgm, List.take_append_drop], rfl⟩
      · have := congrArg List.length e
        rw [List.length_drop, List.length_nil] at this; omega
      · have := congrArg List.length e
        rw [List.length_drop, List.length_nil] at this; omega
  · have e := (b.split hfm).1
    unfold bt
    have e2 : (ky f).drop pre.length = lab ++ (ky f).drop to := by
      have h6 : ky f = pre ++ (lab ++ (ky f).drop to) := by rw [← List.append_assoc, epre, List.take_append_drop]
      conv => lhs; rw [h6]
      rw [List.drop_left]
    rw [e2, hd_app hlab0]
structure Row (L : List Bn) (D T : List Pr) (pre : List UInt8) : Prop where
  can : ∀ n ∈ L, CanN n
  up : L.Pairwise fun m n => hd m.1 < hd n.1
  lo : ∀ n ∈ L, ∀ p ∈ T, hd n.1 < bt pre.length p
  got : ∀ k v, (∃ n ∈ L, InN n k v) ↔ Got D pre k v
theorem Row.nil (T : List Pr) (pre : List UInt8) : Row [] [] T pre := ⟨fun n h => (by cases h), List.Pairwise.nil, fun n h => (by cases h), fun k v => ⟨fun ⟨n, h, _⟩ => (by cases h), fun ⟨p, h, _⟩ => (by cases h)⟩⟩
theorem Row.more {L : List Bn} {D A B : List Pr} {pre : List UInt8} {n : Bn} {p : Pr} (r : Row L D (A ++ B) pre) (bg : Beg (A ++ B) pre) (hp : p ∈ A) (hA : ∀ a ∈ A, bt pre.length a = bt pre.length p) (hB : ∀ b B', B = b :: B' → bt pre.length b ≠ bt pre.length p) (hc : CanN n) (hn : hd n.1 = bt pre.length p) (hg : ∀ k v, InN n k v ↔ Got A pre k v) : Row (L ++ [n]) (D ++ A) B pre := by
  refine ⟨fun m hm => ?_, List.pairwise_append.2 ⟨r.up, List.pairwise_singleton .., fun a ha b hb => ?_⟩, fun m hm q hq => ?_, fun k v => ?_⟩
  · rcases List.mem_append.1 hm with hm | hm
    · exact r.can m hm
    · rw [List.mem_singleton.1 hm]; exact hc
  · rw [List.mem_singleton.1 hb, hn]
    exact r.lo a ha p (List.mem_append_left _ hp)
  · rcases List.mem_append.1 hm with hm | hm
    · exact r.lo m hm q (List.mem_append_right _ hq)
    · rw [List.mem_singleton.1 hm, hn]
      rcases B with _ | ⟨b0, B'⟩
      · cases hq
      have h1 := hB b0 B' rfl
      have h2 := bg.mono hp (List.mem_cons_self (a := b0) (l := B'))
      rcases List.mem_cons.1 hq with rfl | hq
      · omega
      · have bg' : Beg ([b0] ++ B') pre := bg.sub (List.sublist_append_right A _)
        have := bg'.mono (List.mem_singleton.2 rfl) hq
        omega
  · constructor
    · rintro ⟨m, hm, hi⟩
      rcases List.mem_append.1 hm with hm | hm
      · obtain ⟨q, hq, e⟩ := (r.got k v).1 ⟨m, hm, hi⟩
        exact ⟨q, List.mem_append_left _ hq, e⟩
      · rw [List.mem_singleton.1 hm] at hi
        obtain ⟨q, hq, e⟩ := (hg k v).1 hi
        exact ⟨q, List.mem_append_right _ hq, e⟩
    · rintro ⟨q, hq, e⟩
      rcases List.mem_append.1 hq with hq | hq
      · obtain ⟨m, hm, hi⟩ := (r.got k v).2 ⟨q, hq, e⟩
        exact ⟨m, List.mem_append_left _ hm, hi⟩
      · exact ⟨n, List.mem_append_right _ (List.mem_singleton.2 rfl), (hg k v).2 ⟨q, hq, e⟩⟩
theorem Row.done {L : List Bn} {D : List Pr} {pre : List UInt8} (r : Row L D [] pre) : CanF (.ofL L) ∧ ∀ k v, InF (.ofL L) k v ↔ Got D pre k v := by
  refine ⟨canF_iff.2 ?_, fun k v => ?_⟩
  · rw [Fo.to_of]; exact ⟨r.up, r.can⟩
  · rw [inF_iff, Fo.to_of]; exact r.got k v
end Go.Proofs
namespace Go.Proofs
open Go Go.Lift
theorem ext_both (s : ByteArray) (a b : Nat) : (s.extract a b).data.toList = (s.data.toList.take b).drop a := by
  rw [ByteArray.data_extract, Array.toList_extract, List.extract_eq_take_drop, List.drop_take]
theorem keyLen (s : ByteArray) : s.data.toList.length = s.size := by simp
theorem Kid.less {W W' : Nat → Prop} {h : Heap} (hm : ∀ b, W' b → W b ∨ h.size ≤ b) {a : Option Addr} {n : Bn} : Kid W h a n → Kid W' h a n
  | ⟨b, sl, e1, e2, e3⟩ => ⟨b, sl, e1, e2, e3.less hm⟩
theorem Kid.updM {W M : Nat → Prop} {h h' : Heap} (k : Upd M h h') (hm : ∀ b, M b → W b ∨ h.size ≤ b) {a : Option Addr} {n : Bn} : Kid W h a n → Kid W h' a n
  | ⟨b, sl, e1, e2, e3⟩ => ⟨b, sl, e1, e2, e3.updM k hm⟩
theorem RxL.less {W W' : Nat → Prop} {h : Heap} (hm : ∀ b, W' b → W b ∨ h.size ≤ b) {ks : List (Option Addr)} {L : List Bn} (r : RxL W h ks L) : RxL W' h ks L := ⟨r.1, fun p hp => (r.2 p hp).less hm⟩
theorem RxL.updM {W M : Nat → Prop} {h h' : Heap} (k : Upd M h h') (hm : ∀ b, M b → W b ∨ h.size ≤ b) {ks : List (Option Addr)} {L : List Bn} (r : RxL W h ks L) : RxL W h' ks L := ⟨r.1, fun p hp => (r.2 p hp).updM k hm⟩
theorem byteAt {p : Pr} {n : Nat} (h : n < (ky p).length) : ∃ b : UInt8, p.1[n]? = some b ∧ b.toNat = bt n p := by
  rw [getB]
  refine ⟨(ky p)[n], List.getElem?_eq_getElem h, ?_⟩
  unfold bt hd
  rw [List.drop_eq_getElem_cons h]; rfl
theorem append1r {M : Nat → Prop} {h : Heap} {so : SliceV} {out : List (Option Addr)} {p : Option Addr} {K : SliceV → Heap → Prop} (ho : OwnS rxF 1 t_P_radix_Node M h so out) (hM : ∀ b, h.size ≤ b → M b) (hn : out.length + 1 ≤ 1000000000)
    (hk : ∀ s' h', OwnS rxF 1 t_P_radix_Node M h' s' (out ++ [p]) → Upd M h h' → K s' h') :
    ∃ xs, SRow (hnew h [.pointer p] t_P_radix_Node) (some (newA h)) (1 * 1) xs ∧ AppP (some [.pointer none]) 1 8 t_P_radix_Node so.a so.len so.cap 1 xs (hnew h [.pointer p] t_P_radix_Node) K := by
  have k := Upd.hnew No h [.pointer p] t_P_radix_Node
  have h1 : OwnS rxF 1 t_P_radix_Node (fun _ => True) (hnew h [.pointer p] t_P_radix_Node) ⟨some (newA h), 1, 1⟩ [p] := ⟨rfl, rxF_ne, Nat.le_refl _, .inr ⟨h.size, [], rfl, trivial, hnew_get .., rfl⟩⟩
  refine ⟨_, (h1.sl (W := No) fun _ _ _ h => h).srow, ?_⟩
  refine AppP.own (ys := [p]) (ho.upd k fun _ _ h => h) rfl rfl rfl rfl (by omega) (by simp only [List.length_singleton]; omega) (hM _ (by rw [hnew_size]; omega)) fun s' h' ho' hu => ?_
  exact hk s' h' ho' ((Upd.hnew M h _ _).tr hu)
theorem rxMake_ok {W : Nat → Prop} {h : Heap} {s : SliceV} {ks : List (Option Addr)} {L : List Bn} (hs : Sl rxF 1 No h s ks) (hL : RxL W h ks L) (hn : L.length ≤ 100000) (hW : ∀ y, W y → y < h.size) {label value : ByteArray} {has : Bool} {K : Option Addr → Heap → Prop}
    (hk : ∀ h' b, RxN W h' b label (if has then some value else none) (.ofL L) → Upd No h h' → K (some ⟨b, 0, none⟩) h') : HC PG f_radix_Make [.string label, .bool has, .string value, .slice s.a s.len s.cap] [.c .ptr] K h := by
  refine H_radix_Make label has value s ?_
  unfold F_radix_Make cAt iBd
  refine at_new fun h1 b1 k1 => ?_
  have z1 := get_lt b1
  have hlen := hs.len
  have hLl := hL.1
  refine Join.intro (fun _ h' => ∃ val, h'[h.size]? = some (.cells (rxC label has val ⟨none, 0, 0⟩ none) t_radix_Node (0, 0)) ∧ (has = true → val = value) ∧ Upd No h h') (fun R hR => ?_) ?_
  · cases has with
    | true => exact condP_true.2 ⟨_, rfl, vset (i := 2) (c' := rxC label true value ⟨none, 0, 0⟩ none) b1 (show 2 < 5 by decide) rfl fun h2 b2 hu2 => hR _ _ ⟨_, b2, fun _ => rfl, k1.own hu2 (Nat.le_refl _)⟩⟩
    | false => exact condP_false.2 (hR _ _ ⟨_, b1, fun h => (by cases h), k1⟩)
  rintro _ h2 ⟨val, b2, hval, k2⟩
  refine LoopP.ghost (fun (g : List (Option Addr) × List (Option Addr)) (t : Int) h' => t = (g.1.length : Int) ∧ ks = g.1 ++ g.2 ∧ (∃ so, h'[h.size]? = some (.cells (rxC label has val so none) t_radix_Node (0, 0)) ∧ OwnS rxF 1 t_P_radix_Node (fun y => h.size < y) h' so g.1) ∧ Upd No h h') (fun g => g.2.length) ([], ks)
    ⟨rfl, rfl, ⟨_, b2, OwnS.nil rxF_ne⟩, k2⟩ ?_
  rintro I ⟨K1, K2⟩ t h3 ⟨e1, e2, ⟨so, b3, ho3⟩, k3⟩ hI
  simp only at e1 e2 ho3
  subst e1 e2
  simp only [List.length_append] at hlen hLl
  have z3 := get_lt b3
  refine condP_dec (fun hlt => ?_) fun hge => ?_
  · rcases K2 with _ | ⟨kp, K2⟩
    · simp only [List.length_nil] at hlen; omega
    simp only [List.length_cons] at hlen hLl
    refine Join.intro (fun _ h' => (∃ so, h'[h.size]? = some (.cells (rxC label has val so none) t_radix_Node (0, 0)) ∧ OwnS rxF 1 t_P_radix_Node (fun y => h.size < y) h' so (K1 ++ [kp])) ∧ Upd No h h') (fun R hR => ?_) ?_
    · obtain ⟨kb, ksl, hki, _⟩ := hL.at (i := K1.length) (by omega)
      have hkp : kp = some ⟨kb, 0, none⟩ := by
        rw [List.getElem?_append_right (Nat.le_refl _), Nat.sub_self] at hki
        exact Option.some.inj hki
      obtain ⟨a, ha, _, hv⟩ := (hs.upd k3 fun _ h => h.elim).at0 (i := K1.length) (x := kp) (by rw [List.getElem?_append_right (Nat.le_refl _), Nat.sub_self]; rfl)
      refine ⟨⟨by omega, by omega⟩, a, ha, kp, hv, ?_⟩
      subst hkp
      refine condP_true.2 ⟨_, rfl, so, vc b3 3, at_intro ?_⟩
      refine append1r ho3 (fun b hb => by omega) (by omega) fun s4 h4 ho4 hu4 => ⟨_, rfl, ?_⟩
      have b4 := hu4.get b3 (by simp)
      refine vset (i := 3) (c' := rxC label has val s4 none) b4 (show 3 < 5 by decide) rfl fun h5 b5 hu5 => hR _ _ ⟨⟨s4, b5, ho4.upd hu5 fun x hx e => by have e : x = h.size := e; omega⟩, ?_⟩
      exact (k3.trans hu4 fun x hx => .inr (Nat.le_of_lt hx)).own hu5 (Nat.le_refl _)
    · rintro _ h4 ⟨⟨s4, b4, ho4⟩, k4⟩
      have ew : IntKind.wrap .i64 ((K1.length : Int) + 1) = ((K1 ++ [kp]).length : Int) := by rw [List.length_append, List.length_singleton, w64 (by omega)]; omega
      rw [ew]
      exact hI (K1 ++ [kp], K2) _ _ ⟨rfl, by simp, ⟨s4, b4, ho4⟩, k4⟩ (by simp)
  · have hK : K2 = [] := List.length_eq_zero_iff.1 (by omega)
    subst hK
    rw [List.append_nil] at hL
    refine hk h3 h.size ⟨val, so, none, K1, ?_, ?_, ho3.sl (fun x hx _ hw => by have := hW x hw; omega), ⟨ho3.cap, fun hw => by have := hW _ hw; omega⟩, rxF_iff.2 (by rw [Fo.to_of]; exact hL.upd0 k3)⟩ k3
    · cases has <;> exact b3
    · intro v hv
      cases has with
      | true => rw [hval rfl]; exact Option.some.inj hv
      | false => cases hv
def KidsC (B from_ : Nat) : Prop := ∀ {W : Nat → Prop} {h : Heap} {s : SliceV} {l : List Pr} {pre : List UInt8}, Sl prF 2 No h s l → s.len ≤ s.cap → Beg l pre → pre.length = from_ → (∀ p ∈ l, (ky p).length ≤ B) → l.length ≤ 100000 → (∀ y, W y → y < h.size) → ∀ {K : SliceV → Heap → Prop},
  (∀ h' s' ks L, OwnS rxF 1 t_P_radix_Node (fun y => h.size ≤ y) h' s' ks → RxL W h' ks L → Row L l [] pre → Upd No h h' → K s' h') → HC PG f_build_kids [.slice s.a s.len s.cap, .int .i64 (from_ : Int)] [.c .slice] K h
theorem branchB_ok {W : Nat → Prop} {B from_ : Nat} (hB : B ≤ 1000000) (hkids : ∀ to, from_ < to → KidsC B to) {h : Heap} {s : SliceV} {l r : List Pr} {f g : Pr} {pre : List UInt8} (hs : Sl prF 2 No h s l) (hcap : s.len ≤ s.cap) (bg : Beg l pre) (hpre : pre.length = from_) (hlB : ∀ p ∈ l, (ky p).length ≤ B) (hn : l.length ≤ 100000) (hW : ∀ y, W y → y < h.size)
    (hf : l = f :: r) (hg : l.getLast? = some g) (hb : bt from_ f = bt from_ g) {K : Option Addr → Heap → Prop}
    (hk : ∀ h' a n, Kid W h' a n → CanN n → hd n.1 = bt from_ f → (∀ k v, InN n k v ↔ Got l pre k v) → Upd No h h' → K a h') : HC PG f_build_branch [.slice s.a s.len s.cap, .int .i64 (from_ : Int)] [.c .ptr] K h := by
  refine H_build_branch s from_ ?_
  unfold F_build_branch cAt iBd
  subst hpre
  have hlen := hs.len
  have hl0 : 0 < l.length := by rw [hf]; simp
  have hfm : f ∈ l := by rw [hf]; exact List.mem_cons_self ..
  have hgm : g ∈ l := List.mem_of_getLast? hg
  obtain ⟨a, ha, _, hvf⟩ := hs.at (i := 0) (x := f) (by rw [hf]; rfl)
  obtain ⟨a', ha', _, hvg⟩ := hs.at (i := l.length - 1) (x := g) (by rw [← hg, List.getLast?_eq_getElem?])
  rw [ha] at ha'; cases ha'
  have ew : IntKind.wrap .i64 ((s.len : Int) - 1) = ((l.length - 1 : Nat) : Int) := by rw [w64 (by omega)]; omega
  refine ⟨⟨by omega, by omega⟩, a, ha, f.1, hvf 0 _ rfl, ?_⟩
  rw [ew]
  have hsf := hlB f hfm
  have hszf : f.1.size = (ky f).length := (keyLen f.1).symm
  refine ⟨⟨by omega, by omega⟩, a, ha, g.1, hvg 0 _ rfl, common_ok (by omega) ?_⟩
  obtain ⟨q1, q2, q3, q4, q5⟩ := branch_pl bg ⟨r, hf⟩ hg hb
  have hbc := @branch_can l (if (ky f).length = cm (ky f) (ky g) then l.drop 1 else l) pre f g bg ⟨r, hf⟩ hg hb
  obtain ⟨to, hto⟩ : ∃ to, cm (ky f) (ky g) = to := ⟨_, rfl⟩
  rw [hto] at q1 q2 q3 q4 hbc
  show _ ∧ _
  change (_ ∧ ∃ _, _ ∧ _)
  have hto' : cm f.1.data.toList g.1.data.toList = to := hto
  rw [hto']
  refine ⟨⟨by omega, by omega⟩, a, ha, f.1, hvf 0 _ rfl, ⟨by omega, by omega⟩, ⟨by omega, by rw [Int.toNat_natCast]; omega⟩, ⟨by omega, by omega⟩, a, ha, f.1, hvf 0 _ rfl, ?_⟩
  have ehas : ((f.1.size : Int) == (to : Int)) = decide ((ky f).length = to) := by
    rw [Bool.eq_iff_iff, beq_iff_eq, decide_eq_true_iff]; omega
  rw [ehas]
  have hlab : (f.1.extract (pre.length : Int).toNat (to : Int).toNat).data.toList = ((ky f).take to).drop pre.length := ext_both ..
  have hpl : ((ky f).take to).length = to := by rw [List.length_take]; omega
  refine Join.intro (fun (t : SliceV × ByteArray) h' => h' = h ∧ Sl prF 2 No h t.1 (if (ky f).length = to then l.drop 1 else l) ∧ t.1.len ≤ t.1.cap ∧ ((ky f).length = to → t.2 = f.2)) (fun R hR => ?_) ?_
  · refine condP_dec (fun e => ?_) fun e => ?_
    · refine ⟨⟨by omega, by omega⟩, a, ha, f.2, hvf 1 _ rfl, ⟨by omega, by omega⟩, hR _ _ ⟨rfl, ?_, by simp only; omega, fun _ => rfl⟩⟩
      rw [if_pos e]
      have := Sl.sub hs (l := 1) (hi := l.length) (m := s.cap) (c := s.cap - 1) (by omega) (Nat.le_refl _) (by omega)
      rw [List.take_of_length_le (by rw [List.length_drop]; omega), ← hlen] at this
      exact this
    · exact hR _ _ ⟨rfl, by rw [if_neg e]; exact hs, hcap, fun h => absurd h e⟩
  rintro ⟨s2, v2⟩ h' ⟨rfl, hs2, hc2, hv2⟩
  simp only at hs2 hc2 hv2
  have hsub : (if (ky f).length = to then l.drop 1 else l).Sublist l := by
    split
    · exact List.drop_sublist ..
    · exact List.Sublist.refl _
  have hbeg : Beg (if (ky f).length = to then l.drop 1 else l) ((ky f).take to) := by
    refine ⟨bg.up.sublist hsub, fun p hp => ?_⟩
    rw [hpl]
    refine ⟨q3 p (hsub.subset hp), ?_⟩
    rcases q4 p (hsub.subset hp) with e | h
    · subst e
      by_cases e2 : (ky p).length = to
      · rw [if_pos e2, hf] at hp
        have := (List.pairwise_cons.1 (hf ▸ bg.up)).1 p hp
        exact absurd this (kl_irrefl _)
      · omega
    · exact h
  refine hkids to q1 hs2 hc2 hbeg hpl (fun p hp => hlB p (hsub.subset hp)) (Nat.le_trans hsub.length_le hn) hW fun h3 s3 ks L ho3 hL3 hrow hu3 => ?_
  obtain ⟨hcF, hgF⟩ := hrow.done
  obtain ⟨hcn, hhd, hin⟩ := hbc (F := .ofL L) hcF rfl hgF rfl rfl
  have hLl : L.length ≤ 100000 := by
    have := can_len hcF
    rw [Fo.to_of] at this; omega
  refine rxMake_ok (W := W) (ho3.sl fun _ _ _ h => h) hL3 hLl (fun y hy => Nat.lt_of_lt_of_le (hW y hy) hu3.size) fun h4 b4 rn4 hu4 => ?_
  have ew2 : (if decide ((ky f).length = to) = true then some v2 else none) = if (ky f).length = to then some f.2 else none := by
    by_cases e : (ky f).length = to
    · rw [if_pos (decide_eq_true e), if_pos e, hv2 e]
    · rw [if_neg (by simpa using e), if_neg e]
  rw [ew2] at rn4
  exact hk h4 _ _ ⟨b4, _, rfl, hlab, rn4⟩ hcn hhd hin (hu3.tr hu4)
theorem kids_step {B from_ : Nat} (hB : B ≤ 1000000) (hkids : from_ ≤ B → ∀ to, from_ < to → KidsC B to) : KidsC B from_ := by
  intro W h s l pre hs hcap bg hpre hlB hn hW K hk
  refine H_build_kids s from_ ?_
  unfold F_build_kids cAt iBd
  refine at_new fun h1 b1 k1 => ?_
  subst hpre
  refine LoopP.ghost (fun (g : List Pr × List Pr × List (Option Addr) × List Bn × (Nat → Prop)) (t : SliceV × SliceV) h' => l = g.1 ++ g.2.1 ∧ Sl prF 2 (fun y => h.size ≤ y) h' t.1 g.2.1 ∧ t.1.len ≤ t.1.cap ∧ OwnS rxF 1 t_P_radix_Node g.2.2.2.2 h' t.2 g.2.2.1 ∧ (∀ y, g.2.2.2.2 y → h1.size ≤ y ∧ y < h'.size) ∧ RxL (fun y => W y ∨ g.2.2.2.2 y) h' g.2.2.1 g.2.2.2.1 ∧ Row g.2.2.2.1 g.1 g.2.1 pre ∧ Upd No h1 h') (fun g => g.2.1.length) ([], l, [], [], No)
    ⟨rfl, (hs.less (W' := fun y => h.size ≤ y) fun y hy => .inr hy).upd k1 fun _ h => h.elim, hcap, OwnS.nil rxF_ne, fun y hy => hy.elim, ⟨rfl, fun p hp => (by cases hp)⟩, Row.nil _ _, Upd.refl _ _⟩ ?_
  rintro I ⟨D, T, ks, L, Mo⟩ ⟨sT, so⟩ h4 ⟨e1, hsT, hcT, ho, hMo, hL, hrow, hu⟩ hI
  simp only at e1 hsT hcT ho hMo hL hrow
  subst e1
  have hlT := hsT.len
  simp only [List.length_append] at hn
  have bgT : Beg T pre := bg.sub (List.sublist_append_right D T)
  have k04 := k1.tr hu
  refine condP_dec (fun hgt => ?_) fun hle => ?_
  · rcases T with _ | ⟨p, T⟩
    · simp only [List.length_nil] at hlT; simp only at hgt; omega
    simp only [List.length_cons] at hlT hn
    have hpl := (bgT.at_ p (List.mem_cons_self ..)).2
    obtain ⟨b8, hb8, hb8e⟩ := byteAt hpl
    obtain ⟨a, ha, _, hv⟩ := hsT.at (i := 0) (x := p) rfl
    have c4 := hu.get0 b1
    refine ⟨⟨by omega, by simp only; omega⟩, a, ha, p.1, hv 0 _ rfl, _, vc0 c4, b8, by omega, hb8, ?_⟩
    refine at_new fun h9 b9 k9 => ?_
    have c9 := k9.get0 c4
    obtain ⟨a', ha', _, hv9⟩ := (hsT.upd k9 fun _ h => h.elim).at (i := 0) (x := p) rfl
    rw [ha] at ha'; cases ha'
    refine ⟨vc0 c9, hv9 0 _ rfl, at_cell b9 Nat.one_pos fun h10 b10 hu10 => ?_⟩
    have k410 : Upd No h4 h10 := k9.own hu10 (Nat.le_refl _)
    have c10 := k410.get0 c4
    refine indexP_ok (hsT.upd k410 fun _ h => h.elim) (by simp only [List.length_cons]; omega) (g := fun q => decide (bt pre.length q ≠ bt pre.length p)) (fun q hq h' K' hu' hK => ?_) fun h11 A Bt e hAB hA hBn hBc hu11 => ?_
    · refine HV.mk' (H_build_kids_1 q ⟨h.size, 0, none⟩ ⟨h4.size, 0, none⟩ ?_)
      unfold F_build_kids_1 cAt
      refine at_new fun h12 b12 k12 => ?_
      have k' := hu'.tr k12
      obtain ⟨bq, hbq, hbqe⟩ := byteAt (bgT.at_ q hq).2
      refine ⟨q.1, vc b12 0, _, vc0 (k'.get0 c10), bq, by omega, hbq, _, vc0 (k'.get0 b10), ?_⟩
      have eb : ((bq.toNat : Int) != (b8.toNat : Int)) = decide (bt pre.length q ≠ bt pre.length p) := by
        rw [Bool.eq_iff_iff, bne_iff_ne, decide_eq_true_iff]; omega
      rw [eb]
      exact hK h12 k12
    obtain ⟨A', rfl⟩ : ∃ A', A = p :: A' := by
      rcases A with _ | ⟨a0, A'⟩
      · have := (hBc p T (by rw [List.nil_append] at hAB; exact hAB.symm)).2
        simp at this
      · rw [List.cons_append] at hAB
        exact ⟨A', by rw [(List.cons.inj hAB).1]⟩
    have hcA : ∀ q ∈ p :: A', bt pre.length q = bt pre.length p := fun q hq => by simpa using hA q hq
    have hTA : p :: T = (p :: A') ++ Bt := hAB
    have hTl : T.length = A'.length + Bt.length := by
      have := congrArg List.length hTA
      simp only [List.length_cons, List.length_append] at this; omega
    have k411 := k410.tr hu11
    have k111 := hu.tr k411
    have c11 := hu11.get0 c10
    refine Join.intro (fun t h' => t = ((A'.length + 1 : Nat) : Int) ∧ h' = h11) (fun R1 hR1 => ?_) ?_
    · refine condP_dec (fun hneg => hR1 _ _ ⟨?_, rfl⟩) fun hpos => hR1 _ _ ⟨?_, rfl⟩
      · rcases Bt with _ | ⟨b0, B'⟩
        · have hTl : T.length = A'.length + 0 := hTl
          show ((sT.len : Nat) : Int) = _
          omega
        · have := (hBc b0 B' rfl).1
          simp only [List.length_cons] at this; omega
      · rcases Bt with _ | ⟨b0, B'⟩
        · have := hBn rfl; omega
        · have := (hBc b0 B' rfl).1
          simp only [List.length_cons] at this; exact this
    rintro t h' ⟨rfl, rfl⟩
    refine Join.intro (fun t h9 => ∃ ka n Mp, OwnS rxF 1 t_P_radix_Node Mp h9 t (ks ++ [ka]) ∧ (∀ y, Mp y → h1.size ≤ y ∧ y < h9.size) ∧ RxL (fun y => W y ∨ Mp y) h9 (ks ++ [ka]) (L ++ [n]) ∧ CanN n ∧ hd n.1 = bt pre.length p ∧ (∀ k v, InN n k v ↔ Got (p :: A') pre k v) ∧ Upd No h1 h9 ∧ Sl prF 2 (fun y => h.size ≤ y) h9 sT (p :: T)) (fun R1 hR1 => ?_) ?_
    · refine ⟨⟨by omega, by show ((A'.length + 1 : Nat) : Int) ≤ ((sT.cap : Nat) : Int); omega⟩, _, vc0 c11, ?_⟩
      have hsA := Sl.sub (hsT.upd k411 fun _ h => h.elim) (l := 0) (hi := A'.length + 1) (m := sT.cap) (c := sT.cap - 0) (Nat.zero_le _) (by simp only [List.length_cons]; omega) (by omega)
      have etk : ((p :: T).drop 0).take (A'.length + 1 - 0) = p :: A' := by
        rw [List.drop_zero, Nat.sub_zero, hTA]
        exact List.take_left' (by simp)
      rw [etk] at hsA
      obtain ⟨g, hg⟩ : ∃ g, (p :: A').getLast? = some g := ⟨_, List.getLast?_eq_some_getLast (by simp)⟩
      have hgm : g ∈ p :: A' := List.mem_of_getLast? hg
      have hsub : (p :: A').Sublist (D ++ p :: T) := by
        rw [hTA]
        exact (List.sublist_append_left _ _).trans (List.sublist_append_right D _)
      refine branchB_ok hB (hkids (by have := hlB p (by simp); omega)) (hsA.less fun _ h => h.elim) (by show A'.length + 1 - 0 ≤ sT.cap - 0; omega) (bg.sub hsub) rfl (fun q hq => hlB q (hsub.subset hq)) (by simp only [List.length_cons]; omega) (W := fun y => W y ∨ Mo y) (fun y hy => hy.elim (fun hy => Nat.lt_of_lt_of_le (hW y hy) (k04.tr k411).size) fun hy => Nat.lt_of_lt_of_le (hMo y hy).2 k411.size) rfl hg (hcA g hgm).symm fun h12 ka n kd hcn hhd hin hu12 => at_intro ?_
      have hu' := k411.tr hu12
      have z' := (hu.tr hu').size
      have hLn : L.length ≤ 256 := by
        rcases rises_len (c := 0) hrow.up fun _ _ => Nat.zero_le _ with e | e
        · rw [e]; simp
        · omega
      have hkl := hL.1
      have z12 := hu'.size
      refine append1r (M := fun y => Mo y ∨ h12.size ≤ y) ((ho.upd hu' fun _ _ h => h).more fun y hy => .inl hy) (fun b hb => .inr hb) (by omega) fun s13 h13 ho13 hu13 => hR1 _ _ ⟨ka, n, fun y => (Mo y ∨ h12.size ≤ y) ∧ y < h13.size, ho13.within, fun y hy => ⟨?_, hy.2⟩, ?_, hcn, hhd, hin, ?_, ?_⟩
      · rcases hy.1 with h | h
        · exact (hMo y h).1
        · omega
      · have hl : ∀ b, (W b ∨ ((Mo b ∨ h12.size ≤ b) ∧ b < h13.size)) → (W b ∨ Mo b) ∨ h12.size ≤ b := fun b hb => by
          rcases hb with h | ⟨h | h, _⟩
          · exact .inl (.inl h)
          · exact .inl (.inr h)
          · exact .inr h
        have hm : ∀ b, (Mo b ∨ h12.size ≤ b) → (W b ∨ ((Mo b ∨ h12.size ≤ b) ∧ b < h13.size)) ∨ h12.size ≤ b := fun b hb => by
          rcases hb with h | h
          · exact .inl (.inr ⟨.inl h, by have := (hMo b h).2; have := hu13.size; omega⟩)
          · exact .inr h
        exact (((hL.upd0 hu').app (RxL.one kd)).less hl).updM hu13 hm
      · exact (hu.tr hu').trans hu13 fun y hy => .inr (by
          rcases hy with h | h
          · exact (hMo y h).1
          · omega)
      · refine (hsT.upd hu' fun _ h => h.elim).upd hu13 fun b hb => .inl ?_
        have := k1.size
        rcases hb with h | h
        · have := (hMo b h).1; omega
        · omega
    · rintro s9 h9 ⟨ka, n, Mp, ho9, hMp, hL9, hcn, hhd, hin, hu9, hsT9⟩
      refine ⟨⟨by omega, by show ((A'.length + 1 : Nat) : Int) ≤ ((sT.len : Nat) : Int); omega⟩, ?_⟩
      rw [Int.toNat_natCast]
      have hsB := Sl.sub hsT9 (l := A'.length + 1) (hi := (p :: T).length) (m := sT.cap) (c := sT.cap - (A'.length + 1)) (by simp only [List.length_cons]; omega) (Nat.le_refl _) (by simp only [List.length_cons]; omega)
      have edr : ((p :: T).drop (A'.length + 1)).take ((p :: T).length - (A'.length + 1)) = Bt := by
        rw [hTA, List.drop_left' (by simp)]
        exact List.take_of_length_le (by simp)
      rw [edr] at hsB
      have elen : (p :: T).length - (A'.length + 1) = sT.len - (A'.length + 1) := by simp only [List.length_cons]; omega
      rw [elen] at hsB
      have hr' : Row (L ++ [n]) (D ++ (p :: A')) Bt pre := by
        rw [hTA] at hrow bgT
        exact hrow.more bgT (List.mem_cons_self ..) hcA (fun b B' e => by simpa using (hBc b B' e).2) hcn hhd hin
      refine hI (D ++ (p :: A'), Bt, ks ++ [ka], L ++ [n], Mp) _ _ ⟨by rw [hTA, List.append_assoc], hsB, by simp only; omega, ho9, hMp, hL9, hr', hu9⟩ ?_
      simp only [List.length_cons]; omega
  · have hT : T = [] := List.length_eq_zero_iff.1 (by simp only at hle; omega)
    subst hT
    rw [List.append_nil] at hk
    exact hk h4 so ks L (ho.more fun y hy => Nat.le_trans k1.size (hMo y hy).1) (hL.less fun y hy => .inl (.inl hy)) hrow k04
end Go.Proofs
namespace Go.Proofs
open Go Go.Lift
theorem kidsB_ok {B : Nat} (hB : B ≤ 1000000) : ∀ (n from_ : Nat), B < from_ + n → KidsC B from_
  | 0, _, h => kids_step hB fun h' => by omega
  | n + 1, from_, h => kids_step hB fun _ to hto => kidsB_ok hB n to (by omega)
theorem srt_sub {l : List Pr} {p : Pr} (h : p ∈ srtL l) : p ∈ l := lastK_mem (mem_srt.1 h)
theorem radixB_ok {W W0 : Nat → Prop} {h : Heap} {s : SliceV} {l : List Pr} (hs : Sl prF 2 W0 h s l) (hW : ∀ y, W y → y < h.size) (hn : l.length ≤ 100000) (hB : ∀ p ∈ l, p.1.size ≤ 1000000) {K : Option Addr → Heap → Prop}
    (hk : ∀ h' b, RadAt W h' b (srtL l) → Upd No h h' → K (some ⟨b, 0, none⟩) h') : HC PG f_build_Radix [.slice s.a s.len s.cap] [.c .ptr] K h := by
  refine H_build_Radix s ?_
  unfold F_build_Radix cAt iBd
  refine sorted_ok (W' := No) hs (fun _ h => h.elim) (by omega) fun e h2 hse hce k2 => ?_
  have hln := srt_len l
  have hrs := srt_rises l
  have hBs : ∀ p ∈ srtL l, (ky p).length ≤ 1000000 := fun p hp => by have := hB p (srt_sub hp); rw [show (ky p).length = p.1.size from keyLen p.1]; exact this
  generalize srtL l = L at *
  have hlen := hse.len
  refine Join.intro (fun (t : ByteArray × Bool) h' => h' = h2 ∧ (t.2 = true ↔ ∃ p r, L = p :: r ∧ ky p = [])) (fun R hR => ?_) ?_
  · refine condP_dec (fun hgt => ?_) fun hle => hR _ _ ⟨rfl, ⟨fun h => (by cases h), fun ⟨p, r, e, _⟩ => (by subst e; simp only [List.length_cons] at hlen; omega)⟩⟩
    rcases L with _ | ⟨p, r⟩
    · simp only [List.length_nil] at hlen; omega
    obtain ⟨a, ha, _, hv⟩ := hse.at (i := 0) (x := p) rfl
    refine ⟨⟨by omega, by omega⟩, a, ha, p.1, hv 0 _ rfl, hR _ _ ⟨rfl, ?_⟩⟩
    simp only
    rw [beq_list, decide_eq_true_iff]
    constructor
    · intro e; exact ⟨p, r, rfl, by unfold ky; rw [e]⟩
    · rintro ⟨p', r', e, e2⟩
      cases e
      exact bytes_list.1 e2
  rintro ⟨v6, has⟩ h' ⟨rfl, hhas⟩
  simp only at hhas
  refine Join.intro (fun (t : SliceV × ByteArray) h3 => h3 = h' ∧ ∃ l', Sl prF 2 No h' t.1 l' ∧ t.1.len ≤ t.1.cap ∧ Beg l' [] ∧ (∀ p ∈ l', p ∈ L) ∧ l'.length ≤ L.length ∧ ∀ k v, ((k = [] ∧ (if has then some t.2 else none) = some v) ∨ Got l' [] k v) ↔ ∃ p ∈ L, p.1.data.toList = k ∧ p.2 = v) (fun R hR => ?_) ?_
  · cases has with
    | true =>
      obtain ⟨p, r, rfl, e0⟩ := hhas.1 rfl
      obtain ⟨a, ha, _, hv⟩ := hse.at (i := 0) (x := p) rfl
      simp only [List.length_cons] at hlen
      refine condP_true.2 ⟨⟨by omega, by omega⟩, a, ha, p.2, hv 1 _ rfl, ⟨by omega, by omega⟩, hR _ _ ⟨rfl, r, ?_, by simp only; omega, ⟨(List.pairwise_cons.1 hrs).2, fun q hq => ⟨rfl, ?_⟩⟩, fun q hq => List.mem_cons_of_mem _ hq, by simp, fun k v => ?_⟩⟩
      · have := Sl.sub hse (l := 1) (hi := (p :: r).length) (m := e.cap) (c := e.cap - 1) (by simp) (Nat.le_refl _) (by simp only [List.length_cons]; omega)
        rw [List.drop_one, List.tail_cons, List.take_of_length_le (by simp)] at this
        have e2 : (p :: r).length - 1 = e.len - 1 := by simp only [List.length_cons]; omega
        rw [e2] at this
        exact this
      · have h1 := kl_data.1 ((List.pairwise_cons.1 hrs).1 q hq)
        refine List.length_pos_iff.2 fun e2 => ?_
        change Op.bytesLess (ky p) (ky q) = true at h1
        rw [e2, bl_nil] at h1; cases h1
      · simp only [if_true]
        constructor
        · rintro (⟨rfl, h⟩ | ⟨q, hq, h1, h2⟩)
          · exact ⟨p, List.mem_cons_self .., e0, Option.some.inj h⟩
          · exact ⟨q, List.mem_cons_of_mem _ hq, h1, h2⟩
        · rintro ⟨q, hq, h1, h2⟩
          rcases List.mem_cons.1 hq with rfl | hq
          · exact .inl ⟨by rw [← h1]; exact e0, by rw [h2]⟩
          · exact .inr ⟨q, hq, h1, h2⟩
    | false =>
      have hno : ∀ p r, L = p :: r → ky p ≠ [] := fun p r e e0 => by have := hhas.2 ⟨p, r, e, e0⟩; cases this
      refine condP_false.2 (hR _ _ ⟨rfl, L, hse, hce, ⟨hrs, fun q hq => ⟨rfl, ?_⟩⟩, fun q hq => hq, Nat.le_refl _, fun k v => ?_⟩)
      · refine List.length_pos_iff.2 fun e2 => ?_
        rcases L with _ | ⟨p, r⟩
        · cases hq
        rcases List.mem_cons.1 hq with rfl | hq
        · exact hno _ _ rfl e2
        · have h1 := kl_data.1 ((List.pairwise_cons.1 hrs).1 q hq)
          change Op.bytesLess (ky p) (ky q) = true at h1
          rw [e2, bl_nil] at h1; cases h1
      · simp only [Bool.false_eq_true, if_false]
        constructor
        · rintro (⟨_, h⟩ | ⟨q, hq, h1, h2⟩)
          · cases h
          · exact ⟨q, hq, h1, h2⟩
        · rintro ⟨q, hq, h1, h2⟩
          exact .inr ⟨q, hq, h1, h2⟩
  rintro ⟨s3, v3⟩ h3 ⟨rfl, l', hs3, hc3, hbg, hsub, hll, hiff⟩
  simp only at hs3 hc3 hiff
  refine kidsB_ok (B := 1000000) (Nat.le_refl _) 1000001 0 (by omega) (W := W) hs3 hc3 hbg rfl (fun p hp => hBs p (hsub p hp)) (by omega) (fun y hy => Nat.lt_of_lt_of_le (hW y hy) k2.size) fun h4 s4 ks Lb ho4 hL4 hrow hu4 => ?_
  obtain ⟨hcF, hgF⟩ := hrow.done
  have hLl : Lb.length ≤ 100000 := by
    have := can_len hcF
    rw [Fo.to_of] at this; omega
  refine rxMake_ok (W := W) (ho4.sl fun _ _ _ h => h) hL4 hLl (fun y hy => Nat.lt_of_lt_of_le (hW y hy) (k2.tr hu4).size) fun h5 b5 rn5 hu5 => ?_
  refine hk h5 b5 ⟨_, _, rn5, hcF, fun k v => ?_⟩ ((k2.tr hu4).tr hu5)
  rw [mem_prsR]
  unfold InR
  rw [hgF, hiff]
theorem newTr' {h : Heap} {t : Tr} {k : Heap → Prop} (hk : ∀ h', h'[h.size]? = some (.cells (trL t).toArray t_tree_Tree (0, 0)) → Upd No h h' → k h') :
    At (hnew h (trL tr0) t_tree_Tree) (fun h1 => WrS h1 (some (newA h)) 0 (trL t) ∧ At (hsetL h1 (newA h) 0 (trL t)) k) :=
  at_new fun h1 b1 k1 => setAll (c := trL tr0) (vs := trL t) b1 rfl fun h2 b2 hu2 => hk h2 b2 (k1.own hu2 (Nat.le_refl _))
theorem buildTree_ok {W W0 : Nat → Prop} {x : Hs} {h : Heap} {s : SliceV} {l : List Pr} (hs : Sl prF 2 W0 h s l) (hW : ∀ y, W y → y < h.size) (hn : l.length ≤ 100000) (hB : ∀ p ∈ l, p.1.size ≤ 256 ∧ p.2.size ≤ 4096) {kind : Int} (hkd : kind = 0 ∨ kind = 1) {K : Tr × Int → Heap → Prop}
    (hk : ∀ h' t, TreeIs W h' kind x t (srtL l) → Upd No h h' → K (t, 0) h') : HC PG f_build_Tree [.int .i64 kind, .agg #[.int .u64 x.k0, .int .u64 x.k1, .int .u64 x.mask], .slice s.a s.len s.cap] [.agg [.int .i64, .int .u64, .int .u64, .int .u64, .ptr, .ptr], .c (.int .i64)] K h := by
  refine H_build_Tree kind (x.k0, x.k1, x.mask) s ?_
  unfold F_build_Tree cAt iBd
  refine at_new fun h1 b1 k1 => at_new fun h2 b2 k2 => ?_
  have z1 := get_lt b1
  have z2 := get_lt b2
  have s1 : h.size ≤ h1.size := k1.size
  have c1 := k2.get0 b1
  have k02 := k1.tr k2
  refine ⟨_, vc c1 0, _, vc c1 1, _, vc c1 2, ?_⟩
  refine tNew_ok (W := No) (x := x) (fun _ h => h.elim) hkd fun h3 t3 _ k3 => ?_
  refine newTr' (t := t3) fun h4 b4 k4 => ?_
  refine condP_false.2 ?_
  have k24 := k3.tr k4
  have k04 := k02.tr k24
  have hlen := hs.len
  refine LoopP.ghost (fun (i : Nat) (t : Int) h' => t = (i : Int) ∧ i ≤ l.length ∧ Upd No h4 h') (fun i => l.length - i) 0 ⟨rfl, Nat.zero_le _, Upd.refl _ _⟩ ?_
  rintro I i t h5 ⟨rfl, hi, k5⟩ hI
  have k05 := k04.tr k5
  refine condP_dec (fun hlt => ?_) fun hge => ?_
  · have hlt : i < l.length := by omega
    obtain ⟨a, ha, _, hv⟩ := (hs.upd k05 fun _ h => h.elim).at (List.getElem?_eq_getElem hlt)
    have hb := hB _ (List.getElem_mem hlt)
    refine ⟨⟨by omega, by omega⟩, a, ha, l[i].1, hv 0 _ rfl, l[i].2, hv 1 _ rfl, ?_⟩
    refine newPr' (p := l[i]) fun h6 b6 k6 => ⟨_, vc b6 0, _, vc b6 1, pRight_ok hb.1 hb.2 (condP_false.2 ?_)⟩
    rw [wrap_succB hlt (by omega)]
    exact hI (i + 1) _ _ ⟨rfl, hlt, k5.tr k6⟩ (by omega)
  · have hW5 := Pro.lt (h2 := h2) hW k02
    have hW5' : ∀ y, Pro W h h2 y → y < h5.size := fun y hy => Nat.lt_of_lt_of_le (hW5 y hy) (k24.tr k5).size
    have d2 := (k24.tr k5).get0 b2
    have d1 := (k24.tr k5).get0 c1
    rcases hkd with rfl | rfl
    · refine condP_false.2 ⟨_, vc d1 0, _, vc d1 1, _, vc d1 2, _, vc d1 0, _, vc d1 1, _, vc d1 2, ?_⟩
      refine champB_ok (z := x) (hs.upd k05 fun _ h => h.elim) hW5' hn fun h6 b6 t6 k6 => ?_
      have e1 := k6.get0 d1
      refine ⟨⟨vc e1 0, vc e1 1, vc e1 2⟩, ?_⟩
      refine tOfChamp_ok (x := x) (.inr ⟨b6, rfl, t6⟩) (fun y hy => Nat.lt_of_lt_of_le (hW5' y hy) k6.size) fun h7 t7 i7 k7 => ?_
      refine setAll (c := trL tr0) (vs := trL t7) (k7.get0 (k6.get0 d2)) rfl fun h8 b8 hu8 => ?_
      refine ⟨_, vc b8 0, _, vc b8 1, _, vc b8 2, _, vc b8 3, _, vc b8 4, _, vc b8 5, ?_⟩
      exact hk h8 t7 ((i7.updM hu8 (fun y hy => .inl (.inr (by have hy : y = h1.size := hy; omega)))).less Pro.sub) (((k05.tr k6).tr k7).own hu8 s1)
    · refine condP_true.2 (radixB_ok (hs.upd k05 fun _ h => h.elim) hW5' hn (fun p hp => by have := (hB p hp).1; omega) fun h6 b6 t6 k6 => ?_)
      refine tOfRadix_ok (x := x) (.inr ⟨b6, rfl, t6⟩) (fun y hy => Nat.lt_of_lt_of_le (hW5' y hy) k6.size) fun h7 t7 i7 k7 => ?_
      refine setAll (c := trL tr0) (vs := trL t7) (k7.get0 (k6.get0 d2)) rfl fun h8 b8 hu8 => ?_
      refine ⟨_, vc b8 0, _, vc b8 1, _, vc b8 2, _, vc b8 3, _, vc b8 4, _, vc b8 5, ?_⟩
      exact hk h8 t7 ((i7.updM hu8 (fun y hy => .inl (.inr (by have hy : y = h1.size := hy; omega)))).less Pro.sub) (((k05.tr k6).tr k7).own hu8 s1)
end Go.Proofs
namespace Go.Proofs
open Go Go.Lift
def grownL (L0 l : List Pr) : List Pr := (l.take 25).foldl (fun acc p => insR (cutP p) acc) L0
theorem grownL_lt {L0 l : List Pr} {i : Nat} (hi : i < l.length) (h25 : i < 25) : grownL L0 (l.take (i + 1)) = insR (cutP l[i]) (grownL L0 (l.take i)) := by
  unfold grownL
  rw [List.take_take, List.take_take, Nat.min_eq_right (by omega), Nat.min_eq_right (by omega), List.take_succ_eq_append_getElem hi, List.foldl_append]
  rfl
theorem grownL_ge {L0 l : List Pr} {i : Nat} (h25 : 25 ≤ i) : grownL L0 (l.take (i + 1)) = grownL L0 (l.take i) := by
  unfold grownL
  rw [List.take_take, List.take_take, Nat.min_eq_left (by omega), Nat.min_eq_left (by omega)]
theorem few_grown {n : Nat} {L0 : List Pr} (f : Few n L0) (l : List Pr) : Few (n + 25) (grownL L0 l) := by
  unfold grownL
  have : ∀ (m : List Pr) (n : Nat) (acc : List Pr), Few n acc → Few (n + m.length) (m.foldl (fun acc p => insR (cutP p) acc) acc) := by
    intro m
    induction m with
    | nil => intro n acc h; exact h
    | cons p m ih =>
      intro n acc h
      have := ih (n + 1) _ (h.ins (cutP p) (cut30_size _) (cut30_size _))
      rw [List.foldl_cons, List.length_cons]
      rw [Nat.add_assoc, Nat.add_comm 1] at this
      exact this
  have h := this (l.take 25) n L0 f
  exact ⟨h.up, Nat.le_trans h.len (by rw [List.length_take]; omega), h.fit⟩
theorem few_nil : Few 0 [] := ⟨.nil, Nat.le_refl _, fun p hp => by cases hp⟩
theorem cutE (s : ByteArray) : ((0 : Int) ≤ (if 30 < (s.size : Int) then 30 else (s.size : Int)) ∧ (if 30 < (s.size : Int) then 30 else (s.size : Int)) ≤ ((s.size : Nat) : Int)) ∧ s.extract 0 ((if 30 < (s.size : Int) then 30 else (s.size : Int)).toNat) = cut30 s := by
  unfold cut30
  split
  · refine ⟨⟨by omega, by omega⟩, ?_⟩
    rw [Nat.min_eq_right (by omega)]; rfl
  · refine ⟨⟨by omega, by omega⟩, ?_⟩
    rw [Nat.min_eq_left (by omega), Int.toNat_natCast]
theorem newRt {h : Heap} {r : Rt} {k : Heap → Prop} (hk : ∀ h', h'[h.size]? = some (.cells (rtL r).toArray t_r14_Tree (0, 0)) → Upd No h h' → k h') :
    At (hnew h (rtL rt0) t_r14_Tree) (fun h1 => WrS h1 (some (newA h)) 0 (rtL r) ∧ At (hsetL h1 (newA h) 0 (rtL r)) k) :=
  at_new fun h1 b1 k1 => setAll (c := rtL rt0) (vs := rtL r) b1 rfl fun h2 b2 hu2 => hk h2 b2 (k1.own hu2 (Nat.le_refl _))
theorem own17_ok {x : Hs} {h : Heap} {K : Int × Int × Int → Heap → Prop} (hk : ∀ h', Upd No h h' → K (x.k0, x.k1, x.mask) h') : HC PG f_l17_own [.agg #[.int .u64 x.k0, .int .u64 x.k1, .int .u64 x.mask]] [.agg [.int .u64, .int .u64, .int .u64]] K h := by
  refine H_l17_own (x.k0, x.k1, x.mask) ?_
  unfold F_l17_own cAt
  refine at_new fun h1 b1 k1 => at_new fun h2 b2 k2 => ?_
  have c1 := k2.get0 b1
  refine ⟨_, vc2 c1 0 0, _, vc2 c1 0 1, _, vc c1 2, ?_⟩
  refine setAll (c := [.int .u64 0, .int .u64 0, .int .u64 0]) (vs := [.int .u64 x.k0, .int .u64 x.k1, .int .u64 x.mask]) b2 rfl fun h3 b3 hu3 => ?_
  exact ⟨_, vc b3 0, _, vc b3 1, _, vc b3 2, hk h3 ((k1.tr k2).own hu3 k1.size)⟩
theorem begun17_ok {W : Nat → Prop} {x : Hs} {h : Heap} {k : Int} (h0 : 0 ≤ k) (h1 : k ≤ 255) (hW : ∀ y, W y → y < h.size) {K : Tr × Rt → Heap → Prop}
    (hk : ∀ h' t r, TreeIs W h' (IntKind.wrap .i64 (Int.tmod k 2)) x t [] → RefIs W h' (IntKind.wrap .i64 (Int.tmod k 2)) x r [] → Upd No h h' → K (t, r) h') :
    HC PG f_l17_begun [.int .u8 k, .agg #[.int .u64 x.k0, .int .u64 x.k1, .int .u64 x.mask]] [.agg [.int .i64, .int .u64, .int .u64, .int .u64, .ptr, .ptr], .agg [.int .i64, .int .u64, .int .u64, .int .u64, .slice]] K h := by
  refine H_l17_begun k (x.k0, x.k1, x.mask) ?_
  unfold F_l17_begun cAt
  have hkd := kind2 h0 h1
  generalize IntKind.wrap .i64 (Int.tmod k 2) = kind at hkd hk ⊢
  refine at_new fun h1 b1 k1 => at_new fun h2 b2 k2 => at_new fun h3 b3 k3 => ⟨by decide, ?_⟩
  have z1 := get_lt b1
  have z2 := get_lt b2
  have z3 := get_lt b3
  have s1 : h.size ≤ h1.size := k1.size
  have s2 : h1.size ≤ h2.size := k2.size
  have k03 := (k1.tr k2).tr k3
  have c1 := k3.get0 (k2.get0 b1)
  have c2 := k3.get0 b2
  have s3 := k3.size
  refine ⟨_, vc c1 0, _, vc c1 1, _, vc c1 2, ?_⟩
  refine tNew_ok (W := Pro W h h3) (x := x) (Pro.lt hW k03) hkd fun h8 t i8 k8 => ?_
  refine newTr' (t := t) fun h10 b10 k810 => ⟨by decide, ?_⟩
  have s8 := k8.size
  have s10 := k810.size
  have z10 := get_lt b10
  have d1 := k810.get0 (k8.get0 c1)
  refine ⟨_, vc d1 0, _, vc d1 1, _, vc d1 2, ?_⟩
  refine own17_ok (x := x) fun h15 k15 => ?_
  have s15 := k15.size
  refine rNew_ok (x := x) (W := Pro W h h3) hkd fun h17 r j17 k17 => ?_
  have s17 := k17.size
  refine newRt (r := r) fun hL bL k17L => ?_
  have sL := k17L.size
  have zL := get_lt bL
  have k8L : Upd No h8 hL := ((k810.tr k15).tr k17).tr k17L
  have kL : Upd No h hL := (k03.tr k8).tr k8L
  have tL := k17L.get0 ((k15.tr k17).get0 b10)
  have rL1 := k8L.get0 (k8.get0 c2)
  have rL2 := k8L.get0 (k8.get0 b3)
  have hP1 : Pro W h h3 h1.size := .inr (by omega)
  have hP2 : Pro W h h3 h2.size := .inr (by omega)
  refine ⟨_, vc tL 0, _, vc tL 1, _, vc tL 2, _, vc tL 3, _, vc tL 4, _, vc tL 5, _, vc bL 0, _, vc bL 1, _, vc bL 2, _, vc bL 3, r.2.2.2.2, vc bL 4, ?_⟩
  refine setAll (c := trL tr0) (vs := trL t) rL1 rfl fun h70 b70 hu70 => ?_
  have x70 := hu70.oth bL (by omega)
  refine ⟨⟨vc x70 0, vc x70 1, vc x70 2, vc x70 3, vc x70 4⟩, ?_⟩
  refine setAll (c := rtL rt0) (vs := rtL r) (hu70.oth rL2 (by omega)) rfl fun h71 b71 hu71 => ?_
  have t71 := hu71.oth b70 (by omega)
  refine ⟨_, vc t71 0, _, vc t71 1, _, vc t71 2, _, vc t71 3, _, vc t71 4, _, vc t71 5, _, vc b71 0, _, vc b71 1, _, vc b71 2, _, vc b71 3, r.2.2.2.2, vc b71 4, ?_⟩
  refine hk h71 t r ((((i8.upd0 k8L).updM hu70 fun y hy => .inl (by have hy : y = h1.size := hy; rw [hy]; exact hP1)).updM hu71 fun y hy => .inl (by have hy : y = h2.size := hy; rw [hy]; exact hP2)).less Pro.sub) ((((j17.upd0 k17L).updM hu70 fun y hy => .inl (by have hy : y = h1.size := hy; rw [hy]; exact hP1)).updM hu71 fun y hy => .inl (by have hy : y = h2.size := hy; rw [hy]; exact hP2)).less Pro.sub) ((kL.own hu70 s1).own hu71 (by omega))
set_option maxHeartbeats 1000000 in
theorem grown0_ok {W : Nat → Prop} {x : Hs} {h : Heap} {s : SliceV} {l L0 : List Pr} {kind : Int} {t : Tr} {r : Rt} {n : Nat} (it : TreeIs W h kind x t L0) (jr : RefIs W h kind x r L0) (fw0 : Few n L0) (hn0 : n ≤ 1000) (hs : Sl prF 2 W h s l) (hW : ∀ y, W y → y < h.size) (hn : l.length ≤ 9223372036854775807) {K : Tr × Rt → Heap → Prop}
    (hk : ∀ h' t' r', TreeIs W h' kind x t' (grownL L0 l) → RefIs W h' kind x r' (grownL L0 l) → Upd No h h' → K (t', r') h') :
    HC PG f_l17_grown [trV t, rtV r, .slice s.a s.len s.cap, .slice none 0 0] [.agg [.int .i64, .int .u64, .int .u64, .int .u64, .ptr, .ptr], .agg [.int .i64, .int .u64, .int .u64, .int .u64, .slice]] K h := by
  refine H_l17_grown t r s ⟨none, 0, 0⟩ ?_
  unfold F_l17_grown cAt iBd
  refine at_new fun h1 b1 k1 => at_new fun h2 b2 k2 => at_new fun h3 b3 k3 => at_new fun hL b4 k4 => ?_
  have z1 := get_lt b1
  have z2 := get_lt b2
  have z3 := get_lt b3
  have z4 := get_lt b4
  have s1 : h.size ≤ h1.size := k1.size
  have s2 : h1.size ≤ h2.size := k2.size
  have s3 : h2.size ≤ h3.size := k3.size
  have s4 := k4.size
  have kL : Upd No h hL := ((k1.tr k2).tr k3).tr k4
  have t0 := k4.get0 (k3.get0 (k2.get0 b1))
  have x0 := k4.get0 (k3.get0 b2)
  have rL1 := k4.get0 b3
  have rL2 := b4
  have iL := it.pro kL
  have jL : RefIs (Pro W h hL) hL kind x r L0 := (jr.less (W' := Pro W h hL) Pro.hm).upd0 kL
  have hWL := Pro.lt hW kL
  have hPt : Pro W h hL h.size := .inr (by omega)
  have hPx : Pro W h hL h1.size := .inr (by omega)
  have hP1 : Pro W h hL h2.size := .inr (by omega)
  have hP2 : Pro W h hL h3.size := .inr (by omega)
  have hlen := hs.len
  refine LoopP.ghost (fun (i : Nat) (ti : Int) h' => ti = (i : Int) ∧ i ≤ l.length ∧ (∃ tv rv, TreeIs (Pro W h hL) h' kind x tv (grownL L0 (l.take i)) ∧ RefIs (Pro W h hL) h' kind x rv (grownL L0 (l.take i)) ∧ h'[h.size]? = some (.cells (trL tv).toArray t_tree_Tree (0, 0)) ∧ h'[h1.size]? = some (.cells (rtL rv).toArray t_r14_Tree (0, 0))) ∧ Upd (fun y => y = h.size ∨ y = h1.size) hL h') (fun i => l.length - i) 0 ⟨rfl, Nat.zero_le _, ⟨t, r, iL, jL, t0, x0⟩, Upd.refl _ _⟩ ?_
  rintro I i ti h' ⟨rfl, hi, ⟨tv, rv, it, jr, bt, bx⟩, hu⟩ hI
  have hus := hu.size
  have hu0 : Upd No h h' := kL.trans hu fun y hy => .inr (by rcases hy with rfl | rfl <;> omega)
  refine condP_dec (fun hlt => ?_) fun hge => ?_
  · have hlt : i < l.length := by omega
    obtain ⟨a, ha, _, hv⟩ := (hs.upd hu0 fun _ h => h.elim).at (List.getElem?_eq_getElem hlt)
    refine Join.intro (fun _ h2' => (∃ tv rv, TreeIs (Pro W h hL) h2' kind x tv (grownL L0 (l.take (i + 1))) ∧ RefIs (Pro W h hL) h2' kind x rv (grownL L0 (l.take (i + 1))) ∧ h2'[h.size]? = some (.cells (trL tv).toArray t_tree_Tree (0, 0)) ∧ h2'[h1.size]? = some (.cells (rtL rv).toArray t_r14_Tree (0, 0))) ∧ Upd (fun y => y = h.size ∨ y = h1.size) hL h2') (fun R hR => ⟨⟨by omega, by omega⟩, a, ha, l[i].1, hv 0 _ rfl, l[i].2, hv 1 _ rfl, ?_⟩) ?_
    · refine newPr (p := l[i]) fun h28 b28 k28 => ?_
      have z28 := get_lt b28
      have nt : h'.size ≠ h.size := by omega
      have nx : h'.size ≠ h1.size := by omega
      refine condP_dec (fun h25 => ?_) fun h25 => ?_
      · have h25 : i < 25 := by omega
        rw [grownL_lt hlt h25] at hR
        obtain ⟨q1, e1⟩ := cutE l[i].1
        obtain ⟨q2, e2⟩ := cutE l[i].2
        refine ⟨_, vc b28 0, _, vc b28 0, q1, ?_⟩
        simp only [Bd]
        refine ⟨_, vc b28 1, _, vc b28 1, q2, ?_⟩
        rw [e1, e2]
        refine vset (c' := #[.string (cut30 l[i].1), .string l[i].2]) b28 (by simp) rfl fun h29 b29 hu29 => ?_
        refine vset (c' := #[.string (cut30 l[i].1), .string (cut30 l[i].2)]) b29 (by simp) rfl fun h35 b35 hu35 => ?_
        have k35 : Upd No h' h35 := (k28.own hu29 (Nat.le_refl _)).own hu35 (Nat.le_refl _)
        have t35 := k35.get0 bt
        have x35 := k35.get0 bx
        have s35 := k35.size
        have fw := few_grown fw0 (l.take i)
        have fl := fw.len
        have p1 := cut30_size l[i].1
        have p2 := cut30_size l[i].2
        refine ⟨_, vc t35 0, _, vc t35 1, _, vc t35 2, _, vc t35 3, _, vc t35 4, _, vc t35 5, _, vc b35 0, _, vc b35 1, ?_⟩
        refine tWith_ok (it.upd0 k35) (fun y hy => Nat.lt_of_lt_of_le (hWL y hy) (by omega)) fw.up (by omega) (cutP l[i]) (by unfold cutP; simp only; omega) (by unfold cutP; simp only; omega) fun h45 t' i45 _ k45 => ?_
        refine setAll (c := trL tv) (vs := trL t') (k45.get0 t35) rfl fun h46 t46 hu46 => ?_
        have x46 := hu46.oth (k45.get0 x35) (by omega)
        have p46 := hu46.oth (k45.get0 b35) nt
        have j46 := ((jr.upd0 k35).upd0 k45).updM hu46 fun y hy => .inl (by have hy : y = h.size := hy; rw [hy]; exact hPt)
        have s45 := k45.size
        have s46 := hu46.size
        refine ⟨_, vc x46 0, _, vc x46 1, _, vc x46 2, _, vc x46 3, rv.2.2.2.2, vc x46 4, _, vc p46 0, _, vc p46 1, ?_⟩
        refine rWith_ok j46 (fun y hy => Nat.lt_of_lt_of_le (hWL y hy) (by omega)) fw.up (by omega) (cutP l[i]) (by unfold cutP; simp only; omega) (by unfold cutP; simp only; omega) fun h55 r' j55 k55 => ?_
        refine setAll (c := rtL rv) (vs := rtL r') (k55.get0 x46) rfl fun h56 x56 hu56 => hR _ _ ⟨⟨t', r', ?_, j55.updM hu56 fun y hy => .inl (by have hy : y = h1.size := hy; rw [hy]; exact hPx), hu56.oth (k55.get0 t46) (by omega), x56⟩, ?_⟩
        · exact ((i45.updM hu46 fun y hy => .inl (by have hy : y = h.size := hy; rw [hy]; exact hPt)).upd0 k55).updM hu56 fun y hy => .inl (by have hy : y = h1.size := hy; rw [hy]; exact hPx)
        · exact ((((hu.tr k35.wide).tr k45.wide).trans hu46 fun y hy => .inl (.inl hy)).tr k55.wide).trans hu56 fun y hy => .inl (.inr hy)
      · have h25 : 25 ≤ i := by omega
        rw [grownL_ge h25] at hR
        exact hR _ _ ⟨⟨tv, rv, it.upd0 k28, jr.upd0 k28, k28.get0 bt, k28.get0 bx⟩, hu.tr k28.wide⟩
    · rintro _ h2' ⟨hex, hu2⟩
      rw [wrap_succB hlt hn]
      exact hI (i + 1) _ _ ⟨rfl, hlt, hex, hu2⟩ (by omega)
  · have hil : i = l.length := by omega
    subst hil
    rw [List.take_length] at it jr
    have y1 := hu.get rL1 (by rintro (e | e) <;> omega)
    have y2 := hu.get rL2 (by rintro (e | e) <;> omega)
    refine LoopP.ghost (fun (_ : Unit) (ti : Int) h2' => ti = 0 ∧ h2' = h') (fun _ => 0) () ⟨rfl, rfl⟩ ?_
    rintro I2 ⟨⟩ ti h2' ⟨rfl, rfl⟩ _
    refine condP_dec (fun h => absurd h (by simp)) fun _ => ?_
    refine ⟨_, vc bt 0, _, vc bt 1, _, vc bt 2, _, vc bt 3, _, vc bt 4, _, vc bt 5, _, vc bx 0, _, vc bx 1, _, vc bx 2, _, vc bx 3, rv.2.2.2.2, vc bx 4, ?_⟩
    refine setAll (c := trL tr0) (vs := trL tv) y1 rfl fun h70 b70 hu70 => ?_
    have x70 := hu70.oth bx (by omega)
    refine ⟨⟨vc x70 0, vc x70 1, vc x70 2, vc x70 3, vc x70 4⟩, ?_⟩
    refine setAll (c := rtL rt0) (vs := rtL rv) (hu70.oth y2 (by omega)) rfl fun h71 b71 hu71 => ?_
    have t71 := hu71.oth b70 (by omega)
    refine ⟨_, vc t71 0, _, vc t71 1, _, vc t71 2, _, vc t71 3, _, vc t71 4, _, vc t71 5, _, vc b71 0, _, vc b71 1, _, vc b71 2, _, vc b71 3, rv.2.2.2.2, vc b71 4, ?_⟩
    refine hk h71 tv rv (((it.updM hu70 fun y hy => .inl (by have hy : y = h2.size := hy; rw [hy]; exact hP1)).updM hu71 fun y hy => .inl (by have hy : y = h3.size := hy; rw [hy]; exact hP2)).less Pro.sub) (((jr.updM hu70 fun y hy => .inl (by have hy : y = h2.size := hy; rw [hy]; exact hP1)).updM hu71 fun y hy => .inl (by have hy : y = h3.size := hy; rw [hy]; exact hP2)).less Pro.sub) ((hu0.own hu70 (by omega)).own hu71 (by omega))
end Go.Proofs
namespace Go.Proofs
open Go Go.Lift
abbrev zChL : List Value := [.string (⟨#[]⟩ : ByteArray), .string (⟨#[]⟩ : ByteArray), .string (⟨#[]⟩ : ByteArray), .bool false, .bool false]
theorem newCh {h : Heap} {t : TypeId} {c : Ch} {k : Heap → Prop} (hk : ∀ h', h'[h.size]? = some (.cells (chF c).toArray t (0, 0)) → Upd No h h' → k h') :
    At (hnew h zChL t) fun h8 => WrS h8 (some (newA h)) 0 (chF c) ∧ At (hsetL h8 (newA h) 0 (chF c)) k :=
  at_new fun h1 b1 k1 => setAll (c := zChL) (vs := chF c) b1 rfl fun h2 b2 hu2 => hk h2 b2 (k1.own hu2 (Nat.le_refl _))
theorem append1c {t : TypeId} {M : Nat → Prop} {h : Heap} {so : SliceV} {out : List Ch} {c : Ch} {K : SliceV → Heap → Prop} (ho : OwnS chF 5 t M h so out) (hM : ∀ b, h.size ≤ b → M b) (hn : out.length + 1 ≤ 100000000)
    (hk : ∀ s' h', OwnS chF 5 t M h' s' (out ++ [c]) → Upd M h h' → K s' h') :
    At (hnew h (chF c) t) fun h1 => ∃ xs, SRow h1 (some (newA h)) (1 * 5) xs ∧ AppP (some zChL) 5 56 t so.a so.len so.cap 1 xs h1 K := by
  refine at_new fun h1 b1 k1 => ?_
  have z1 := get_lt b1
  have o1 : OwnS chF 5 t (fun _ => True) h1 ⟨some (newA h), 1, 1⟩ [c] := ⟨rfl, chF_ne, Nat.le_refl _, .inr ⟨h.size, [], rfl, trivial, b1, rfl⟩⟩
  refine ⟨_, (o1.sl (W := No) fun _ _ _ h => h).srow, ?_⟩
  refine AppP.own (ys := [c]) (ho.upd k1 fun _ _ h => h) rfl rfl rfl rfl (by omega) (by simp only [List.length_singleton]; omega) (hM _ k1.size) fun s' h' ho' hu => ?_
  exact hk s' h' ho' (k1.wide.tr hu)
theorem chEq (a b : Ch) : ((a.1.toList == b.1.toList) && ((a.2.1.toList == b.2.1.toList) && ((a.2.2.1.toList == b.2.2.1.toList) && ((a.2.2.2.1 == b.2.2.2.1) && ((a.2.2.2.2 == b.2.2.2.2) && true))))) = decide (a = b) := by
  rw [beq_list, beq_list, beq_list]
  by_cases e : a = b
  · subst e; simp
  · rw [decide_eq_false e]
    obtain ⟨a1, a2, a3, a4, a5⟩ := a
    obtain ⟨b1, b2, b3, b4, b5⟩ := b
    simp only [Prod.mk.injEq] at e
    rw [Bool.eq_false_iff]
    intro h
    simp only [Bool.and_eq_true, decide_eq_true_iff, beq_iff_eq, and_true] at h
    exact e ⟨h.1, h.2.1, h.2.2.1, h.2.2.2.1, h.2.2.2.2⟩
theorem same17F {W W' : Nat → Prop} {h : Heap} {s s' : SliceV} {l l' : List Ch} (hs : Sl chF 5 W h s l) (hs' : Sl chF 5 W' h s' l') (hn : l.length ≤ 1000000) {K : Bool → Heap → Prop} (hk : K (decide (l = l')) h) : F_r17_Same s s' K h := by
  unfold F_r17_Same cAt iBd
  have hl := hs.len
  have hl' := hs'.len
  by_cases ne : l.length = l'.length
  rotate_left
  · rw [show ((s.len : Int) != (s'.len : Int)) = true by rw [bne_iff_ne]; omega]
    rw [decide_eq_false fun e => ne (by rw [e])] at hk
    exact condP_true.2 hk
  rw [show ((s.len : Int) != (s'.len : Int)) = false by rw [bne_eq_false_iff_eq]; omega]
  refine condP_false.2 (LoopP.ghost (fun (i : Nat) (t : Int) h' => t = (i : Int) ∧ i ≤ l.length ∧ h' = h ∧ l.take i = l'.take i) (fun i => l.length - i) 0 ⟨rfl, Nat.zero_le _, rfl, rfl⟩ ?_)
  rintro I i t h' ⟨rfl, hi, rfl, ht⟩ hI
  refine condP_dec (fun hlt => ?_) fun hge => ?_
  · have hlt : i < l.length := by omega
    have hlt' : i < l'.length := by omega
    obtain ⟨a, ha, _, hv⟩ := hs.at (List.getElem?_eq_getElem hlt)
    obtain ⟨a', ha', _, hv'⟩ := hs'.at (List.getElem?_eq_getElem hlt')
    refine ⟨⟨by omega, by omega⟩, a, ha, _, hv 0 _ rfl, _, hv 1 _ rfl, _, hv 2 _ rfl, _, hv 3 _ rfl, _, hv 4 _ rfl, ⟨by omega, by omega⟩, a', ha', _, hv' 0 _ rfl, _, hv' 1 _ rfl, _, hv' 2 _ rfl, _, hv' 3 _ rfl, _, hv' 4 _ rfl, ?_⟩
    rw [chEq l[i] l'[i]]
    by_cases e : l[i] = l'[i]
    · rw [decide_eq_true e]
      refine condP_false.2 ?_
      rw [wrap_succB hlt (by omega)]
      refine hI (i + 1) _ _ ⟨rfl, hlt, rfl, ?_⟩ (by omega)
      rw [List.take_succ_eq_append_getElem hlt, List.take_succ_eq_append_getElem hlt', ht, e]
    · rw [decide_eq_false e]
      rw [decide_eq_false fun e2 => e (by subst e2; rfl)] at hk
      exact condP_true.2 hk
  · have hil : i = l.length := by omega
    rw [hil, List.take_length, ne, List.take_length] at ht
    rw [decide_eq_true ht] at hk
    exact hk
theorem same17_ok {W W' : Nat → Prop} {h : Heap} {s s' : SliceV} {l l' : List Ch} (hs : Sl chF 5 W h s l) (hs' : Sl chF 5 W' h s' l') (hn : l.length ≤ 1000000) {K : Bool → Heap → Prop} (hk : K (decide (l = l')) h) : HC PG f_r17_Same [.slice s.a s.len s.cap, .slice s'.a s'.len s'.cap] [.c .bool] K h :=
  H_r17_Same s s' (same17F hs hs' hn hk)
theorem diffSame_ok {W W' : Nat → Prop} {h : Heap} {s s' : SliceV} {l l' : List Ch} (hs : Sl chF 5 W h s l) (hs' : Sl chF 5 W' h s' l') (hn : l.length ≤ 1000000) {K : Bool → Heap → Prop} (hk : K (decide (l = l')) h) : HC PG f_diff_Same [.slice s.a s.len s.cap, .slice s'.a s'.len s'.cap] [.c .bool] K h := by
  refine H_diff_Same s s' ?_
  unfold F_diff_Same
  refine H_slices_Equal_A_diff_Change_diff_Change s s' ?_
  have := same17F (K := K) hs hs' hn hk
  unfold F_r17_Same cAt iBd at this
  unfold F_slices_Equal_A_diff_Change_diff_Change cAt iBd
  exact this
theorem invert_ok {W : Nat → Prop} {h : Heap} {s : SliceV} {l : List Ch} (hs : Sl chF 5 W h s l) (hn : l.length ≤ 1000000) {K : SliceV → Heap → Prop} (hk : ∀ s' h', OwnS chF 5 t_diff_Change (fun y => h.size ≤ y) h' s' (l.map invC) → Upd No h h' → K s' h') : HC PG f_diff_Invert [.slice s.a s.len s.cap] [.c .slice] K h := by
  refine H_diff_Invert s ?_
  unfold F_diff_Invert cAt iBd
  have hl := hs.len
  refine LoopP.ghost (fun (i : Nat) (t : SliceV × Int) h' => OwnS chF 5 t_diff_Change (fun y => h.size ≤ y) h' t.1 ((l.take i).map invC) ∧ t.2 = (i : Int) ∧ i ≤ l.length ∧ Upd No h h') (fun i => l.length - i) 0 ⟨OwnS.nil chF_ne, rfl, Nat.zero_le _, Upd.refl _ _⟩ ?_
  rintro I i ⟨ts, ti⟩ h' ⟨ho, e, hi, hu⟩ hI
  simp only at ho e
  subst e
  have sz := hu.size
  refine condP_dec (fun hlt => ?_) fun hge => ?_
  · have hlt : i < l.length := by have hlt : (i : Int) < (s.len : Int) := hlt; omega
    obtain ⟨a, ha, _, hv⟩ := (hs.upd hu fun _ h => h.elim).at (List.getElem?_eq_getElem hlt)
    refine Join.plain ⟨⟨by simp only; omega, by simp only; omega⟩, a, ha, _, hv 0 _ rfl, _, hv 1 _ rfl, _, hv 2 _ rfl, _, hv 3 _ rfl, _, hv 4 _ rfl, ?_⟩
    refine newCh (c := l[i]) fun h2 b2 k2 => ?_
    have s2 := k2.size
    refine ⟨_, vc b2 0, _, vc b2 2, _, vc b2 1, _, vc b2 4, _, vc b2 3, ?_⟩
    refine append1c (c := invC l[i]) (ho.upd k2 fun _ _ h => h) (fun y hy => by omega) (by rw [List.length_map, List.length_take]; omega) fun s3 h3 ho3 hu3 => ?_
    rw [wrap_succB hlt (by omega)]
    refine hI (i + 1) _ _ ⟨?_, rfl, hlt, (hu.tr k2).trans hu3 fun y hy => .inr hy⟩ (by omega)
    rw [List.take_succ_eq_append_getElem hlt, List.map_append]; exact ho3
  · have hil : i = l.length := by have hge : ¬ (i : Int) < (s.len : Int) := hge; omega
    rw [hil, List.take_length] at ho
    exact hk _ h' ho hu
theorem changes17_ok {W : Nat → Prop} {h : Heap} {s : SliceV} {l : List Ch} (hs : Sl chF 5 W h s l) (hn : l.length ≤ 1000000) {K : SliceV → Heap → Prop} (hk : ∀ s' h', OwnS chF 5 t_r17_Change (fun y => h.size ≤ y) h' s' l → Upd No h h' → K s' h') : HC PG f_l17_changes [.slice s.a s.len s.cap] [.c .slice] K h := by
  refine H_l17_changes s ?_
  unfold F_l17_changes cAt iBd
  have hl := hs.len
  refine LoopP.ghost (fun (i : Nat) (t : SliceV × Int) h' => OwnS chF 5 t_r17_Change (fun y => h.size ≤ y) h' t.1 (l.take i) ∧ t.2 = (i : Int) ∧ i ≤ l.length ∧ Upd No h h') (fun i => l.length - i) 0 ⟨OwnS.nil chF_ne, rfl, Nat.zero_le _, Upd.refl _ _⟩ ?_
  rintro I i ⟨ts, ti⟩ h' ⟨ho, e, hi, hu⟩ hI
  simp only at ho e
  subst e
  have sz := hu.size
  refine condP_dec (fun hlt => ?_) fun hge => ?_
  · have hlt : i < l.length := by have hlt : (i : Int) < (s.len : Int) := hlt; omega
    obtain ⟨a, ha, _, hv⟩ := (hs.upd hu fun _ h => h.elim).at (List.getElem?_eq_getElem hlt)
    refine Join.plain ⟨⟨by simp only; omega, by simp only; omega⟩, a, ha, _, hv 0 _ rfl, _, hv 1 _ rfl, _, hv 2 _ rfl, _, hv 3 _ rfl, _, hv 4 _ rfl, ?_⟩
    refine newCh (c := l[i]) fun h2 b2 k2 => ?_
    have s2 := k2.size
    refine ⟨_, vc b2 0, _, vc b2 1, _, vc b2 2, _, vc b2 3, _, vc b2 4, ?_⟩
    refine append1c (c := l[i]) (ho.upd k2 fun _ _ h => h) (fun y hy => by omega) (by rw [List.length_take]; omega) fun s3 h3 ho3 hu3 => ?_
    rw [wrap_succB hlt (by omega)]
    refine hI (i + 1) _ _ ⟨?_, rfl, hlt, (hu.tr k2).trans hu3 fun y hy => .inr hy⟩ (by omega)
    rw [List.take_succ_eq_append_getElem hlt]; exact ho3
  · have hil : i = l.length := by have hge : ¬ (i : Int) < (s.len : Int) := hge; omega
    rw [hil, List.take_length] at ho
    exact hk _ h' ho hu
def cutC (c : Ch) : Ch := (cut30 c.1, cut30 c.2.1, cut30 c.2.2.1, c.2.2.2.1, c.2.2.2.2)
def fewC (l : List Ch) : List Ch := (l.take 20).map cutC
theorem cutStep {h : Heap} {b : Nat} {t : TypeId} {c : Ch} {a1 a2 a3 : ByteArray} {G : Heap → Prop} (hb : h[b]? = some (.cells (chF c).toArray t (0, 0))) (hk : ∀ h', h'[b]? = some (.cells (chF (a1, a2, a3, c.2.2.2.1, c.2.2.2.2)).toArray t (0, 0)) → Upd (· = b) h h' → G h') :
    Wr h (adr ⟨b, 0, none⟩ 0) ∧ At (hset h (adr ⟨b, 0, none⟩ 0) (.string a1)) (fun h1 => Wr h1 (adr ⟨b, 0, none⟩ 1) ∧ At (hset h1 (adr ⟨b, 0, none⟩ 1) (.string a2)) (fun h2 => Wr h2 (adr ⟨b, 0, none⟩ 2) ∧ At (hset h2 (adr ⟨b, 0, none⟩ 2) (.string a3)) G)) := by
  refine vset (c' := #[.string a1, .string c.2.1, .string c.2.2.1, .bool c.2.2.2.1, .bool c.2.2.2.2]) hb (by simp) rfl fun h3 b3 hu3 => ?_
  refine vset (c' := #[.string a1, .string a2, .string c.2.2.1, .bool c.2.2.2.1, .bool c.2.2.2.2]) b3 (by simp) rfl fun h4 b4 hu4 => ?_
  refine vset (c' := #[.string a1, .string a2, .string a3, .bool c.2.2.2.1, .bool c.2.2.2.2]) b4 (by simp) rfl fun h5 b5 hu5 => hk h5 b5 ((hu3.tr hu4).tr hu5)
theorem readC {h : Heap} {b : Nat} {t : TypeId} {c : Ch} {G : ByteArray → ByteArray → ByteArray → Bool → Bool → Prop} (hb : h[b]? = some (.cells (chF c).toArray t (0, 0))) (hk : G c.1 c.2.1 c.2.2.1 c.2.2.2.1 c.2.2.2.2) :
    ∃ v1, hcell h (adr ⟨b, 0, none⟩ 0) = some (.string v1) ∧ ∃ v2, hcell h (adr ⟨b, 0, none⟩ 1) = some (.string v2) ∧ ∃ v3, hcell h (adr ⟨b, 0, none⟩ 2) = some (.string v3) ∧ ∃ v4, hcell h (adr ⟨b, 0, none⟩ 3) = some (.bool v4) ∧ ∃ v5, hcell h (adr ⟨b, 0, none⟩ 4) = some (.bool v5) ∧ G v1 v2 v3 v4 v5 :=
  ⟨_, vc hb 0, _, vc hb 1, _, vc hb 2, _, vc hb 3, _, vc hb 4, hk⟩
theorem few17_ok {W : Nat → Prop} {h : Heap} {s : SliceV} {l : List Ch} (hs : Sl chF 5 W h s l) (hn : l.length ≤ 9223372036854775807) {K : SliceV → Heap → Prop} (hk : ∀ s' h', OwnS chF 5 t_diff_Change (fun y => h.size ≤ y) h' s' (fewC l) → Upd No h h' → K s' h') : HC PG f_l17_few [.slice s.a s.len s.cap, .int .u8 255, .int .u16 0] [.c .slice] K h := by
  refine H_l17_few s 255 0 ?_
  unfold F_l17_few cAt iBd
  have hl := hs.len
  refine LoopP.ghost (fun (i : Nat) (t : SliceV × Int) h' => OwnS chF 5 t_diff_Change (fun y => h.size ≤ y) h' t.1 ((l.take i).map cutC) ∧ t.2 = (i : Int) ∧ i ≤ l.length ∧ i ≤ 20 ∧ Upd No h h') (fun i => l.length - i) 0 ⟨OwnS.nil chF_ne, rfl, Nat.zero_le _, Nat.zero_le _, Upd.refl _ _⟩ ?_
  rintro I i ⟨ts, ti⟩ h' ⟨ho, e, hi, hi20, hu⟩ hI
  simp only at ho e
  subst e
  have sz := hu.size
  refine condP_dec (fun hlt => ?_) fun hge => ?_
  · have hlt : i < l.length := by have hlt : (i : Int) < (s.len : Int) := hlt; omega
    obtain ⟨a, ha, _, hv⟩ := (hs.upd hu fun _ h => h.elim).at (List.getElem?_eq_getElem hlt)
    refine Join.plain ⟨⟨by simp only; omega, by simp only; omega⟩, a, ha, _, hv 0 _ rfl, _, hv 1 _ rfl, _, hv 2 _ rfl, _, hv 3 _ rfl, _, hv 4 _ rfl, ?_⟩
    refine newCh (c := l[i]) fun h2 b2 k2 => ?_
    have s2 := k2.size
    refine condP_dec (fun h20 => ?_) fun h20 => ?_
    · have e20 : i = 20 := by have h20 : (i : Int) ≥ 20 := h20; omega
      refine hk _ h2 ?_ (hu.tr k2)
      unfold fewC
      rw [e20] at ho
      exact ho.upd k2 fun _ _ h => h
    have h20 : i < 20 := by have h20 : ¬ (i : Int) ≥ 20 := h20; omega
    obtain ⟨q1, e1⟩ := cutE l[i].1
    obtain ⟨q2, e2⟩ := cutE l[i].2.1
    obtain ⟨q3, e3⟩ := cutE l[i].2.2.1
    refine ⟨_, vc b2 0, _, vc b2 0, q1, ?_⟩
    simp only [Bd]
    refine ⟨_, vc b2 1, _, vc b2 1, q2, ?_⟩
    refine ⟨_, vc b2 2, _, vc b2 2, q3, ?_⟩
    rw [e1, e2, e3]
    refine cutStep b2 fun h5 b5 hu5 => ?_
    have k5 : Upd No h' h5 := k2.own hu5 (Nat.le_refl _)
    have s5 := k5.size
    refine Join.intro (fun _ h6 => h6 = h5) (fun R hR => ?_) ?_
    · rw [show ((i : Int) == IntKind.wrap .i64 255) = false by rw [w64 (by omega), beq_eq_false_iff_ne]; omega]
      exact condP_false.2 (hR _ _ rfl)
    rintro _ h6 rfl
    refine Join.intro (fun _ h7 => h7 = h6) (fun R hR => ?_) ?_
    · rw [show ((i : Int) == IntKind.wrap .i64 (IntKind.wrap .i64 255 + 1)) = false by rw [w64 (x := 255) (by omega), w64 (by omega), beq_eq_false_iff_ne]; omega]
      exact condP_false.2 (hR _ _ rfl)
    rintro _ h7 rfl
    refine readC b5 ?_
    refine append1c (c := cutC l[i]) (ho.upd k5 fun _ _ h => h) (fun y hy => by omega) (by rw [List.length_map, List.length_take]; omega) fun s8 h8 ho8 hu8 => ?_
    rw [wrap_succB hlt (by omega)]
    refine hI (i + 1) _ _ ⟨?_, rfl, hlt, by omega, (hu.tr k5).trans hu8 fun y hy => .inr hy⟩ (by omega)
    rw [List.take_succ_eq_append_getElem hlt, List.map_append]; exact ho8
  · have hil : i = l.length := by have hge : ¬ (i : Int) < (s.len : Int) := hge; omega
    refine hk _ h' ?_ hu
    unfold fewC
    rw [List.take_of_length_le (by omega)]
    rw [hil, List.take_length] at ho
    exact ho
end Go.Proofs
namespace Go.Proofs
open Go Go.Lift
abbrev bA : ByteArray := ⟨#[97]⟩
abbrev bB : ByteArray := ⟨#[98]⟩
theorem bab : kl bA bB := by rw [kl_data]; decide
end Go.Proofs
namespace Go.Proofs
open Go Go.Lift
abbrev b1 : ByteArray := ⟨#[49]⟩
abbrev b2 : ByteArray := ⟨#[50]⟩
abbrev b3 : ByteArray := ⟨#[51]⟩
theorem srt_one (p : Pr) : srtL [p] = [p] := rfl
theorem srt_two {v w : ByteArray} : srtL [(bA, v), (bB, w)] = [(bA, v), (bB, w)] := by
  unfold srtL
  rw [List.foldl_cons, List.foldl_cons, List.foldl_nil]
  have e1 : insR (bA, v) [] = [(bA, v)] := rfl
  rw [e1, insR_cons, if_pos bab]; rfl
theorem rises_two {v w : ByteArray} : Rises [(bA, v), (bB, w)] := List.pairwise_cons.2 ⟨fun p hp => by rw [List.mem_singleton.1 hp]; exact bab, List.pairwise_singleton ..⟩
theorem chg_awake17 : chg [(bA, b1)] [(bA, b2), (bB, b3)] = [(bA, b1, b2, true, true), (bB, ⟨#[]⟩, b3, false, true)] := by
  rw [chg_same (a := (bA, b1)) (b := (bA, b2)) rfl, chg_nilA]
  unfold cKey
  rw [if_neg (by decide)]; rfl
theorem fit_small {l : List Pr} (h : ∀ p ∈ l, p.1.size ≤ 40 ∧ p.2.size ≤ 40) : Fit l := fun p hp => by have := h p hp; omega
theorem small_two {v w : ByteArray} (hv : v.size ≤ 1) (hw : w.size ≤ 1) : ∀ p ∈ [(bA, v), (bB, w)], p.1.size ≤ 40 ∧ p.2.size ≤ 40 := fun p hp => by
  rcases List.mem_cons.1 hp with rfl | hp
  · exact ⟨(by decide : bA.size ≤ 40), by simp only; omega⟩
  · rw [List.mem_singleton.1 hp]
    exact ⟨(by decide : bB.size ≤ 40), by simp only; omega⟩
theorem small_one {v : ByteArray} (hv : v.size ≤ 1) : ∀ p ∈ [(bA, v)], p.1.size ≤ 40 ∧ p.2.size ≤ 40 := fun p hp => by
  rw [List.mem_singleton.1 hp]
  exact ⟨(by decide : bA.size ≤ 40), by simp only; omega⟩
theorem awake17_ok {h : Heap} {K : Bool → Heap → Prop} (hk : ∀ h', Upd No h h' → K true h') : HC PG f_l17_awake [] [.c .bool] K h := by
  refine H_l17_awake ?_
  unfold F_l17_awake cAt iBd
  refine at_new fun h1 b1' k1 => ?_
  have hs : Sl prF 2 No h1 ⟨some (newA h), 1, 1⟩ [(bA, b1)] := ⟨rfl, prF_ne, fun _ => ⟨_, rfl, fun h => h.elim, row_blk b1' fun i v hv => by simpa using hv⟩⟩
  refine buildTree_ok (W := No) (x := ⟨0, 0, 0⟩) hs (fun _ h => h.elim) (by simp) (fun p hp => by have := small_one (v := b1) (by decide) p hp; omega) (.inr rfl) fun h3 t i3 k3 => ?_
  rw [srt_one] at i3
  refine newTr' (t := t) fun h5 b5 k5 => ?_
  refine at_new fun h6 b6 k6 => ?_
  have hs6 : Sl prF 2 No h6 ⟨some (newA h5), 2, 2⟩ [(bA, b2), (bB, b3)] := ⟨rfl, prF_ne, fun _ => ⟨_, rfl, fun h => h.elim, row_blk b6 fun i v hv => by simpa using hv⟩⟩
  refine buildTree_ok (W := No) (x := ⟨0, 0, 0⟩) hs6 (fun _ h => h.elim) (by simp) (fun p hp => by have := small_two (v := b2) (w := b3) (by decide) (by decide) p hp; omega) (.inr rfl) fun h8 u i8 k8 => ?_
  rw [srt_two] at i8
  refine newTr' (t := u) fun h10 b10 k10 => ?_
  have c10 := (k6.tr (k8.tr k10)).get0 b5
  refine ⟨_, vc c10 0, _, vc c10 1, _, vc c10 2, _, vc c10 3, _, vc c10 4, _, vc c10 5, _, vc b10 0, _, vc b10 1, _, vc b10 2, _, vc b10 3, _, vc b10 4, _, vc b10 5, ?_⟩
  have i10 := i3.upd0 (((k5.tr k6).tr k8).tr k10)
  have j10 := i8.upd0 k10
  have hl : likeB t u = true := like_same i10 j10
  refine diffOf_ok i10 j10 (List.pairwise_singleton ..) (fit_small (small_one (by decide))) (by decide) rises_two (fit_small (small_two (by decide) (by decide))) (by decide) (fun _ => by rw [chg_awake17]; decide) (fun h => by rw [hl] at h; cases h) fun _ h24 s24 ho k24 => ?_
  rw [chg_awake17] at ho
  have hlen := ho.len
  have hsl := ho.sl (W := No) fun _ _ _ h => h
  obtain ⟨a, ha, _, hv⟩ := hsl.at (i := 0) (x := (bA, b1, b2, true, true)) rfl
  obtain ⟨a', ha', _, hv'⟩ := hsl.at (i := 1) (x := (bB, (⟨#[]⟩ : ByteArray), b3, false, true)) rfl
  rw [ha] at ha'; cases ha'
  refine condP_true.2 ?_
  have e1 : ((s24.len : Int) == (2 : Int)) = true := by rw [hlen]; rfl
  rw [show ((s24, (0 : Int)).1.len : Int) = (s24.len : Int) from rfl, e1]
  refine condP_true.2 ⟨⟨by omega, by rw [hlen]; decide⟩, a, ha, bA, hv 0 _ rfl, b1, hv 1 _ rfl, b2, hv 2 _ rfl, true, hv 3 _ rfl, true, hv 4 _ rfl, ?_⟩
  rw [beq_self_eq_true, beq_self_eq_true, beq_self_eq_true]
  refine condP_true.2 ⟨⟨by omega, by rw [hlen]; decide⟩, a, ha, bB, hv' 0 _ rfl, ?_⟩
  rw [beq_self_eq_true]
  refine condP_true.2 ⟨⟨by omega, by rw [hlen]; decide⟩, a, ha, false, hv' 3 _ rfl, ?_⟩
  exact hk h24 ((((((k1.tr k3).tr k5).tr k6).tr k8).tr k10).tr k24)
theorem like_eq2 {W W' V V' : Nat → Prop} {h h' h2 h3 : Heap} {kind kind' : Int} {x x' : Hs} {t u : Tr} {r q : Rt} {l l' m m' : List Pr} (i : TreeIs W h kind x t l) (i' : TreeIs W' h' kind' x' u l') (j : RefIs V h2 kind x r m) (j' : RefIs V' h3 kind' x' q m') : likeB t u = likeR r q := by
  obtain ⟨s, rfl, _⟩ := j
  obtain ⟨s', rfl, _⟩ := j'
  rcases i with ⟨rfl, b, rfl, _⟩ | ⟨rfl, b, rfl, _⟩ <;> rcases i' with ⟨rfl, b', rfl, _⟩ | ⟨rfl, b', rfl, _⟩ <;> simp [likeB, likeR, hx, Bool.and_assoc]
theorem fewC_len (l : List Ch) : (fewC l).length ≤ 20 := by unfold fewC; rw [List.length_map, List.length_take]; omega
set_option maxHeartbeats 1000000 in
set_option maxRecDepth 100000 in
theorem diffKinds_ok {h : Heap} {k o : Int} {x y : Hs} {s sc sd : SliceV} {l : List Pr} {c d : List Ch} {same : Bool} (hs : Sl prF 2 No h s l) (hl : l.length ≤ 9223372036854775807) (hc : Sl chF 5 No h sc c) (hcl : c.length ≤ 9223372036854775807) (hd : Sl chF 5 No h sd d) (hdl : d.length ≤ 9223372036854775807)
    (hk0 : 0 ≤ k) (hk1 : k ≤ 255) (ho0 : 0 ≤ o) (ho1 : o ≤ 255) :
    HC PG f_l17_DiffKinds [.int .u8 k, .int .u8 o, .agg #[.int .u64 x.k0, .int .u64 x.k1, .int .u64 x.mask], .agg #[.int .u64 y.k0, .int .u64 y.k1, .int .u64 y.mask], .slice s.a s.len s.cap, .slice sc.a sc.len sc.cap, .slice sd.a sd.len sd.cap, .bool same] [.c .bool] (fun b h' => b = true ∧ Upd No h h') h := by
  refine H_l17_DiffKinds k o (x.k0, x.k1, x.mask) (y.k0, y.k1, y.mask) s sc sd same ?_
  unfold F_l17_DiffKinds cAt
  refine at_new fun h1 b1 k1 => at_new fun h2 b2 k2 => awake17_ok fun h4 k4 => condP_false.2 ?_
  have c4 := (k2.tr k4).get0 b1
  have d4 := k4.get0 b2
  refine ⟨_, vc c4 0, _, vc c4 1, _, vc c4 2, ?_⟩
  refine begun17_ok (W := No) (x := x) hk0 hk1 (fun _ h => h.elim) fun h9 t r i9 j9 k9 => ?_
  generalize IntKind.wrap .i64 (Int.tmod k 2) = kind at i9 j9
  refine at_new fun h10 b10 k10 => at_new fun h11 b11 k11 => ?_
  have z10 := get_lt b10
  have z11 := get_lt b11
  have s10 : h9.size ≤ h10.size := k10.size
  refine setAll (c := trL tr0) (vs := trL t) (k11.get0 b10) rfl fun h12 b12 hu12 => ?_
  refine setAll (c := rtL rt0) (vs := rtL r) (hu12.oth b11 (by omega)) rfl fun h13 b13 hu13 => ?_
  have k913 : Upd No h9 h13 := ((k10.tr k11).own hu12 (Nat.le_refl _)).own hu13 s10
  have t13 := hu13.oth b12 (by omega)
  have d13 := k913.get0 (k9.get0 d4)
  refine ⟨_, vc d13 0, _, vc d13 1, _, vc d13 2, ?_⟩
  refine begun17_ok (W := No) (x := y) ho0 ho1 (fun _ h => h.elim) fun h18 u q i18 j18 k18 => ?_
  generalize IntKind.wrap .i64 (Int.tmod o 2) = kind' at i18 j18
  refine at_new fun h19 b19 k19 => at_new fun h20 b20 k20 => ?_
  have z19 := get_lt b19
  have z20 := get_lt b20
  have s19 : h18.size ≤ h19.size := k19.size
  refine setAll (c := trL tr0) (vs := trL u) (k20.get0 b19) rfl fun h21 b21 hu21 => ?_
  refine setAll (c := rtL rt0) (vs := rtL q) (hu21.oth b20 (by omega)) rfl fun h22 b22 hu22 => ?_
  have k1822 : Upd No h18 h22 := ((k19.tr k20).own hu21 (Nat.le_refl _)).own hu22 s19
  have t22 := k1822.get0 (k18.get0 t13)
  have r22 := k1822.get0 (k18.get0 b13)
  have u22 := hu22.oth b21 (by omega)
  have k022 : Upd No h h22 := ((((((k1.tr k2).tr k4).tr k9).tr k913).tr k18).tr k1822)
  refine ⟨_, vc t22 0, _, vc t22 1, _, vc t22 2, _, vc t22 3, _, vc t22 4, _, vc t22 5, _, vc r22 0, _, vc r22 1, _, vc r22 2, _, vc r22 3, r.2.2.2.2, vc r22 4, ?_⟩
  have k922 := (k913.tr k18).tr k1822
  refine grown0_ok (W := No) (i9.upd0 k922) (j9.upd0 k922) few_nil (by omega) (hs.upd k022 fun _ h => h.elim) (fun _ h => h.elim) hl fun h35 ta ra i35 j35 k35 => ?_
  refine at_new fun h36 b36 k36 => at_new fun h37 b37 k37 => ?_
  have z36 := get_lt b36
  have z37 := get_lt b37
  have s36 : h35.size ≤ h36.size := k36.size
  refine setAll (c := trL tr0) (vs := trL ta) (k37.get0 b36) rfl fun h38 b38 hu38 => ?_
  refine setAll (c := rtL rt0) (vs := rtL ra) (hu38.oth b37 (by omega)) rfl fun h39 b39 hu39 => ?_
  have k3539 : Upd No h35 h39 := ((k36.tr k37).own hu38 (Nat.le_refl _)).own hu39 s36
  have a39 := hu39.oth b38 (by omega)
  have k2239 := k35.tr k3539
  have u39 := k2239.get0 u22
  have q39 := k2239.get0 b22
  refine ⟨_, vc u39 0, _, vc u39 1, _, vc u39 2, _, vc u39 3, _, vc u39 4, _, vc u39 5, _, vc q39 0, _, vc q39 1, _, vc q39 2, _, vc q39 3, q.2.2.2.2, vc q39 4, ?_⟩
  have k1839 := k1822.tr k2239
  refine grown0_ok (W := No) (i18.upd0 k1839) (j18.upd0 k1839) few_nil (by omega) (hs.upd (k022.tr k2239) fun _ h => h.elim) (fun _ h => h.elim) hl fun h52 tb rb i52 j52 k52 => ?_
  refine at_new fun h53 b53 k53 => at_new fun h54 b54 k54 => ?_
  have z53 := get_lt b53
  have z54 := get_lt b54
  have s53 : h52.size ≤ h53.size := k53.size
  refine setAll (c := trL tr0) (vs := trL tb) (k54.get0 b53) rfl fun h55 b55 hu55 => ?_
  refine setAll (c := rtL rt0) (vs := rtL rb) (hu55.oth b54 (by omega)) rfl fun h56 b56 hu56 => ?_
  have k5256 : Upd No h52 h56 := ((k53.tr k54).own hu55 (Nat.le_refl _)).own hu56 s53
  have u56 := hu56.oth b55 (by omega)
  have k3956 := k52.tr k5256
  have a56 := k3956.get0 a39
  refine ⟨_, vc a56 0, _, vc a56 1, _, vc a56 2, _, vc a56 3, _, vc a56 4, _, vc a56 5, _, vc u56 0, _, vc u56 1, _, vc u56 2, _, vc u56 3, _, vc u56 4, _, vc u56 5, ?_⟩
  have iA := i35.upd0 (k3539.tr k3956)
  have iB := i52.upd0 k5256
  have fw := few_grown few_nil l
  have fwl := fw.len
  have hlk : likeB ta tb = likeR r q := like_eq2 iA iB j9 j18
  have kall : Upd No h h56 := (k022.tr k2239).tr k3956
  have r56 := (k2239.tr k3956).get0 r22
  have q56 := k3956.get0 q39
  -- what diff.Of answers
  refine HC.mono (ks := [.c .slice, .c (.int .i64)]) (K := fun (v : SliceV × Int) h70 => Upd No h56 h70 ∧ v.1.len = 0 ∧ (v.2 == (11 : Int)) = !(likeR r q)) ?_ ?_
  · refine diffOf_ok iA iB fw.up fw.fits (by omega) fw.up fw.fits (by omega) (fun _ => by rw [chg_self]; decide) (fun e h70 k70 => ⟨k70, rfl, ?_⟩) fun e h70 s70 ho k70 => ⟨k70, ?_, ?_⟩
    · rw [← hlk, e]; rfl
    · have := ho.len
      rw [chg_self] at this
      exact this
    · rw [← hlk, e]; rfl
  rintro ⟨s69, e69⟩ h70 ⟨k70, hlen69, he69⟩
  simp only at hlen69 he69
  have k070 := kall.tr k70
  refine few17_ok (hc.upd k070 fun _ h => h.elim) hcl fun s71 h72 ho72 k72 => ?_
  refine few17_ok (hd.upd (k070.tr k72) fun _ h => h.elim) hdl fun s73 h74 ho74 k74 => ?_
  have hc74 : Sl chF 5 No h74 s71 (fewC c) := (ho72.sl fun _ _ _ h => h).upd k74 fun _ h => h.elim
  refine Join.intro (fun ts h79 => ∃ D, Sl chF 5 No h79 ts D ∧ D.length ≤ 20 ∧ Upd No h74 h79) (fun R hR => ?_) ?_
  · refine CondP.intro (fun _ => ?_) fun _ => ?_
    · refine few17_ok hc74 (by have := fewC_len c; omega) fun s76 h77 ho77 k77 => hR _ _ ⟨_, ho77.sl fun _ _ _ h => h, fewC_len _, k77⟩
    · exact hR _ _ ⟨_, ho74.sl fun _ _ _ h => h, fewC_len _, Upd.refl _ _⟩
  rintro ts h79 ⟨D, hD, hDl, k79⟩
  have hC := hc74.upd k79 fun _ h => h.elim
  have hCl := fewC_len c
  have k5679 := ((k70.tr k72).tr k74).tr k79
  have r79 := k5679.get0 r56
  have q79 := k5679.get0 q56
  refine ⟨_, vc r79 0, _, vc r79 1, _, vc r79 2, _, vc r79 3, r.2.2.2.2, vc r79 4, _, vc q79 0, _, vc q79 1, _, vc q79 2, _, vc q79 3, q.2.2.2.2, vc q79 4, ?_⟩
  refine rLike_ok (r := r) (q := q) fun h91 k91 => ?_
  simp only
  rw [he69, beq_self_eq_true]
  refine condP_true.2 ?_
  rw [hlen69]
  refine condP_true.2 ?_
  have hC1 := hC.upd k91 fun _ h => h.elim
  have hD1 := hD.upd k91 fun _ h => h.elim
  refine diffSame_ok hC1 hD1 (by omega) ?_
  refine changes17_ok hC1 (by omega) fun s94 h95 ho95 k95 => ?_
  refine changes17_ok (hD1.upd k95 fun _ h => h.elim) (by omega) fun s96 h97 ho97 k97 => ?_
  have hc97 : Sl chF 5 No h97 s94 (fewC c) := (ho95.sl fun _ _ _ h => h).upd k97 fun _ h => h.elim
  refine same17_ok hc97 (ho97.sl (W := No) fun _ _ _ h => h) (by omega) ?_
  rw [beq_self_eq_true]
  refine condP_true.2 ?_
  have hC2 := hC1.upd (k95.tr k97) fun _ h => h.elim
  refine invert_ok hC2 (by omega) fun s100 h101 ho101 k101 => ?_
  refine invert_ok (ho101.sl (W := No) fun _ _ _ h => h) (by rw [List.length_map]; omega) fun s102 h103 ho103 k103 => ?_
  refine diffSame_ok (ho103.sl (W := No) fun _ _ _ h => h) (hC2.upd (k101.tr k103) fun _ h => h.elim) (by rw [List.length_map, List.length_map]; omega) ⟨?_, ?_⟩
  · rw [List.map_map]
    refine decide_eq_true ?_
    conv => rhs; rw [← List.map_id (fewC c)]
    exact List.map_congr_left fun c _ => inv_inv c
  · exact ((((((kall.tr k5679).tr k91).tr k95).tr k97).tr k101).tr k103)
end Go.Proofs
