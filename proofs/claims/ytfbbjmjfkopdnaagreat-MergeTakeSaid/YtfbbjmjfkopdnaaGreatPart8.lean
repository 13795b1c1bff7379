/- A part of the proof that the named laws of this program answer true, whatever the input. -/
import Derived.Test.YtfbbjmjfkopdnaaGreatPart7
import Derived.Test.YtfbbjmjfkopdnaaGreatPart3
import Derived.Test.YtfbbjmjfkopdnaaGreatPart6
import Derived.Test.YtfbbjmjfkopdnaaGreatPart5
namespace Go.Proofs
open Go Go.Lift
theorem kl_data {a b : ByteArray} : kl a b ↔ Op.bytesLess a.data.toList b.data.toList = true := by unfold kl; rw [ByteArray.toList_eq, ByteArray.toList_eq]
theorem bl_cons {a b : UInt8} {x y : List UInt8} : Op.bytesLess (a :: x) (b :: y) = true ↔ a.toNat < b.toNat ∨ (a = b ∧ Op.bytesLess x y = true) := by
  simp only [Op.bytesLess, Bool.or_eq_true, decide_eq_true_iff, Bool.and_eq_true, beq_iff_eq, UInt8.lt_iff_toNat_lt]
theorem bl_nil (x : List UInt8) : Op.bytesLess x [] = false := by cases x <;> rfl
theorem bl_app {x y : List UInt8} : ∀ pre : List UInt8, Op.bytesLess (pre ++ x) (pre ++ y) = true ↔ Op.bytesLess x y = true
  | [] => Iff.rfl
  | a :: pre => by rw [List.cons_append, List.cons_append, bl_cons, bl_app pre]; simp
theorem bl_hd {x y : List UInt8} (h : Op.bytesLess x y = true) (hx : x ≠ []) (hy : y ≠ []) : hd x ≤ hd y := by
  match x, y, hx, hy with
  | a :: x, b :: y, _, _ =>
    show a.toNat ≤ b.toNat
    rcases bl_cons.1 h with h | ⟨rfl, _⟩ <;> omega
theorem sandwich : ∀ (t : Nat) {f p g : List UInt8}, t ≤ cm f g → (f = p ∨ Op.bytesLess f p = true) → (p = g ∨ Op.bytesLess p g = true) → p.take t = f.take t ∧ t ≤ p.length
  | 0, f, p, g, _, _, _ => by simp
  | t + 1, [], p, g, h, _, _ => by simp [cm] at h
  | t + 1, a :: f, p, [], h, _, _ => by simp [cm] at h
  | t + 1, a :: f, p, b :: g, h, h1, h2 => by
    unfold cm at h
    split at h
    · rename_i e
      subst e
      rcases p with _ | ⟨c, p⟩
      · rcases h1 with h1 | h1
        · cases h1
        · rw [bl_nil] at h1; cases h1
      · have hc : c = a := by
          rcases h1 with h1 | h1
          · exact (List.cons.inj h1).1.symm
          · rcases h2 with h2 | h2
            · exact (List.cons.inj h2).1
            · have q1 := bl_cons.1 h1
              have q2 := bl_cons.1 h2
              rcases q1 with q1 | ⟨q1, _⟩
              · rcases q2 with q2 | ⟨q2, _⟩
                · omega
                · exact q2
              · exact q1.symm
        subst hc
        have := sandwich t (f := f) (p := p) (g := g) (by omega) (h1.imp (fun h => (List.cons.inj h).2) fun h => by
          rcases bl_cons.1 h with h | ⟨_, h⟩
          · omega
          · exact h) (h2.imp (fun h => (List.cons.inj h).2) fun h => by
          rcases bl_cons.1 h with h | ⟨_, h⟩
          · omega
          · exact h)
        rw [List.take_succ_cons, List.take_succ_cons, this.1, List.length_cons]
        exact ⟨rfl, by omega⟩
    · omega
theorem cm_self : ∀ f : List UInt8, cm f f = f.length
  | [] => rfl
  | a :: f => by unfold cm; rw [if_pos rfl, cm_self f]; rfl
abbrev ky (p : Pr) : List UInt8 := p.1.data.toList
def Got (l : List Pr) (pre k : List UInt8) (v : ByteArray) : Prop := ∃ p ∈ l, ky p = pre ++ k ∧ p.2 = v
structure Beg (l : List Pr) (pre : List UInt8) : Prop where
  up : Rises l
  at_ : ∀ p ∈ l, (ky p).take pre.length = pre ∧ pre.length < (ky p).length
theorem Beg.sub {l l' : List Pr} {pre : List UInt8} (b : Beg l pre) (h : l'.Sublist l) : Beg l' pre := ⟨b.up.sublist h, fun p hp => b.at_ p (h.subset hp)⟩
theorem Beg.split {l : List Pr} {pre : List UInt8} (b : Beg l pre) {p : Pr} (hp : p ∈ l) : ky p = pre ++ (ky p).drop pre.length ∧ (ky p).drop pre.length ≠ [] := by
  obtain ⟨h1, h2⟩ := b.at_ p hp
  refine ⟨?_, fun e => ?_⟩
  · conv => lhs; rw [← List.take_append_drop pre.length (ky p), h1]
  · have := congrArg List.length e
    rw [List.length_drop, List.length_nil] at this; omega
def bt (n : Nat) (p : Pr) : Nat := hd ((ky p).drop n)
theorem Beg.mono {A B : List Pr} {pre : List UInt8} (b : Beg (A ++ B) pre) {x y : Pr} (hx : x ∈ A) (hy : y ∈ B) : bt pre.length x ≤ bt pre.length y := by
  have h := (List.pairwise_append.1 b.up).2.2 x hx y hy
  rw [kl_data] at h
  obtain ⟨e1, n1⟩ := b.split (List.mem_append_left B hx)
  obtain ⟨e2, n2⟩ := b.split (List.mem_append_right A hy)
  change Op.bytesLess (ky x) (ky y) = true at h
  rw [e1, e2, bl_app] at h
  exact bl_hd h n1 n2
theorem branch_pl {l : List Pr} {pre : List UInt8} {f g : Pr} (b : Beg l pre) (hf : ∃ r, l = f :: r) (hg : l.getLast? = some g) (hb : bt pre.length f = bt pre.length g) :
    pre.length < cm (ky f) (ky g) ∧ cm (ky f) (ky g) ≤ (ky f).length ∧ (∀ p ∈ l, (ky p).take (cm (ky f) (ky g)) = (ky f).take (cm (ky f) (ky g))) ∧ (∀ p ∈ l, p = f ∨ cm (ky f) (ky g) < (ky p).length) ∧
      (cm (ky f) (ky g) < (ky f).length → cm (ky f) (ky g) < (ky g).length ∧ hd ((ky f).drop (cm (ky f) (ky g))) ≠ hd ((ky g).drop (cm (ky f) (ky g)))) := by
  obtain ⟨r, rfl⟩ := hf
  have hfm : f ∈ f :: r := List.mem_cons_self ..
  have hgm : g ∈ f :: r := List.mem_of_getLast? hg
  obtain ⟨e1, n1⟩ := b.split hfm
  obtain ⟨e2, n2⟩ := b.split hgm
  have hcp : pre.length < cm (ky f) (ky g) := by
    have : ∀ (q x y : List UInt8), cm (q ++ x) (q ++ y) = q.length + cm x y := by
      intro q x y
      induction q with
      | nil => simp
      | cons a q ih => simp only [List.cons_append, cm, if_true, ih, List.length_cons]; omega
    have h1 := this pre ((ky f).drop pre.length) ((ky g).drop pre.length)
    rw [← e1, ← e2] at h1
    have h2 := cm_pos n1 n2 hb
    omega
  have hle := cm_le (ky f) (ky g)
  have hfp : ∀ p ∈ f :: r, ky f = ky p ∨ Op.bytesLess (ky f) (ky p) = true := fun p hp => by
    rcases List.mem_cons.1 hp with rfl | hp
    · exact .inl rfl
    · exact .inr (kl_data.1 ((List.pairwise_cons.1 b.up).1 p hp))
  have hpg : ∀ p ∈ f :: r, ky p = ky g ∨ Op.bytesLess (ky p) (ky g) = true := fun p hp => by
    rcases List.eq_nil_or_concat (f :: r) with h | ⟨l', y, h⟩
    · cases h
    · rw [List.concat_eq_append] at h
      rw [h, List.getLast?_concat] at hg
      cases hg
      have hup := b.up
      rw [h] at hp hup
      rcases List.mem_append.1 hp with hp | hp
      · exact .inr (kl_data.1 ((List.pairwise_append.1 hup).2.2 p hp g (List.mem_singleton.2 rfl)))
      · rw [List.mem_singleton.1 hp]; exact .inl rfl
  have hsw : ∀ p ∈ f :: r, (ky p).take (cm (ky f) (ky g)) = (ky f).take (cm (ky f) (ky g)) ∧ cm (ky f) (ky g) ≤ (ky p).length := fun p hp => sandwich _ (Nat.le_refl _) (hfp p hp) (hpg p hp)
  have hne : ∀ p ∈ f :: r, p = f ∨ cm (ky f) (ky g) < (ky p).length := fun p hp => by
    obtain ⟨h1, h2⟩ := hsw p hp
    rcases Nat.lt_or_ge (cm (ky f) (ky g)) (ky p).length with h | h
    · exact .inr h
    · left
      have hl : (ky p).length = cm (ky f) (ky g) := by omega
      have e : ky p = (ky f).take (cm (ky f) (ky g)) := by rw [← h1, ← hl, List.take_length]
      rcases List.mem_cons.1 hp with rfl | hp
      · rfl
      · have hk := kl_data.1 ((List.pairwise_cons.1 b.up).1 p hp)
        change Op.bytesLess (ky f) (ky p) = true at hk
        exfalso
        have e3 : ky f = ky p ++ (ky f).drop (cm (ky f) (ky g)) := by rw [e, List.take_append_drop]
        have h4 : Op.bytesLess (ky p ++ (ky f).drop (cm (ky f) (ky g))) (ky p ++ []) = true := by rw [List.append_nil, ← e3]; exact hk
        rw [bl_app, bl_nil] at h4; cases h4
  refine ⟨hcp, hle.1, fun p hp => (hsw p hp).1, hne, fun hlt => ?_⟩
  have hgl : cm (ky f) (ky g) < (ky g).length := by
    rcases hne g hgm with h | h
    · exfalso
      rw [h, cm_self] at hlt; omega
    · exact h
  exact ⟨hgl, cm_drop _ _ hlt hgl⟩
theorem branch_can {l l' : List Pr} {pre : List UInt8} {f g : Pr} (b : Beg l pre) (hf : ∃ r, l = f :: r) (hg : l.getLast? = some g) (hb : bt pre.length f = bt pre.length g) {F : Fo} (hc : CanF F)
    (hl' : l' = if (ky f).length = cm (ky f) (ky g) then l.drop 1 else l) (hF : ∀ k v, InF F k v ↔ Got l' ((ky f).take (cm (ky f) (ky g))) k v) {w : Option ByteArray} (hw : w = if (ky f).length = cm (ky f) (ky g) then some f.2 else none) {lab : List UInt8} (hlab : lab = ((ky f).take (cm (ky f) (ky g))).drop pre.length) :
    CanN (lab, w, F) ∧ hd lab = bt pre.length f ∧ ∀ k v, InN (lab, w, F) k v ↔ Got l pre k v := by
  obtain ⟨h1, h2, h3, h4, h5⟩ := branch_pl b hf hg hb
  obtain ⟨r, rfl⟩ := hf
  have hfm : f ∈ f :: r := List.mem_cons_self ..
  have hgm : g ∈ f :: r := List.mem_of_getLast? hg
  generalize cm (ky f) (ky g) = to at *
  have epre : pre ++ lab = (ky f).take to := by
    have := (b.at_ f hfm).1
    rw [hlab]
    conv => rhs; rw [← List.take_append_drop pre.length ((ky f).take to), List.take_take, Nat.min_eq_left (by omega), this]
  have hlab0 : lab ≠ [] := fun e => by
    have := congrArg List.length hlab
    rw [e, List.length_nil, List.length_drop, List.length_take] at this; omega
  have hin : ∀ k v, InN (lab, w, F) k v ↔ Got (f :: r) pre k v := by
    intro k v
    constructor
    · rintro ⟨q, e, ⟨rfl, e2⟩ | e2⟩
      · simp only at e e2
        rw [List.append_nil] at e
        subst e
        rw [hw] at e2
        split at e2
        · rename_i hto
          cases e2
          refine ⟨f, hfm, ?_, rfl⟩
          rw [epre, ← hto, List.take_length]
        · cases e2
      · simp only at e e2
        obtain ⟨p, hp, e3, rfl⟩ := (hF q v).1 e2
        refine ⟨p, ?_, ?_, rfl⟩
        · rw [hl'] at hp
          split at hp
          · exact List.mem_cons_of_mem _ hp
          · exact hp
        · rw [e3, e, ← List.append_assoc, epre]
    · rintro ⟨p, hp, e, rfl⟩
      have hpt := h3 p hp
      have ep : ky p = pre ++ (lab ++ (ky p).drop to) := by
        rw [← List.append_assoc, epre, ← hpt, List.take_append_drop]
      have ek : k = lab ++ (ky p).drop to := List.append_cancel_left (e.symm.trans ep)
      refine ⟨(ky p).drop to, ek, ?_⟩
      by_cases hto : (ky f).length = to
      · rw [if_pos hto] at hw hl'
        rcases List.mem_cons.1 hp with rfl | hp
        · left
          refine ⟨List.drop_eq_nil_of_le (by omega), ?_⟩
          simp only; rw [hw]
        · right
          refine (hF _ _).2 ⟨p, by rw [hl']; exact hp, ?_, rfl⟩
          rw [← hpt, List.take_append_drop]
      · rw [if_neg hto] at hw hl'
        right
        refine (hF _ _).2 ⟨p, by rw [hl']; exact hp, ?_, rfl⟩
        rw [← hpt, List.take_append_drop]
  refine ⟨⟨hlab0, ?_, hc⟩, ?_, hin⟩
  · by_cases hto : (ky f).length = to
    · left; simp only; rw [hw, if_pos hto]; rfl
    · have hlt : to < (ky f).length := by omega
      obtain ⟨hgl, hne⟩ := h5 hlt
      refine (br_iff hc).2 (.inr ⟨(ky f).drop to, (ky g).drop to, f.2, g.2, .inr ?_, .inr ?_, fun e => ?_, fun e => ?_, hne⟩)
      · exact (hF _ _).2 ⟨f, by rw [hl', if_neg hto]; exact hfm, (List.take_append_drop ..).symm, rfl⟩
      · exact (hF _ _).2 ⟨g, by rw [hl', if_neg hto]; exact hgm, by rw [← h3 g hgm, List.take_append_drop], rfl⟩
      · have := congrArg List.length e
        rw [List.length_drop, List.length_nil] at this; omega
      · have := congrArg List.length e
        rw [List.length_drop, List.length_nil] at this; omega
  · have e := (b.split hfm).1
    unfold bt
    have e2 : (ky f).drop pre.length = lab ++ (ky f).drop to := by
      have h6 : ky f = pre ++ (lab ++ (ky f).drop to) := by rw [← List.append_assoc, epre, List.take_append_drop]
      conv => lhs; rw [h6]
      rw [List.drop_left]
    rw [e2, hd_app hlab0]
structure Row (L : List Bn) (D T : List Pr) (pre : List UInt8) : Prop where
  can : ∀ n ∈ L, CanN n
  up : L.Pairwise fun m n => hd m.1 < hd n.1
  lo : ∀ n ∈ L, ∀ p ∈ T, hd n.1 < bt pre.length p
  got : ∀ k v, (∃ n ∈ L, InN n k v) ↔ Got D pre k v
theorem Row.nil (T : List Pr) (pre : List UInt8) : Row [] [] T pre := ⟨fun n h => (by cases h), List.Pairwise.nil, fun n h => (by cases h), fun k v => ⟨fun ⟨n, h, _⟩ => (by cases h), fun ⟨p, h, _⟩ => (by cases h)⟩⟩
theorem Row.more {L : List Bn} {D A B : List Pr} {pre : List UInt8} {n : Bn} {p : Pr} (r : Row L D (A ++ B) pre) (bg : Beg (A ++ B) pre) (hp : p ∈ A) (hA : ∀ a ∈ A, bt pre.length a = bt pre.length p) (hB : ∀ b B', B = b :: B' → bt pre.length b ≠ bt pre.length p) (hc : CanN n) (hn : hd n.1 = bt pre.length p) (hg : ∀ k v, InN n k v ↔ Got A pre k v) : Row (L ++ [n]) (D ++ A) B pre := by
  refine ⟨fun m hm => ?_, List.pairwise_append.2 ⟨r.up, List.pairwise_singleton .., fun a ha b hb => ?_⟩, fun m hm q hq => ?_, fun k v => ?_⟩
  · rcases List.mem_append.1 hm with hm | hm
    · exact r.can m hm
    · rw [List.mem_singleton.1 hm]; exact hc
  · rw [List.mem_singleton.1 hb, hn]
    exact r.lo a ha p (List.mem_append_left _ hp)
  · rcases List.mem_append.1 hm with hm | hm
    · exact r.lo m hm q (List.mem_append_right _ hq)
    · rw [List.mem_singleton.1 hm, hn]
      rcases B with _ | ⟨b0, B'⟩
      · cases hq
      have h1 := hB b0 B' rfl
      have h2 := bg.mono hp (List.mem_cons_self (a := b0) (l := B'))
      rcases List.mem_cons.1 hq with rfl | hq
      · omega
      · have bg' : Beg ([b0] ++ B') pre := bg.sub (List.sublist_append_right A _)
        have := bg'.mono (List.mem_singleton.2 rfl) hq
        omega
  · constructor
    · rintro ⟨m, hm, hi⟩
      rcases List.mem_append.1 hm with hm | hm
      · obtain ⟨q, hq, e⟩ := (r.got k v).1 ⟨m, hm, hi⟩
        exact ⟨q, List.mem_append_left _ hq, e⟩
      · rw [List.mem_singleton.1 hm] at hi
        obtain ⟨q, hq, e⟩ := (hg k v).1 hi
        exact ⟨q, List.mem_append_right _ hq, e⟩
    · rintro ⟨q, hq, e⟩
      rcases List.mem_append.1 hq with hq | hq
      · obtain ⟨m, hm, hi⟩ := (r.got k v).2 ⟨q, hq, e⟩
        exact ⟨m, List.mem_append_left _ hm, hi⟩
      · exact ⟨n, List.mem_append_right _ (List.mem_singleton.2 rfl), (hg k v).2 ⟨q, hq, e⟩⟩
theorem Row.done {L : List Bn} {D : List Pr} {pre : List UInt8} (r : Row L D [] pre) : CanF (.ofL L) ∧ ∀ k v, InF (.ofL L) k v ↔ Got D pre k v := by
  refine ⟨canF_iff.2 ?_, fun k v => ?_⟩
  · rw [Fo.to_of]; exact ⟨r.up, r.can⟩
  · rw [inF_iff, Fo.to_of]; exact r.got k v
end Go.Proofs
namespace Go.Proofs
open Go Go.Lift
theorem ext_both (s : ByteArray) (a b : Nat) : (s.extract a b).data.toList = (s.data.toList.take b).drop a := by
  rw [ByteArray.data_extract, Array.toList_extract, List.extract_eq_take_drop, List.drop_take]
theorem keyLen (s : ByteArray) : s.data.toList.length = s.size := by simp
theorem Kid.less {W W' : Nat → Prop} {h : Heap} (hm : ∀ b, W' b → W b ∨ h.size ≤ b) {a : Option Addr} {n : Bn} : Kid W h a n → Kid W' h a n
  | ⟨b, sl, e1, e2, e3⟩ => ⟨b, sl, e1, e2, e3.less hm⟩
theorem Kid.updM {W M : Nat → Prop} {h h' : Heap} (k : Upd M h h') (hm : ∀ b, M b → W b ∨ h.size ≤ b) {a : Option Addr} {n : Bn} : Kid W h a n → Kid W h' a n
  | ⟨b, sl, e1, e2, e3⟩ => ⟨b, sl, e1, e2, e3.updM k hm⟩
theorem RxL.less {W W' : Nat → Prop} {h : Heap} (hm : ∀ b, W' b → W b ∨ h.size ≤ b) {ks : List (Option Addr)} {L : List Bn} (r : RxL W h ks L) : RxL W' h ks L := ⟨r.1, fun p hp => (r.2 p hp).less hm⟩
theorem RxL.updM {W M : Nat → Prop} {h h' : Heap} (k : Upd M h h') (hm : ∀ b, M b → W b ∨ h.size ≤ b) {ks : List (Option Addr)} {L : List Bn} (r : RxL W h ks L) : RxL W h' ks L := ⟨r.1, fun p hp => (r.2 p hp).updM k hm⟩
theorem byteAt {p : Pr} {n : Nat} (h : n < (ky p).length) : ∃ b : UInt8, p.1[n]? = some b ∧ b.toNat = bt n p := by
  rw [getB]
  refine ⟨(ky p)[n], List.getElem?_eq_getElem h, ?_⟩
  unfold bt hd
  rw [List.drop_eq_getElem_cons h]; rfl
theorem append1r {M : Nat → Prop} {h : Heap} {so : SliceV} {out : List (Option Addr)} {p : Option Addr} {K : SliceV → Heap → Prop} (ho : OwnS rxF 1 t_P_radix_Node M h so out) (hM : ∀ b, h.size ≤ b → M b) (hn : out.length + 1 ≤ 1000000000)
    (hk : ∀ s' h', OwnS rxF 1 t_P_radix_Node M h' s' (out ++ [p]) → Upd M h h' → K s' h') :
    ∃ xs, SRow (hnew h [.pointer p] t_P_radix_Node) (some (newA h)) (1 * 1) xs ∧ AppP (some [.pointer none]) 1 8 t_P_radix_Node so.a so.len so.cap 1 xs (hnew h [.pointer p] t_P_radix_Node) K := by
  have k := Upd.hnew No h [.pointer p] t_P_radix_Node
  have h1 : OwnS rxF 1 t_P_radix_Node (fun _ => True) (hnew h [.pointer p] t_P_radix_Node) ⟨some (newA h), 1, 1⟩ [p] := ⟨rfl, rxF_ne, Nat.le_refl _, .inr ⟨h.size, [], rfl, trivial, hnew_get .., rfl⟩⟩
  refine ⟨_, (h1.sl (W := No) fun _ _ _ h => h).srow, ?_⟩
  refine AppP.own (ys := [p]) (ho.upd k fun _ _ h => h) rfl rfl rfl rfl (by omega) (by simp only [List.length_singleton]; omega) (hM _ (by rw [hnew_size]; omega)) fun s' h' ho' hu => ?_
  exact hk s' h' ho' ((Upd.hnew M h _ _).tr hu)
theorem rxMake_ok {W : Nat → Prop} {h : Heap} {s : SliceV} {ks : List (Option Addr)} {L : List Bn} (hs : Sl rxF 1 No h s ks) (hL : RxL W h ks L) (hn : L.length ≤ 100000) (hW : ∀ y, W y → y < h.size) {label value : ByteArray} {has : Bool} {K : Option Addr → Heap → Prop}
    (hk : ∀ h' b, RxN W h' b label (if has then some value else none) (.ofL L) → Upd No h h' → K (some ⟨b, 0, none⟩) h') : HC PG f_radix_Make [.string label, .bool has, .string value, .slice s.a s.len s.cap] [.c .ptr] K h := by
  refine H_radix_Make label has value s ?_
  unfold F_radix_Make cAt iBd
  refine at_new fun h1 b1 k1 => ?_
  have z1 := get_lt b1
  have hlen := hs.len
  have hLl := hL.1
  refine Join.intro (fun _ h' => ∃ val, h'[h.size]? = some (.cells (rxC label has val ⟨none, 0, 0⟩ none) t_radix_Node (0, 0)) ∧ (has = true → val = value) ∧ Upd No h h') (fun R hR => ?_) ?_
  · cases has with
    | true => exact condP_true.2 ⟨_, rfl, vset (i := 2) (c' := rxC label true value ⟨none, 0, 0⟩ none) b1 (show 2 < 5 by decide) rfl fun h2 b2 hu2 => hR _ _ ⟨_, b2, fun _ => rfl, k1.own hu2 (Nat.le_refl _)⟩⟩
    | false => exact condP_false.2 (hR _ _ ⟨_, b1, fun h => (by cases h), k1⟩)
  rintro _ h2 ⟨val, b2, hval, k2⟩
  refine LoopP.ghost (fun (g : List (Option Addr) × List (Option Addr)) (t : Int) h' => t = (g.1.length : Int) ∧ ks = g.1 ++ g.2 ∧ (∃ so, h'[h.size]? = some (.cells (rxC label has val so none) t_radix_Node (0, 0)) ∧ OwnS rxF 1 t_P_radix_Node (fun y => h.size < y) h' so g.1) ∧ Upd No h h') (fun g => g.2.length) ([], ks)
    ⟨rfl, rfl, ⟨_, b2, OwnS.nil rxF_ne⟩, k2⟩ ?_
  rintro I ⟨K1, K2⟩ t h3 ⟨e1, e2, ⟨so, b3, ho3⟩, k3⟩ hI
  simp only at e1 e2 ho3
  subst e1 e2
  simp only [List.length_append] at hlen hLl
  have z3 := get_lt b3
  refine condP_dec (fun hlt => ?_) fun hge => ?_
  · rcases K2 with _ | ⟨kp, K2⟩
    · simp only [List.length_nil] at hlen; omega
    simp only [List.length_cons] at hlen hLl
    refine Join.intro (fun _ h' => (∃ so, h'[h.size]? = some (.cells (rxC label has val so none) t_radix_Node (0, 0)) ∧ OwnS rxF 1 t_P_radix_Node (fun y => h.size < y) h' so (K1 ++ [kp])) ∧ Upd No h h') (fun R hR => ?_) ?_
    · obtain ⟨kb, ksl, hki, _⟩ := hL.at (i := K1.length) (by omega)
      have hkp : kp = some ⟨kb, 0, none⟩ := by
        rw [List.getElem?_append_right (Nat.le_refl _), Nat.sub_self] at hki
        exact Option.some.inj hki
      obtain ⟨a, ha, _, hv⟩ := (hs.upd k3 fun _ h => h.elim).at0 (i := K1.length) (x := kp) (by rw [List.getElem?_append_right (Nat.le_refl _), Nat.sub_self]; rfl)
      refine ⟨⟨by omega, by omega⟩, a, ha, kp, hv, ?_⟩
      subst hkp
      refine condP_true.2 ⟨_, rfl, so, vc b3 3, at_intro ?_⟩
      refine append1r ho3 (fun b hb => by omega) (by omega) fun s4 h4 ho4 hu4 => ⟨_, rfl, ?_⟩
      have b4 := hu4.get b3 (by simp)
      refine vset (i := 3) (c' := rxC label has val s4 none) b4 (show 3 < 5 by decide) rfl fun h5 b5 hu5 => hR _ _ ⟨⟨s4, b5, ho4.upd hu5 fun x hx e => by have e : x = h.size := e; omega⟩, ?_⟩
      exact (k3.trans hu4 fun x hx => .inr (Nat.le_of_lt hx)).own hu5 (Nat.le_refl _)
    · rintro _ h4 ⟨⟨s4, b4, ho4⟩, k4⟩
      have ew : IntKind.wrap .i64 ((K1.length : Int) + 1) = ((K1 ++ [kp]).length : Int) := by rw [List.length_append, List.length_singleton, w64 (by omega)]; omega
      rw [ew]
      exact hI (K1 ++ [kp], K2) _ _ ⟨rfl, by simp, ⟨s4, b4, ho4⟩, k4⟩ (by simp)
  · have hK : K2 = [] := List.length_eq_zero_iff.1 (by omega)
    subst hK
    rw [List.append_nil] at hL
    refine hk h3 h.size ⟨val, so, none, K1, ?_, ?_, ho3.sl (fun x hx _ hw => by have := hW x hw; omega), ⟨ho3.cap, fun hw => by have := hW _ hw; omega⟩, rxF_iff.2 (by rw [Fo.to_of]; exact hL.upd0 k3)⟩ k3
    · cases has <;> exact b3
    · intro v hv
      cases has with
      | true => rw [hval rfl]; exact Option.some.inj hv
      | false => cases hv
def KidsC (B from_ : Nat) : Prop := ∀ {W : Nat → Prop} {h : Heap} {s : SliceV} {l : List Pr} {pre : List UInt8}, Sl prF 2 No h s l → s.len ≤ s.cap → Beg l pre → pre.length = from_ → (∀ p ∈ l, (ky p).length ≤ B) → l.length ≤ 100000 → (∀ y, W y → y < h.size) → ∀ {K : SliceV → Heap → Prop},
  (∀ h' s' ks L, OwnS rxF 1 t_P_radix_Node (fun y => h.size ≤ y) h' s' ks → RxL W h' ks L → Row L l [] pre → Upd No h h' → K s' h') → HC PG f_build_kids [.slice s.a s.len s.cap, .int .i64 (from_ : Int)] [.c .slice] K h
theorem branchB_ok {W : Nat → Prop} {B from_ : Nat} (hB : B ≤ 1000000) (hkids : ∀ to, from_ < to → KidsC B to) {h : Heap} {s : SliceV} {l r : List Pr} {f g : Pr} {pre : List UInt8} (hs : Sl prF 2 No h s l) (hcap : s.len ≤ s.cap) (bg : Beg l pre) (hpre : pre.length = from_) (hlB : ∀ p ∈ l, (ky p).length ≤ B) (hn : l.length ≤ 100000) (hW : ∀ y, W y → y < h.size)
    (hf : l = f :: r) (hg : l.getLast? = some g) (hb : bt from_ f = bt from_ g) {K : Option Addr → Heap → Prop}
    (hk : ∀ h' a n, Kid W h' a n → CanN n → hd n.1 = bt from_ f → (∀ k v, InN n k v ↔ Got l pre k v) → Upd No h h' → K a h') : HC PG f_build_branch [.slice s.a s.len s.cap, .int .i64 (from_ : Int)] [.c .ptr] K h := by
  refine H_build_branch s from_ ?_
  unfold F_build_branch cAt iBd
  subst hpre
  have hlen := hs.len
  have hl0 : 0 < l.length := by rw [hf]; simp
  have hfm : f ∈ l := by rw [hf]; exact List.mem_cons_self ..
  have hgm : g ∈ l := List.mem_of_getLast? hg
  obtain ⟨a, ha, _, hvf⟩ := hs.at (i := 0) (x := f) (by rw [hf]; rfl)
  obtain ⟨a', ha', _, hvg⟩ := hs.at (i := l.length - 1) (x := g) (by rw [← hg, List.getLast?_eq_getElem?])
  rw [ha] at ha'; cases ha'
  have ew : IntKind.wrap .i64 ((s.len : Int) - 1) = ((l.length - 1 : Nat) : Int) := by rw [w64 (by omega)]; omega
  refine ⟨⟨by omega, by omega⟩, a, ha, f.1, hvf 0 _ rfl, ?_⟩
  rw [ew]
  have hsf := hlB f hfm
  have hszf : f.1.size = (ky f).length := (keyLen f.1).symm
  refine ⟨⟨by omega, by omega⟩, a, ha, g.1, hvg 0 _ rfl, common_ok (by omega) ?_⟩
  obtain ⟨q1, q2, q3, q4, q5⟩ := branch_pl bg ⟨r, hf⟩ hg hb
  have hbc := @branch_can l (if (ky f).length = cm (ky f) (ky g) then l.drop 1 else l) pre f g bg ⟨r, hf⟩ hg hb
  obtain ⟨to, hto⟩ : ∃ to, cm (ky f) (ky g) = to := ⟨_, rfl⟩
  rw [hto] at q1 q2 q3 q4 hbc
  show _ ∧ _
  change (_ ∧ ∃ _, _ ∧ _)
  have hto' : cm f.1.data.toList g.1.data.toList = to := hto
  rw [hto']
  refine ⟨⟨by omega, by omega⟩, a, ha, f.1, hvf 0 _ rfl, ⟨by omega, by omega⟩, ⟨by omega, by rw [Int.toNat_natCast]; omega⟩, ⟨by omega, by omega⟩, a, ha, f.1, hvf 0 _ rfl, ?_⟩
  have ehas : ((f.1.size : Int) == (to : Int)) = decide ((ky f).length = to) := by
    rw [Bool.eq_iff_iff, beq_iff_eq, decide_eq_true_iff]; omega
  rw [ehas]
  have hlab : (f.1.extract (pre.length : Int).toNat (to : Int).toNat).data.toList = ((ky f).take to).drop pre.length := ext_both ..
  have hpl : ((ky f).take to).length = to := by rw [List.length_take]; omega
  refine Join.intro (fun (t : SliceV × ByteArray) h' => h' = h ∧ Sl prF 2 No h t.1 (if (ky f).length = to then l.drop 1 else l) ∧ t.1.len ≤ t.1.cap ∧ ((ky f).length = to → t.2 = f.2)) (fun R hR => ?_) ?_
  · refine condP_dec (fun e => ?_) fun e => ?_
    · refine ⟨⟨by omega, by omega⟩, a, ha, f.2, hvf 1 _ rfl, ⟨by omega, by omega⟩, hR _ _ ⟨rfl, ?_, by simp only; omega, fun _ => rfl⟩⟩
      rw [if_pos e]
      have := Sl.sub hs (l := 1) (hi := l.length) (m := s.cap) (c := s.cap - 1) (by omega) (Nat.le_refl _) (by omega)
      rw [List.take_of_length_le (by rw [List.length_drop]; omega), ← hlen] at this
      exact this
    · exact hR _ _ ⟨rfl, by rw [if_neg e]; exact hs, hcap, fun h => absurd h e⟩
  rintro ⟨s2, v2⟩ h' ⟨rfl, hs2, hc2, hv2⟩
  simp only at hs2 hc2 hv2
  have hsub : (if (ky f).length = to then l.drop 1 else l).Sublist l := by
    split
    · exact List.drop_sublist ..
    · exact List.Sublist.refl _
  have hbeg : Beg (if (ky f).length = to then l.drop 1 else l) ((ky f).take to) := by
    refine ⟨bg.up.sublist hsub, fun p hp => ?_⟩
    rw [hpl]
    refine ⟨q3 p (hsub.subset hp), ?_⟩
    rcases q4 p (hsub.subset hp) with e | h
    · subst e
      by_cases e2 : (ky p).length = to
      · rw [if_pos e2, hf] at hp
        have := (List.pairwise_cons.1 (hf ▸ bg.up)).1 p hp
        exact absurd this (kl_irrefl _)
      · omega
    · exact h
  refine hkids to q1 hs2 hc2 hbeg hpl (fun p hp => hlB p (hsub.subset hp)) (Nat.le_trans hsub.length_le hn) hW fun h3 s3 ks L ho3 hL3 hrow hu3 => ?_
  obtain ⟨hcF, hgF⟩ := hrow.done
  obtain ⟨hcn, hhd, hin⟩ := hbc (F := .ofL L) hcF rfl hgF rfl rfl
  have hLl : L.length ≤ 100000 := by
    have := can_len hcF
    rw [Fo.to_of] at this; omega
  refine rxMake_ok (W := W) (ho3.sl fun _ _ _ h => h) hL3 hLl (fun y hy => Nat.lt_of_lt_of_le (hW y hy) hu3.size) fun h4 b4 rn4 hu4 => ?_
  have ew2 : (if decide ((ky f).length = to) = true then some v2 else none) = if (ky f).length = to then some f.2 else none := by
    by_cases e : (ky f).length = to
    · rw [if_pos (decide_eq_true e), if_pos e, hv2 e]
    · rw [if_neg (by simpa using e), if_neg e]
  rw [ew2] at rn4
  exact hk h4 _ _ ⟨b4, _, rfl, hlab, rn4⟩ hcn hhd hin (hu3.tr hu4)
theorem kids_step {B from_ : Nat} (hB : B ≤ 1000000) (hkids : from_ ≤ B → ∀ to, from_ < to → KidsC B to) : KidsC B from_ := by
  intro W h s l pre hs hcap bg hpre hlB hn hW K hk
  refine H_build_kids s from_ ?_
  unfold F_build_kids cAt iBd
  refine at_new fun h1 b1 k1 => ?_
  subst hpre
  refine LoopP.ghost (fun (g : List Pr × List Pr × List (Option Addr) × List Bn × (Nat → Prop)) (t : SliceV × SliceV) h' => l = g.1 ++ g.2.1 ∧ Sl prF 2 (fun y => h.size ≤ y) h' t.1 g.2.1 ∧ t.1.len ≤ t.1.cap ∧ OwnS rxF 1 t_P_radix_Node g.2.2.2.2 h' t.2 g.2.2.1 ∧ (∀ y, g.2.2.2.2 y → h1.size ≤ y ∧ y < h'.size) ∧ RxL (fun y => W y ∨ g.2.2.2.2 y) h' g.2.2.1 g.2.2.2.1 ∧ Row g.2.2.2.1 g.1 g.2.1 pre ∧ Upd No h1 h') (fun g => g.2.1.length) ([], l, [], [], No)
    ⟨rfl, (hs.less (W' := fun y => h.size ≤ y) fun y hy => .inr hy).upd k1 fun _ h => h.elim, hcap, OwnS.nil rxF_ne, fun y hy => hy.elim, ⟨rfl, fun p hp => (by cases hp)⟩, Row.nil _ _, Upd.refl _ _⟩ ?_
  rintro I ⟨D, T, ks, L, Mo⟩ ⟨sT, so⟩ h4 ⟨e1, hsT, hcT, ho, hMo, hL, hrow, hu⟩ hI
  simp only at e1 hsT hcT ho hMo hL hrow
  subst e1
  have hlT := hsT.len
  simp only [List.length_append] at hn
  have bgT : Beg T pre := bg.sub (List.sublist_append_right D T)
  have k04 := k1.tr hu
  refine condP_dec (fun hgt => ?_) fun hle => ?_
  · rcases T with _ | ⟨p, T⟩
    · simp only [List.length_nil] at hlT; simp only at hgt; omega
    simp only [List.length_cons] at hlT hn
    have hpl := (bgT.at_ p (List.mem_cons_self ..)).2
    obtain ⟨b8, hb8, hb8e⟩ := byteAt hpl
    obtain ⟨a, ha, _, hv⟩ := hsT.at (i := 0) (x := p) rfl
    have c4 := hu.get0 b1
    refine ⟨⟨by omega, by simp only; omega⟩, a, ha, p.1, hv 0 _ rfl, _, vc0 c4, b8, by omega, hb8, ?_⟩
    refine at_new fun h9 b9 k9 => ?_
    have c9 := k9.get0 c4
    obtain ⟨a', ha', _, hv9⟩ := (hsT.upd k9 fun _ h => h.elim).at (i := 0) (x := p) rfl
    rw [ha] at ha'; cases ha'
    refine ⟨vc0 c9, hv9 0 _ rfl, at_cell b9 Nat.one_pos fun h10 b10 hu10 => ?_⟩
    have k410 : Upd No h4 h10 := k9.own hu10 (Nat.le_refl _)
    have c10 := k410.get0 c4
    refine indexP_ok (hsT.upd k410 fun _ h => h.elim) (by simp only [List.length_cons]; omega) (g := fun q => decide (bt pre.length q ≠ bt pre.length p)) (fun q hq h' K' hu' hK => ?_) fun h11 A Bt e hAB hA hBn hBc hu11 => ?_
    · refine HV.mk' (H_build_kids_1 q ⟨h.size, 0, none⟩ ⟨h4.size, 0, none⟩ ?_)
      unfold F_build_kids_1 cAt
      refine at_new fun h12 b12 k12 => ?_
      have k' := hu'.tr k12
      obtain ⟨bq, hbq, hbqe⟩ := byteAt (bgT.at_ q hq).2
      refine ⟨q.1, vc b12 0, _, vc0 (k'.get0 c10), bq, by omega, hbq, _, vc0 (k'.get0 b10), ?_⟩
      have eb : ((bq.toNat : Int) != (b8.toNat : Int)) = decide (bt pre.length q ≠ bt pre.length p) := by
        rw [Bool.eq_iff_iff, bne_iff_ne, decide_eq_true_iff]; omega
      rw [eb]
      exact hK h12 k12
    obtain ⟨A', rfl⟩ : ∃ A', A = p :: A' := by
      rcases A with _ | ⟨a0, A'⟩
      · have := (hBc p T (by rw [List.nil_append] at hAB; exact hAB.symm)).2
        simp at this
      · rw [List.cons_append] at hAB
        exact ⟨A', by rw [(List.cons.inj hAB).1]⟩
    have hcA : ∀ q ∈ p :: A', bt pre.length q = bt pre.length p := fun q hq => by simpa using hA q hq
    have hTA : p :: T = (p :: A') ++ Bt := hAB
    have hTl : T.length = A'.length + Bt.length := by
      have := congrArg List.length hTA
      simp only [List.length_cons, List.length_append] at this; omega
    have k411 := k410.tr hu11
    have k111 := hu.tr k411
    have c11 := hu11.get0 c10
    refine Join.intro (fun t h' => t = ((A'.length + 1 : Nat) : Int) ∧ h' = h11) (fun R1 hR1 => ?_) ?_
    · refine condP_dec (fun hneg => hR1 _ _ ⟨?_, rfl⟩) fun hpos => hR1 _ _ ⟨?_, rfl⟩
      · rcases Bt with _ | ⟨b0, B'⟩
        · have hTl : T.length = A'.length + 0 := hTl
          show ((sT.len : Nat) : Int) = _
          omega
        · have := (hBc b0 B' rfl).1
          simp only [List.length_cons] at this; omega
      · rcases Bt with _ | ⟨b0, B'⟩
        · have := hBn rfl; omega
        · have := (hBc b0 B' rfl).1
          simp only [List.length_cons] at this; exact this
    rintro t h' ⟨rfl, rfl⟩
    refine Join.intro (fun t h9 => ∃ ka n Mp, OwnS rxF 1 t_P_radix_Node Mp h9 t (ks ++ [ka]) ∧ (∀ y, Mp y → h1.size ≤ y ∧ y < h9.size) ∧ RxL (fun y => W y ∨ Mp y) h9 (ks ++ [ka]) (L ++ [n]) ∧ CanN n ∧ hd n.1 = bt pre.length p ∧ (∀ k v, InN n k v ↔ Got (p :: A') pre k v) ∧ Upd No h1 h9 ∧ Sl prF 2 (fun y => h.size ≤ y) h9 sT (p :: T)) (fun R1 hR1 => ?_) ?_
    · refine ⟨⟨by omega, by show ((A'.length + 1 : Nat) : Int) ≤ ((sT.cap : Nat) : Int); omega⟩, _, vc0 c11, ?_⟩
      have hsA := Sl.sub (hsT.upd k411 fun _ h => h.elim) (l := 0) (hi := A'.length + 1) (m := sT.cap) (c := sT.cap - 0) (Nat.zero_le _) (by simp only [List.length_cons]; omega) (by omega)
      have etk : ((p :: T).drop 0).take (A'.length + 1 - 0) = p :: A' := by
        rw [List.drop_zero, Nat.sub_zero, hTA]
        exact List.take_left' (by simp)
      rw [etk] at hsA
      obtain ⟨g, hg⟩ : ∃ g, (p :: A').getLast? = some g := ⟨_, List.getLast?_eq_some_getLast (by simp)⟩
      have hgm : g ∈ p :: A' := List.mem_of_getLast? hg
      have hsub : (p :: A').Sublist (D ++ p :: T) := by
        rw [hTA]
        exact (List.sublist_append_left _ _).trans (List.sublist_append_right D _)
      refine branchB_ok hB (hkids (by have := hlB p (by simp); omega)) (hsA.less fun _ h => h.elim) (by show A'.length + 1 - 0 ≤ sT.cap - 0; omega) (bg.sub hsub) rfl (fun q hq => hlB q (hsub.subset hq)) (by simp only [List.length_cons]; omega) (W := fun y => W y ∨ Mo y) (fun y hy => hy.elim (fun hy => Nat.lt_of_lt_of_le (hW y hy) (k04.tr k411).size) fun hy => Nat.lt_of_lt_of_le (hMo y hy).2 k411.size) rfl hg (hcA g hgm).symm fun h12 ka n kd hcn hhd hin hu12 => at_intro ?_
      have hu' := k411.tr hu12
      have z' := (hu.tr hu').size
      have hLn : L.length ≤ 256 := by
        rcases rises_len (c := 0) hrow.up fun _ _ => Nat.zero_le _ with e | e
        · rw [e]; simp
        · omega
      have hkl := hL.1
      have z12 := hu'.size
      refine append1r (M := fun y => Mo y ∨ h12.size ≤ y) ((ho.upd hu' fun _ _ h => h).more fun y hy => .inl hy) (fun b hb => .inr hb) (by omega) fun s13 h13 ho13 hu13 => hR1 _ _ ⟨ka, n, fun y => (Mo y ∨ h12.size ≤ y) ∧ y < h13.size, ho13.within, fun y hy => ⟨?_, hy.2⟩, ?_, hcn, hhd, hin, ?_, ?_⟩
      · rcases hy.1 with h | h
        · exact (hMo y h).1
        · omega
      · have hl : ∀ b, (W b ∨ ((Mo b ∨ h12.size ≤ b) ∧ b < h13.size)) → (W b ∨ Mo b) ∨ h12.size ≤ b := fun b hb => by
          rcases hb with h | ⟨h | h, _⟩
          · exact .inl (.inl h)
          · exact .inl (.inr h)
          · exact .inr h
        have hm : ∀ b, (Mo b ∨ h12.size ≤ b) → (W b ∨ ((Mo b ∨ h12.size ≤ b) ∧ b < h13.size)) ∨ h12.size ≤ b := fun b hb => by
          rcases hb with h | h
          · exact .inl (.inr ⟨.inl h, by have := (hMo b h).2; have := hu13.size; omega⟩)
          · exact .inr h
        exact (((hL.upd0 hu').app (RxL.one kd)).less hl).updM hu13 hm
      · exact (hu.tr hu').trans hu13 fun y hy => .inr (by
          rcases hy with h | h
          · exact (hMo y h).1
          · omega)
      · refine (hsT.upd hu' fun _ h => h.elim).upd hu13 fun b hb => .inl ?_
        have := k1.size
        rcases hb with h | h
        · have := (hMo b h).1; omega
        · omega
    · rintro s9 h9 ⟨ka, n, Mp, ho9, hMp, hL9, hcn, hhd, hin, hu9, hsT9⟩
      refine ⟨⟨by omega, by show ((A'.length + 1 : Nat) : Int) ≤ ((sT.len : Nat) : Int); omega⟩, ?_⟩
      rw [Int.toNat_natCast]
      have hsB := Sl.sub hsT9 (l := A'.length + 1) (hi := (p :: T).length) (m := sT.cap) (c := sT.cap - (A'.length + 1)) (by simp only [List.length_cons]; omega) (Nat.le_refl _) (by simp only [List.length_cons]; omega)
      have edr : ((p :: T).drop (A'.length + 1)).take ((p :: T).length - (A'.length + 1)) = Bt := by
        rw [hTA, List.drop_left' (by simp)]
        exact List.take_of_length_le (by simp)
      rw [edr] at hsB
      have elen : (p :: T).length - (A'.length + 1) = sT.len - (A'.length + 1) := by simp only [List.length_cons]; omega
      rw [elen] at hsB
      have hr' : Row (L ++ [n]) (D ++ (p :: A')) Bt pre := by
        rw [hTA] at hrow bgT
        exact hrow.more bgT (List.mem_cons_self ..) hcA (fun b B' e => by simpa using (hBc b B' e).2) hcn hhd hin
      refine hI (D ++ (p :: A'), Bt, ks ++ [ka], L ++ [n], Mp) _ _ ⟨by rw [hTA, List.append_assoc], hsB, by simp only; omega, ho9, hMp, hL9, hr', hu9⟩ ?_
      simp only [List.length_cons]; omega
  · have hT : T = [] := List.length_eq_zero_iff.1 (by simp only at hle; omega)
    subst hT
    rw [List.append_nil] at hk
    exact hk h4 so ks L (ho.more fun y hy => Nat.le_trans k1.size (hMo y hy).1) (hL.less fun y hy => .inl (.inl hy)) hrow k04
end Go.Proofs
namespace Go.Proofs
open Go Go.Lift
theorem kidsB_ok {B : Nat} (hB : B ≤ 1000000) : ∀ (n from_ : Nat), B < from_ + n → KidsC B from_
  | 0, _, h => kids_step hB fun h' => by omega
  | n + 1, from_, h => kids_step hB fun _ to hto => kidsB_ok hB n to (by omega)
theorem srt_sub {l : List Pr} {p : Pr} (h : p ∈ srtL l) : p ∈ l := lastK_mem (mem_srt.1 h)
theorem radixB_ok {W W0 : Nat → Prop} {h : Heap} {s : SliceV} {l : List Pr} (hs : Sl prF 2 W0 h s l) (hW : ∀ y, W y → y < h.size) (hn : l.length ≤ 100000) (hB : ∀ p ∈ l, p.1.size ≤ 1000000) {K : Option Addr → Heap → Prop}
    (hk : ∀ h' b, RadAt W h' b (srtL l) → Upd No h h' → K (some ⟨b, 0, none⟩) h') : HC PG f_build_Radix [.slice s.a s.len s.cap] [.c .ptr] K h := by
  refine H_build_Radix s ?_
  unfold F_build_Radix cAt iBd
  refine sorted_ok (W' := No) hs (fun _ h => h.elim) (by omega) fun e h2 hse hce k2 => ?_
  have hln := srt_len l
  have hrs := srt_rises l
  have hBs : ∀ p ∈ srtL l, (ky p).length ≤ 1000000 := fun p hp => by have := hB p (srt_sub hp); rw [show (ky p).length = p.1.size from keyLen p.1]; exact this
  generalize srtL l = L at *
  have hlen := hse.len
  refine Join.intro (fun (t : ByteArray × Bool) h' => h' = h2 ∧ (t.2 = true ↔ ∃ p r, L = p :: r ∧ ky p = [])) (fun R hR => ?_) ?_
  · refine condP_dec (fun hgt => ?_) fun hle => hR _ _ ⟨rfl, ⟨fun h => (by cases h), fun ⟨p, r, e, _⟩ => (by subst e; simp only [List.length_cons] at hlen; omega)⟩⟩
    rcases L with _ | ⟨p, r⟩
    · simp only [List.length_nil] at hlen; omega
    obtain ⟨a, ha, _, hv⟩ := hse.at (i := 0) (x := p) rfl
    refine ⟨⟨by omega, by omega⟩, a, ha, p.1, hv 0 _ rfl, hR _ _ ⟨rfl, ?_⟩⟩
    simp only
    rw [beq_list, decide_eq_true_iff]
    constructor
    · intro e; exact ⟨p, r, rfl, by unfold ky; rw [e]⟩
    · rintro ⟨p', r', e, e2⟩
      cases e
      exact bytes_list.1 e2
  rintro ⟨v6, has⟩ h' ⟨rfl, hhas⟩
  simp only at hhas
  refine Join.intro (fun (t : SliceV × ByteArray) h3 => h3 = h' ∧ ∃ l', Sl prF 2 No h' t.1 l' ∧ t.1.len ≤ t.1.cap ∧ Beg l' [] ∧ (∀ p ∈ l', p ∈ L) ∧ l'.length ≤ L.length ∧ ∀ k v, ((k = [] ∧ (if has then some t.2 else none) = some v) ∨ Got l' [] k v) ↔ ∃ p ∈ L, p.1.data.toList = k ∧ p.2 = v) (fun R hR => ?_) ?_
  · cases has with
    | true =>
      obtain ⟨p, r, rfl, e0⟩ := hhas.1 rfl
      obtain ⟨a, ha, _, hv⟩ := hse.at (i := 0) (x := p) rfl
      simp only [List.length_cons] at hlen
      refine condP_true.2 ⟨⟨by omega, by omega⟩, a, ha, p.2, hv 1 _ rfl, ⟨by omega, by omega⟩, hR _ _ ⟨rfl, r, ?_, by simp only; omega, ⟨(List.pairwise_cons.1 hrs).2, fun q hq => ⟨rfl, ?_⟩⟩, fun q hq => List.mem_cons_of_mem _ hq, by simp, fun k v => ?_⟩⟩
      · have := Sl.sub hse (l := 1) (hi := (p :: r).length) (m := e.cap) (c := e.cap - 1) (by simp) (Nat.le_refl _) (by simp only [List.length_cons]; omega)
        rw [List.drop_one, List.tail_cons, List.take_of_length_le (by simp)] at this
        have e2 : (p :: r).length - 1 = e.len - 1 := by simp only [List.length_cons]; omega
        rw [e2] at this
        exact this
      · have h1 := kl_data.1 ((List.pairwise_cons.1 hrs).1 q hq)
        refine List.length_pos_iff.2 fun e2 => ?_
        change Op.bytesLess (ky p) (ky q) = true at h1
        rw [e2, bl_nil] at h1; cases h1
      · simp only [if_true]
        constructor
        · rintro (⟨rfl, h⟩ | ⟨q, hq, h1, h2⟩)
          · exact ⟨p, List.mem_cons_self .., e0, Option.some.inj h⟩
          · exact ⟨q, List.mem_cons_of_mem _ hq, h1, h2⟩
        · rintro ⟨q, hq, h1, h2⟩
          rcases List.mem_cons.1 hq with rfl | hq
          · exact .inl ⟨by rw [← h1]; exact e0, by rw [h2]⟩
          · exact .inr ⟨q, hq, h1, h2⟩
    | false =>
      have hno : ∀ p r, L = p :: r → ky p ≠ [] := fun p r e e0 => by have := hhas.2 ⟨p, r, e, e0⟩; cases this
      refine condP_false.2 (hR _ _ ⟨rfl, L, hse, hce, ⟨hrs, fun q hq => ⟨rfl, ?_⟩⟩, fun q hq => hq, Nat.le_refl _, fun k v => ?_⟩)
      · refine List.length_pos_iff.2 fun e2 => ?_
        rcases L with _ | ⟨p, r⟩
        · cases hq
        rcases List.mem_cons.1 hq with rfl | hq
        · exact hno _ _ rfl e2
        · have h1 := kl_data.1 ((List.pairwise_cons.1 hrs).1 q hq)
          change Op.bytesLess (ky p) (ky q) = true at h1
          rw [e2, bl_nil] at h1; cases h1
      · simp only [Bool.false_eq_true, if_false]
        constructor
        · rintro (⟨_, h⟩ | ⟨q, hq, h1, h2⟩)
          · cases h
          · exact ⟨q, hq, h1, h2⟩
        · rintro ⟨q, hq, h1, h2⟩
          exact .inr ⟨q, hq, h1, h2⟩
  rintro ⟨s3, v3⟩ h3 ⟨rfl, l', hs3, hc3, hbg, hsub, hll, hiff⟩
  simp only at hs3 hc3 hiff
  refine kidsB_ok (B := 1000000) (Nat.le_refl _) 1000001 0 (by omega) (W := W) hs3 hc3 hbg rfl (fun p hp => hBs p (hsub p hp)) (by omega) (fun y hy => Nat.lt_of_lt_of_le (hW y hy) k2.size) fun h4 s4 ks Lb ho4 hL4 hrow hu4 => ?_
  obtain ⟨hcF, hgF⟩ := hrow.done
  have hLl : Lb.length ≤ 100000 := by
    have := can_len hcF
    rw [Fo.to_of] at this; omega
  refine rxMake_ok (W := W) (ho4.sl fun _ _ _ h => h) hL4 hLl (fun y hy => Nat.lt_of_lt_of_le (hW y hy) (k2.tr hu4).size) fun h5 b5 rn5 hu5 => ?_
  refine hk h5 b5 ⟨_, _, rn5, hcF, fun k v => ?_⟩ ((k2.tr hu4).tr hu5)
  rw [mem_prsR]
  unfold InR
  rw [hgF, hiff]
theorem newTr' {h : Heap} {t : Tr} {k : Heap → Prop} (hk : ∀ h', h'[h.size]? = some (.cells (trL t).toArray t_tree_Tree (0, 0)) → Upd No h h' → k h') :
    At (hnew h (trL tr0) t_tree_Tree) (fun h1 => WrS h1 (some (newA h)) 0 (trL t) ∧ At (hsetL h1 (newA h) 0 (trL t)) k) :=
  at_new fun h1 b1 k1 => setAll (c := trL tr0) (vs := trL t) b1 rfl fun h2 b2 hu2 => hk h2 b2 (k1.own hu2 (Nat.le_refl _))
theorem buildTree_ok {W W0 : Nat → Prop} {x : Hs} {h : Heap} {s : SliceV} {l : List Pr} (hs : Sl prF 2 W0 h s l) (hW : ∀ y, W y → y < h.size) (hn : l.length ≤ 100000) (hB : ∀ p ∈ l, p.1.size ≤ 256 ∧ p.2.size ≤ 4096) {kind : Int} (hkd : kind = 0 ∨ kind = 1) {K : Tr × Int → Heap → Prop}
    (hk : ∀ h' t, TreeIs W h' kind x t (srtL l) → Upd No h h' → K (t, 0) h') : HC PG f_build_Tree [.int .i64 kind, .agg #[.int .u64 x.k0, .int .u64 x.k1, .int .u64 x.mask], .slice s.a s.len s.cap] [.agg [.int .i64, .int .u64, .int .u64, .int .u64, .ptr, .ptr], .c (.int .i64)] K h := by
  refine H_build_Tree kind (x.k0, x.k1, x.mask) s ?_
  unfold F_build_Tree cAt iBd
  refine at_new fun h1 b1 k1 => at_new fun h2 b2 k2 => ?_
  have z1 := get_lt b1
  have z2 := get_lt b2
  have s1 : h.size ≤ h1.size := k1.size
  have c1 := k2.get0 b1
  have k02 := k1.tr k2
  refine ⟨_, vc c1 0, _, vc c1 1, _, vc c1 2, ?_⟩
  refine tNew_ok (W := No) (x := x) (fun _ h => h.elim) hkd fun h3 t3 _ k3 => ?_
  refine newTr' (t := t3) fun h4 b4 k4 => ?_
  refine condP_false.2 ?_
  have k24 := k3.tr k4
  have k04 := k02.tr k24
  have hlen := hs.len
  refine LoopP.ghost (fun (i : Nat) (t : Int) h' => t = (i : Int) ∧ i ≤ l.length ∧ Upd No h4 h') (fun i => l.length - i) 0 ⟨rfl, Nat.zero_le _, Upd.refl _ _⟩ ?_
  rintro I i t h5 ⟨rfl, hi, k5⟩ hI
  have k05 := k04.tr k5
  refine condP_dec (fun hlt => ?_) fun hge => ?_
  · have hlt : i < l.length := by omega
    obtain ⟨a, ha, _, hv⟩ := (hs.upd k05 fun _ h => h.elim).at (List.getElem?_eq_getElem hlt)
    have hb := hB _ (List.getElem_mem hlt)
    refine ⟨⟨by omega, by omega⟩, a, ha, l[i].1, hv 0 _ rfl, l[i].2, hv 1 _ rfl, ?_⟩
    refine newPr' (p := l[i]) fun h6 b6 k6 => ⟨_, vc b6 0, _, vc b6 1, pRight_ok hb.1 hb.2 (condP_false.2 ?_)⟩
    rw [wrap_succB hlt (by omega)]
    exact hI (i + 1) _ _ ⟨rfl, hlt, k5.tr k6⟩ (by omega)
  · have hW5 := Pro.lt (h2 := h2) hW k02
    have hW5' : ∀ y, Pro W h h2 y → y < h5.size := fun y hy => Nat.lt_of_lt_of_le (hW5 y hy) (k24.tr k5).size
    have d2 := (k24.tr k5).get0 b2
    have d1 := (k24.tr k5).get0 c1
    rcases hkd with rfl | rfl
    · refine condP_false.2 ⟨_, vc d1 0, _, vc d1 1, _, vc d1 2, _, vc d1 0, _, vc d1 1, _, vc d1 2, ?_⟩
      refine champB_ok (z := x) (hs.upd k05 fun _ h => h.elim) hW5' hn fun h6 b6 t6 k6 => ?_
      have e1 := k6.get0 d1
      refine ⟨⟨vc e1 0, vc e1 1, vc e1 2⟩, ?_⟩
      refine tOfChamp_ok (x := x) (.inr ⟨b6, rfl, t6⟩) (fun y hy => Nat.lt_of_lt_of_le (hW5' y hy) k6.size) fun h7 t7 i7 k7 => ?_
      refine setAll (c := trL tr0) (vs := trL t7) (k7.get0 (k6.get0 d2)) rfl fun h8 b8 hu8 => ?_
      refine ⟨_, vc b8 0, _, vc b8 1, _, vc b8 2, _, vc b8 3, _, vc b8 4, _, vc b8 5, ?_⟩
      exact hk h8 t7 ((i7.updM hu8 (fun y hy => .inl (.inr (by have hy : y = h1.size := hy; omega)))).less Pro.sub) (((k05.tr k6).tr k7).own hu8 s1)
    · refine condP_true.2 (radixB_ok (hs.upd k05 fun _ h => h.elim) hW5' hn (fun p hp => by have := (hB p hp).1; omega) fun h6 b6 t6 k6 => ?_)
      refine tOfRadix_ok (x := x) (.inr ⟨b6, rfl, t6⟩) (fun y hy => Nat.lt_of_lt_of_le (hW5' y hy) k6.size) fun h7 t7 i7 k7 => ?_
      refine setAll (c := trL tr0) (vs := trL t7) (k7.get0 (k6.get0 d2)) rfl fun h8 b8 hu8 => ?_
      refine ⟨_, vc b8 0, _, vc b8 1, _, vc b8 2, _, vc b8 3, _, vc b8 4, _, vc b8 5, ?_⟩
      exact hk h8 t7 ((i7.updM hu8 (fun y hy => .inl (.inr (by have hy : y = h1.size := hy; omega)))).less Pro.sub) (((k05.tr k6).tr k7).own hu8 s1)
end Go.Proofs
namespace Go.Proofs
open Go Go.Lift
end Go.Proofs
namespace Go.Proofs
open Go Go.Lift
abbrev zChL : List Value := [.string (⟨#[]⟩ : ByteArray), .string (⟨#[]⟩ : ByteArray), .string (⟨#[]⟩ : ByteArray), .bool false, .bool false]
theorem newCh {h : Heap} {t : TypeId} {c : Ch} {k : Heap → Prop} (hk : ∀ h', h'[h.size]? = some (.cells (chF c).toArray t (0, 0)) → Upd No h h' → k h') :
    At (hnew h zChL t) fun h8 => WrS h8 (some (newA h)) 0 (chF c) ∧ At (hsetL h8 (newA h) 0 (chF c)) k :=
  at_new fun h1 b1 k1 => setAll (c := zChL) (vs := chF c) b1 rfl fun h2 b2 hu2 => hk h2 b2 (k1.own hu2 (Nat.le_refl _))
end Go.Proofs
namespace Go.Proofs
open Go Go.Lift
abbrev bA : ByteArray := ⟨#[97]⟩
abbrev bB : ByteArray := ⟨#[98]⟩
theorem bab : kl bA bB := by rw [kl_data]; decide
theorem bne' : bB ≠ bA := fun h => by
  have := bab
  rw [h] at this; exact kl_irrefl _ this
end Go.Proofs
namespace Go.Proofs
open Go Go.Lift
abbrev b1 : ByteArray := ⟨#[49]⟩
abbrev b2 : ByteArray := ⟨#[50]⟩
abbrev b3 : ByteArray := ⟨#[51]⟩
theorem srt_one (p : Pr) : srtL [p] = [p] := rfl
theorem srt_two {v w : ByteArray} : srtL [(bA, v), (bB, w)] = [(bA, v), (bB, w)] := by
  unfold srtL
  rw [List.foldl_cons, List.foldl_cons, List.foldl_nil]
  have e1 : insR (bA, v) [] = [(bA, v)] := rfl
  rw [e1, insR_cons, if_pos bab]; rfl
theorem rises_two {v w : ByteArray} : Rises [(bA, v), (bB, w)] := List.pairwise_cons.2 ⟨fun p hp => by rw [List.mem_singleton.1 hp]; exact bab, List.pairwise_singleton ..⟩
theorem fit_small {l : List Pr} (h : ∀ p ∈ l, p.1.size ≤ 40 ∧ p.2.size ≤ 40) : Fit l := fun p hp => by have := h p hp; omega
theorem small_two {v w : ByteArray} (hv : v.size ≤ 1) (hw : w.size ≤ 1) : ∀ p ∈ [(bA, v), (bB, w)], p.1.size ≤ 40 ∧ p.2.size ≤ 40 := fun p hp => by
  rcases List.mem_cons.1 hp with rfl | hp
  · exact ⟨(by decide : bA.size ≤ 40), by simp only; omega⟩
  · rw [List.mem_singleton.1 hp]
    exact ⟨(by decide : bB.size ≤ 40), by simp only; omega⟩
theorem small_one {v : ByteArray} (hv : v.size ≤ 1) : ∀ p ∈ [(bA, v)], p.1.size ≤ 40 ∧ p.2.size ≤ 40 := fun p hp => by
  rw [List.mem_singleton.1 hp]
  exact ⟨(by decide : bA.size ≤ 40), by simp only; omega⟩
end Go.Proofs
namespace Go.Proofs
open Go Go.Lift
def look (l : List Pr) (k : ByteArray) : Option ByteArray := (l.find? fun p => decide (p.1 = k)).map (·.2)
theorem look_none {l : List Pr} {k : ByteArray} (h : there l k = false) : look l k = none := by
  unfold look
  rw [Option.map_eq_none_iff, List.find?_eq_none]
  intro p hp
  unfold there at h
  rw [List.any_eq_false] at h
  exact h p hp
theorem look_some : ∀ {l : List Pr} {k v : ByteArray}, Rises l → (k, v) ∈ l → look l k = some v
  | p :: l, k, v, hr, h => by
    have hr := List.pairwise_cons.1 hr
    unfold look
    rw [List.find?_cons]
    rcases List.mem_cons.1 h with e | h
    · subst e; simp
    · have hne : p.1 ≠ k := fun e => by
        have := hr.1 _ h
        simp only at this
        rw [e] at this; exact kl_irrefl _ this
      rw [decide_eq_false hne]
      exact look_some hr.2 h
theorem look_in {l : List Pr} (hr : Rises l) {k v : ByteArray} (h1 : there l k = true → (k, v) ∈ l) (h2 : there l k = false → v = ⟨#[]⟩) : ((look l k).getD ⟨#[]⟩, (look l k).isSome) = (v, there l k) := by
  cases ht : there l k with
  | true => rw [look_some hr (h1 ht)]; rfl
  | false => rw [look_none ht, h2 ht]; rfl
theorem look_part {x : Hs} {lev : Nat} {l : List Pr} {k : ByteArray} : look (part x lev (ck x lev k) l) k = look l k := by
  unfold look part
  congr 1
  rw [List.find?_filter]
  congr 1
  funext p
  by_cases e : p.1 = k
  · rw [e]; simp
  · simp [e]
theorem champGet_ok {W : Nat → Prop} {x : Hs} {h : Heap} {b : Nat} {l : List Pr} (t : TrieAt W x h 13 b l) (hW : ∀ y, W y → y < h.size) (hr : Rises l) (hn : l.length ≤ 1000000) (k : ByteArray) {K : ByteArray × Bool → Heap → Prop}
    (hk : ∀ h', Upd No h h' → K ((look l k).getD ⟨#[]⟩, (look l k).isSome) h') : HC PG f_champ_Get [.agg #[.int .u64 x.k0, .int .u64 x.k1, .int .u64 x.mask], .pointer (some ⟨b, 0, none⟩), .string k] [.c .str, .c .bool] K h := by
  refine H_champ_Get (x.k0, x.k1, x.mask) (some ⟨b, 0, none⟩) k ?_
  unfold F_champ_Get cAt
  refine at_new fun h1 b1 k1 => ⟨_, vc b1 0, _, vc b1 1, _, vc b1 2, ?_⟩
  refine hash_ok fun h2 k2 => ?_
  have k12 := k1.tr k2
  refine some_ok (.inr ⟨b, rfl, TrieAt.upd0 k12 t⟩) (fun y hy => Nat.lt_of_lt_of_le (hW y hy) k12.size) fun h3 b3 t3 k3 _ => ?_
  have k13 := k12.tr k3
  refine LoopP.ghost (fun (g : Nat × Nat × List Pr) (t : Option Addr × Int) h' => t = (some ⟨g.2.1, 0, none⟩, ((13 - g.1 : Nat) : Int)) ∧ g.1 ≤ 13 ∧ TrieAt W x h' g.1 g.2.1 g.2.2 ∧ Rises g.2.2 ∧ g.2.2.length ≤ 1000000 ∧ look g.2.2 k = look l k ∧ Upd No h h') (fun g => g.1) (13, b3, l)
    ⟨rfl, Nat.le_refl _, t3, hr, hn, rfl, k13⟩ ?_
  rintro I ⟨m, c, lm⟩ t h4 ⟨rfl, hm, tm, hrm, hnm, hlk, hu⟩ hI
  simp only at hm tm hrm hnm hlk
  rcases m with _ | m
  · obtain ⟨sp, sk, ow, hb, _⟩ := BuckAt.ex tm
    refine isBucket_ok hb (condP_true.2 (in2_ok tm hrm (by omega) k fun h5 v k5 e1 e2 => ?_))
    have := hk h5 (hu.tr k5)
    rw [← hlk, look_in hrm e1 e2] at this
    exact this
  · obtain ⟨s, nd, hs⟩ := tm
    have hs : ∀ c, c < 32 → SlotIs W x h4 m s c (part x (12 - m) c lm) := hs
    obtain ⟨d, n, sp, sk, ow, hb, _⟩ := nd.ex
    refine isBucket_ok hb (condP_false.2 ?_)
    refine ckAt (by omega) ?_
    rw [show 13 - (m + 1) = 12 - m by omega]
    have hi := ck_lt x (12 - m) k
    have hsi := hs _ hi
    have hlp : look (part x (12 - m) (ck x (12 - m) k) lm) k = look l k := by rw [look_part, hlk]
    have hrp : Rises (part x (12 - m) (ck x (12 - m) k) lm) := rises_part hrm
    have hnp : (part x (12 - m) (ck x (12 - m) k) lm).length ≤ 1000000 := Nat.le_trans part_len hnm
    generalize part x (12 - m) (ck x (12 - m) k) lm = lp at hsi hlp hrp hnp
    generalize ck x (12 - m) k = i at hi hsi
    refine nPair_ok nd hi fun h5 k5 => ?_
    refine newPr fun h6 b6 k6 => ?_
    have k46 := k5.tr k6
    rcases hsi with ⟨e0, e1, e2⟩ | ⟨p, e0, e1, e2⟩ | ⟨_, e1, kb, e2, tk⟩
    · rw [e1]
      refine condP_false.2 (nKid_ok (nd.upd k46 fun _ h => h.elim) hi ?_)
      rw [e2]
      refine condP_true.2 ?_
      have := hk h6 (hu.tr k46)
      rw [← hlp, e0] at this
      exact this
    · rw [e1] at b6 ⊢
      refine condP_true.2 ⟨p.1, vc b6 0, ?_⟩
      rw [beq_list]
      have := hk h6 (hu.tr k46)
      rw [← hlp, e0] at this
      by_cases e : p.1 = k
      · rw [decide_eq_true e]
        refine condP_false.2 ⟨p.2, vc b6 1, ?_⟩
        have e3 : look [p] k = some p.2 := by unfold look; rw [List.find?_cons, decide_eq_true e]; rfl
        rw [e3] at this
        exact this
      · rw [decide_eq_false e]
        have e3 : look [p] k = none := by unfold look; rw [List.find?_cons, decide_eq_false e]; rfl
        rw [e3] at this
        exact condP_true.2 this
    · rw [e1]
      refine condP_false.2 (nKid_ok (nd.upd k46 fun _ h => h.elim) hi ?_)
      rw [e2]
      refine condP_false.2 ?_
      have ew : IntKind.wrap .i64 (((13 - (m + 1) : Nat) : Int) + 1) = ((13 - m : Nat) : Int) := by rw [w64 (by omega)]; omega
      rw [show 13 - (m + 1) = 12 - m by omega] at ew
      show I (some ⟨kb, 0, none⟩, IntKind.wrap .i64 (((12 - m : Nat) : Int) + 1)) h6
      rw [ew]
      exact hI (m, kb, lp) _ h6 ⟨rfl, by simp only; omega, TrieAt.upd0 k46 tk, hrp, hnp, hlp, hu.tr k46⟩ (by simp only; omega)
abbrev Sd := ByteArray × Bool
abbrev sdF (s : Sd) : List Value := [.string s.1, .bool s.2]
theorem sdF_ne (s : Sd) : (sdF s).length = 2 ∧ 0 < 2 := ⟨rfl, by omega⟩
theorem sdEq (a b : Sd) : ((a.1.toList == b.1.toList) && ((a.2 == b.2) && true)) = decide (a = b) := by
  rw [beq_list]
  by_cases e : a = b
  · subst e; simp
  · rw [decide_eq_false e]
    obtain ⟨a1, a2⟩ := a
    obtain ⟨b1, b2⟩ := b
    simp only [Prod.mk.injEq] at e
    rw [Bool.eq_false_iff]
    intro h
    simp only [Bool.and_eq_true, decide_eq_true_iff, beq_iff_eq, and_true] at h
    exact e h
theorem newSd {h : Heap} {t : TypeId} {s : Sd} {k : Heap → Prop} (hk : ∀ h', h'[h.size]? = some (.cells (sdF s).toArray t (0, 0)) → Upd No h h' → k h') :
    At (hnew h [.string (⟨#[]⟩ : ByteArray), .bool false] t) fun h8 => WrS h8 (some (newA h)) 0 (sdF s) ∧ At (hsetL h8 (newA h) 0 (sdF s)) k :=
  at_new fun h1 b1 k1 => setAll (c := [.string (⟨#[]⟩ : ByteArray), .bool false]) (vs := sdF s) b1 rfl fun h2 b2 hu2 => hk h2 b2 (k1.own hu2 (Nat.le_refl _))
def takeSd (b o t : Sd) (p : Int) : Sd × Bool := if o = t ∨ t = b then (o, true) else if o = b then (t, true) else if p = 1 then (o, false) else if p = 2 then (t, false) else (b, false)
theorem takeSd_mem (b o t : Sd) (p : Int) : (takeSd b o t p).1 ∈ [b, o, t] := by
  unfold takeSd
  split
  · simp
  · split
    · simp
    · split
      · simp
      · split <;> simp
theorem outSd {h : Heap} {b : Nat} {t : TypeId} {c : List Value} {s : Sd} {g : Bool} {K : Sd × Bool → Heap → Prop} (hb : h[b]? = some (.cells c.toArray t (0, 0))) (hc : c.length = 2) (hk : ∀ h', Upd (· = b) h h' → K (s, g) h') :
    WrS h (some ⟨b, 0, none⟩) 0 [.string s.1, .bool s.2] ∧ At (hsetL h ⟨b, 0, none⟩ 0 [.string s.1, .bool s.2]) (fun h' => ∃ v1 : ByteArray, hcell h' (adr ⟨b, 0, none⟩ 0) = some (.string v1) ∧ ∃ v2 : Bool, hcell h' (adr ⟨b, 0, none⟩ 1) = some (.bool v2) ∧ K ((v1, v2), g) h') :=
  setAll (c := c) (vs := sdF s) hb (by rw [hc]; rfl) fun h2 b2 hu2 => ⟨s.1, vc b2 0, s.2, vc b2 1, hk h2 hu2⟩
theorem mTake_ok {b o t : Sd} {p : Int} {h : Heap} {K : Sd × Bool → Heap → Prop} (hk : ∀ h', Upd No h h' → K (takeSd b o t p) h') : HC PG f_merge_Take [.agg #[.string b.1, .bool b.2], .agg #[.string o.1, .bool o.2], .agg #[.string t.1, .bool t.2], .int .i64 p] [.agg [.str, .bool], .c .bool] K h := by
  refine H_merge_Take b o t p ?_
  unfold F_merge_Take cAt
  refine at_new fun h1 b1 k1 => at_new fun h2 b2 k2 => at_new fun h3 b3 k3 => at_new fun h4 b4 k4 => ?_
  have c1 := k4.get0 (k3.get0 (k2.get0 b1))
  have c2 := k4.get0 (k3.get0 b2)
  have c3 := k4.get0 b3
  have s3 : h.size ≤ h3.size := ((k1.tr k2).tr k3).size
  have k04 : Upd No h h4 := ((k1.tr k2).tr k3).tr k4
  have fin : ∀ {h'} (s : Sd) (g : Bool), takeSd b o t p = (s, g) → Upd (· = h3.size) h4 h' → K (s, g) h' := fun s g e hu => by rw [← e]; exact hk _ (k04.own hu s3)
  unfold takeSd at fin
  refine Join.intro (fun t' h' => h' = h4 ∧ t' = decide (o = t ∨ t = b)) (fun R hR => ?_) ?_
  · refine ⟨o.1, vc c2 0, o.2, vc c2 1, t.1, vc c3 0, t.2, vc c3 1, ?_⟩
    rw [sdEq o t]
    by_cases e : o = t
    · rw [decide_eq_true e]
      exact condP_true.2 (hR _ _ ⟨rfl, (decide_eq_true (.inl e)).symm⟩)
    · rw [decide_eq_false e]
      refine condP_false.2 ⟨t.1, vc c3 0, t.2, vc c3 1, b.1, vc c1 0, b.2, vc c1 1, hR _ _ ⟨rfl, ?_⟩⟩
      rw [sdEq t b, decide_eq_decide]
      exact ⟨.inr, fun h => h.elim (fun h => absurd h e) id⟩
  rintro t' h' ⟨rfl, rfl⟩
  refine condP_dec (fun e => ?_) fun e => ?_
  · rw [if_pos e] at fin
    exact ⟨o.1, vc c2 0, o.2, vc c2 1, outSd (s := o) b4 rfl fun h5 hu => fin _ _ rfl hu⟩
  rw [if_neg e] at fin
  refine ⟨o.1, vc c2 0, o.2, vc c2 1, b.1, vc c1 0, b.2, vc c1 1, ?_⟩
  rw [sdEq o b]
  refine condP_dec (fun e => ?_) fun e => ?_
  · rw [if_pos e] at fin
    exact ⟨t.1, vc c3 0, t.2, vc c3 1, outSd (s := t) b4 rfl fun h5 hu => fin _ _ rfl hu⟩
  rw [if_neg e] at fin
  refine CondP.intro (fun e => ?_) fun e => ?_
  · rw [if_pos (by simpa using e)] at fin
    exact ⟨o.1, vc c2 0, o.2, vc c2 1, outSd (s := o) b4 rfl fun h5 hu => fin _ _ rfl hu⟩
  rw [if_neg (by simpa using e)] at fin
  refine CondP.intro (fun e => ?_) fun e => ?_
  · rw [if_pos (by simpa using e)] at fin
    exact ⟨t.1, vc c3 0, t.2, vc c3 1, outSd (s := t) b4 rfl fun h5 hu => fin _ _ rfl hu⟩
  · rw [if_neg (by simpa using e)] at fin
    exact ⟨b.1, vc c1 0, b.2, vc c1 1, outSd (s := b) b4 rfl fun h5 hu => fin _ _ rfl hu⟩
theorem rTake_ok {b o t : Sd} {p : Int} {h : Heap} {K : Sd × Bool → Heap → Prop} (hk : ∀ h', Upd No h h' → K (takeSd b o t p) h') : HC PG f_r18_Take [.agg #[.string b.1, .bool b.2], .agg #[.string o.1, .bool o.2], .agg #[.string t.1, .bool t.2], .int .i64 p] [.agg [.str, .bool], .c .bool] K h := by
  refine H_r18_Take b o t p ?_
  unfold F_r18_Take cAt
  refine at_new fun h1 b1 k1 => at_new fun h2 b2 k2 => at_new fun h3 b3 k3 => at_new fun h4 b4 k4 => ?_
  have c1 := k4.get0 (k3.get0 (k2.get0 b1))
  have c2 := k4.get0 (k3.get0 b2)
  have c3 := k4.get0 b3
  have s3 : h.size ≤ h3.size := ((k1.tr k2).tr k3).size
  have k04 : Upd No h h4 := ((k1.tr k2).tr k3).tr k4
  have fin : ∀ {h'} (s : Sd) (g : Bool), takeSd b o t p = (s, g) → Upd (· = h3.size) h4 h' → K (s, g) h' := fun s g e hu => by rw [← e]; exact hk _ (k04.own hu s3)
  unfold takeSd at fin
  refine ⟨o.1, vc c2 0, o.2, vc c2 1, t.1, vc c3 0, t.2, vc c3 1, ?_⟩
  rw [sdEq o t]
  refine condP_dec (fun e => ?_) fun e1 => ?_
  · rw [if_pos (.inl e)] at fin
    exact ⟨o.1, vc c2 0, o.2, vc c2 1, outSd (s := o) b4 rfl fun h5 hu => fin _ _ rfl hu⟩
  refine ⟨o.1, vc c2 0, o.2, vc c2 1, b.1, vc c1 0, b.2, vc c1 1, ?_⟩
  rw [sdEq o b]
  refine condP_dec (fun e => ?_) fun e2 => ?_
  · rw [if_neg (fun h => h.elim e1 fun h => e1 (by rw [e, h])), if_pos e] at fin
    exact ⟨t.1, vc c3 0, t.2, vc c3 1, outSd (s := t) b4 rfl fun h5 hu => fin _ _ rfl hu⟩
  refine ⟨t.1, vc c3 0, t.2, vc c3 1, b.1, vc c1 0, b.2, vc c1 1, ?_⟩
  rw [sdEq t b]
  refine condP_dec (fun e => ?_) fun e3 => ?_
  · rw [if_pos (.inr e)] at fin
    exact ⟨o.1, vc c2 0, o.2, vc c2 1, outSd (s := o) b4 rfl fun h5 hu => fin _ _ rfl hu⟩
  rw [if_neg (fun h => h.elim e1 e3), if_neg e2] at fin
  refine CondP.intro (fun e => ?_) fun e => ?_
  · rw [if_pos (by simpa using e)] at fin
    exact ⟨o.1, vc c2 0, o.2, vc c2 1, outSd (s := o) b4 rfl fun h5 hu => fin _ _ rfl hu⟩
  rw [if_neg (by simpa using e)] at fin
  refine CondP.intro (fun e => ?_) fun e => ?_
  · rw [if_pos (by simpa using e)] at fin
    exact ⟨t.1, vc c3 0, t.2, vc c3 1, outSd (s := t) b4 rfl fun h5 hu => fin _ _ rfl hu⟩
  · rw [if_neg (by simpa using e)] at fin
    exact ⟨b.1, vc c1 0, b.2, vc c1 1, outSd (s := b) b4 rfl fun h5 hu => fin _ _ rfl hu⟩
abbrev nFail : ByteArray := ⟨#[102, 97, 105, 108]⟩
abbrev nOurs : ByteArray := ⟨#[111, 117, 114, 115]⟩
abbrev nTheirs : ByteArray := ⟨#[116, 104, 101, 105, 114, 115]⟩
abbrev nKeep : ByteArray := ⟨#[107, 101, 101, 112]⟩
def nameV (p : Int) : ByteArray := if p = 0 then nFail else if p = 1 then nOurs else if p = 2 then nTheirs else if p = 3 then nKeep else ⟨#[]⟩
theorem mName_ok {p : Int} {h : Heap} {K : ByteArray → Heap → Prop} (hk : K (nameV p) h) : HC PG f_merge_Name [.int .i64 p] [.c .str] K h := by
  refine H_merge_Name p ?_
  unfold F_merge_Name
  unfold nameV at hk
  refine CondP.intro (fun e => ?_) fun e => ?_
  · rw [if_pos (by simpa using e)] at hk; exact hk
  rw [if_neg (by simpa using e)] at hk
  refine CondP.intro (fun e => ?_) fun e => ?_
  · rw [if_pos (by simpa using e)] at hk; exact hk
  rw [if_neg (by simpa using e)] at hk
  refine CondP.intro (fun e => ?_) fun e => ?_
  · rw [if_pos (by simpa using e)] at hk; exact hk
  rw [if_neg (by simpa using e)] at hk
  refine CondP.intro (fun e => ?_) fun e => ?_
  · rw [if_pos (by simpa using e)] at hk; exact hk
  · rw [if_neg (by simpa using e)] at hk; exact hk
theorem contains_ok {W : Nat → Prop} {h : Heap} {s : SliceV} {xs : List Sd} {x : Sd} (hs : Sl sdF 2 W h s xs) (hn : xs.length ≤ 1000000) (hx : x ∈ xs) {K : Bool → Heap → Prop} (hk : ∀ h', Upd No h h' → K true h') : HC PG f_slices_Contains_A_merge_Side_merge_Side [.slice s.a s.len s.cap, .agg #[.string x.1, .bool x.2]] [.c .bool] K h := by
  refine H_slices_Contains_A_merge_Side_merge_Side s x ?_
  unfold F_slices_Contains_A_merge_Side_merge_Side cAt
  refine at_new fun h1 b1 k1 => ⟨x.1, vc b1 0, x.2, vc b1 1, ?_⟩
  refine H_slices_Index_A_merge_Side_merge_Side s x ?_
  unfold F_slices_Index_A_merge_Side_merge_Side cAt iBd
  refine at_new fun h2 b2 k2 => ?_
  have hs2 := (hs.upd k1 fun _ h => h.elim).upd k2 fun _ h => h.elim
  have hl := hs2.len
  refine LoopP.ghost (fun (i : Nat) (t : Int) h' => t = (i : Int) ∧ i ≤ xs.length ∧ h' = h2 ∧ x ∉ xs.take i) (fun i => xs.length - i) 0 ⟨rfl, Nat.zero_le _, rfl, by simp⟩ ?_
  rintro I i t h' ⟨rfl, hi, rfl, hni⟩ hI
  refine condP_dec (fun hlt => ?_) fun hge => ?_
  · have hlt : i < xs.length := by omega
    obtain ⟨a, ha, _, hv⟩ := hs2.at (List.getElem?_eq_getElem hlt)
    refine ⟨x.1, vc b2 0, x.2, vc b2 1, ⟨by omega, by omega⟩, a, ha, _, hv 0 _ rfl, _, hv 1 _ rfl, ?_⟩
    rw [sdEq x xs[i]]
    refine condP_dec (fun e => ?_) fun e => ?_
    · show K (decide ((i : Int) ≥ 0)) h'
      rw [decide_eq_true (show (i : Int) ≥ 0 by omega)]
      exact hk _ (k1.tr k2)
    · rw [wrap_succB hlt (by omega)]
      refine hI (i + 1) _ _ ⟨rfl, hlt, rfl, ?_⟩ (by omega)
      rw [List.take_succ_eq_append_getElem hlt, List.mem_append, List.mem_singleton]
      exact fun h => h.elim hni e
  · have hil : i = xs.length := by omega
    rw [hil, List.take_length] at hni
    exact absurd hx hni
end Go.Proofs
namespace Go.Proofs
open Go Go.Lift
theorem tGetC_ok {W : Nat → Prop} {x : Hs} {h : Heap} {t : Tr} {l : List Pr} (i : TreeIs W h 0 x t l) (hW : ∀ y, W y → y < h.size) (hr : Rises l) (hn : l.length ≤ 1000000) (k : ByteArray) {K : Sd → Heap → Prop} (hk : ∀ h', Upd No h h' → K ((look l k).getD ⟨#[]⟩, (look l k).isSome) h') : HC PG f_tree_Tree_Get [trV t, .string k] [.c .str, .c .bool] K h := by
  refine H_tree_Tree_Get t k ?_
  unfold F_tree_Tree_Get cAt
  rcases i with ⟨_, b, rfl, t⟩ | ⟨e, _⟩
  · refine at_new fun h1 b1 k1 => ⟨_, vc b1 0, condP_false.2 ⟨_, vc2 b1 1 0, _, vc2 b1 1 1, _, vc2 b1 1 2, _, vc b1 4, ?_⟩⟩
    exact champGet_ok (TrieAt.upd0 k1 t) (fun y hy => Nat.lt_of_lt_of_le (hW y hy) k1.size) hr hn k fun h2 k2 => hk h2 (k1.tr k2)
  · cases e
theorem mGetC_ok {W : Nat → Prop} {x : Hs} {h : Heap} {t : Tr} {l : List Pr} (i : TreeIs W h 0 x t l) (hW : ∀ y, W y → y < h.size) (hr : Rises l) (hn : l.length ≤ 1000000) (k : ByteArray) {K : Sd → Heap → Prop} (hk : ∀ h', Upd No h h' → K ((look l k).getD ⟨#[]⟩, (look l k).isSome) h') : HC PG f_merge_Get [trV t, .string k] [.agg [.str, .bool]] K h := by
  refine H_merge_Get t k ?_
  unfold F_merge_Get cAt
  refine at_new fun h1 b1 k1 => at_new fun h2 b2 k2 => ?_
  have c1 := k2.get0 b1
  have k12 := k1.tr k2
  refine ⟨_, vc c1 0, _, vc c1 1, _, vc c1 2, _, vc c1 3, _, vc c1 4, _, vc c1 5, ?_⟩
  refine tGetC_ok (i.upd0 k12) (fun y hy => Nat.lt_of_lt_of_le (hW y hy) k12.size) hr hn k fun h3 k3 => ?_
  refine setAll (c := [.string (⟨#[]⟩ : ByteArray), .bool false]) (vs := sdF ((look l k).getD ⟨#[]⟩, (look l k).isSome)) (k3.get0 b2) rfl fun h4 b4 hu4 => ?_
  exact ⟨_, vc b4 0, _, vc b4 1, hk h4 ((k12.tr k3).own hu4 k1.size)⟩
theorem mSetIn_ok {W : Nat → Prop} {x : Hs} {h : Heap} {kind : Int} {t : Tr} {l : List Pr} (i : TreeIs W h kind x t l) (hW : ∀ y, W y → y < h.size) (hr : Rises l) (hn : l.length ≤ 1000000) (k v : ByteArray) (hk1 : k.size ≤ 256) (hv1 : v.size ≤ 4096) {K : Tr → Heap → Prop}
    (hk : ∀ h' t', TreeIs W h' kind x t' (insR (k, v) l) → Upd No h h' → K t' h') : HC PG f_merge_set [trV t, .string k, .agg #[.string v, .bool true]] [.agg [.int .i64, .int .u64, .int .u64, .int .u64, .ptr, .ptr]] K h := by
  refine H_merge_set t k (v, true) ?_
  unfold F_merge_set cAt
  refine at_new fun h1 b1 k1 => at_new fun h2 b2 k2 => at_new fun h3 b3 k3 => ?_
  have z1 := get_lt b1
  have z2 := get_lt b2
  have z3 := get_lt b3
  have s1 : h.size ≤ h1.size := k1.size
  have s2 : h1.size ≤ h2.size := k2.size
  have s3 := k3.size
  have k03 := (k1.tr k2).tr k3
  have c1 := k3.get0 (k2.get0 b1)
  have c2 := k3.get0 b2
  have hP0 : Pro W h h3 h.size := .inr (by omega)
  have hP2 : Pro W h h3 h2.size := .inr (by omega)
  refine Join.intro (fun _ h' => ∃ t', TreeIs (Pro W h h3) h' kind x t' (insR (k, v) l) ∧ h'[h.size]? = some (.cells (trL t').toArray t_tree_Tree (0, 0)) ∧ h'[h2.size]? = some (.cells (trL tr0).toArray t_tree_Tree (0, 0)) ∧ Upd (· = h.size) h3 h') (fun R hR => ?_) ?_
  · refine ⟨true, vc c2 1, condP_true.2 ⟨_, vc c1 0, _, vc c1 1, _, vc c1 2, _, vc c1 3, _, vc c1 4, _, vc c1 5, v, vc c2 0, ?_⟩⟩
    refine tWith_ok (i.pro k03) (Pro.lt hW k03) hr hn (k, v) hk1 hv1 fun h4 t' i4 _ k4 => ?_
    refine setAll (c := trL t) (vs := trL t') (k4.get0 c1) rfl fun h5 b5 hu5 => hR _ _ ⟨t', i4.updM hu5 fun y hy => .inl (by have hy : y = h.size := hy; rw [hy]; exact hP0), b5, hu5.oth (k4.get0 b3) (by omega), k4.wide.tr hu5⟩
  · rintro _ h6 ⟨t', i6, b6, r6, hu6⟩
    refine ⟨_, vc b6 0, _, vc b6 1, _, vc b6 2, _, vc b6 3, _, vc b6 4, _, vc b6 5, ?_⟩
    refine setAll (c := trL tr0) (vs := trL t') r6 rfl fun h7 b7 hu7 => ?_
    refine ⟨_, vc b7 0, _, vc b7 1, _, vc b7 2, _, vc b7 3, _, vc b7 4, _, vc b7 5, hk h7 t' ((i6.updM hu7 fun y hy => .inl (by have hy : y = h2.size := hy; rw [hy]; exact hP2)).less Pro.sub) ?_⟩
    exact (k03.own hu6 (Nat.le_refl _)).own hu7 (by omega)
abbrev cfL (k : ByteArray) (b o t : Sd) : List Value := [.string k, .string b.1, .bool b.2, .string o.1, .bool o.2, .string t.1, .bool t.2]
theorem takeSd_in {o : Sd} {v : ByteArray} (ho : o = (⟨#[]⟩, false)) : takeSd (⟨#[]⟩, false) o (v, true) 0 = ((v, true), true) := by
  subst ho
  unfold takeSd
  rw [if_neg (by rintro (h | h) <;> simp at h), if_pos rfl]
set_option maxHeartbeats 1000000 in
theorem mergeOf1_ok {W : Nat → Prop} {x : Hs} {h : Heap} {tb to tt : Tr} {lb lo lt : List Pr} (ib : TreeIs W h 0 x tb lb) (io : TreeIs W h 0 x to lo) (it : TreeIs W h 0 x tt lt) (hW : ∀ y, W y → y < h.size) (hb : Rises lb ∧ Fit lb ∧ lb.length ≤ 60000) (ho : Rises lo ∧ lo.length ≤ 60000) (ht : Rises lt ∧ Fit lt ∧ lt.length ≤ 60000)
    {k v : ByteArray} (hk1 : k.size ≤ 256) (hv1 : v.size ≤ 4096) (hc : chg lb lt = [(k, ⟨#[]⟩, v, false, true)]) (hno : look lo k = none) {K : Tr × SliceV × Int → Heap → Prop}
    (hk : ∀ h' t', TreeIs W h' 0 x t' (insR (k, v) lo) → Upd No h h' → K (t', ⟨none, 0, 0⟩, 0) h') : HC PG f_merge_Of [trV tb, trV to, trV tt, .int .i64 0] [.agg [.int .i64, .int .u64, .int .u64, .int .u64, .ptr, .ptr], .c .slice, .c (.int .i64)] K h := by
  refine H_merge_Of tb to tt 0 ?_
  unfold F_merge_Of cAt iBd
  refine at_new fun h1 b1 k1 => at_new fun h2 b2 k2 => at_new fun h3 b3 k3 => at_new fun h4 b4 k4 => ?_
  have z1 := get_lt b1
  have z2 := get_lt b2
  have z3 := get_lt b3
  have z4 := get_lt b4
  have s1 : h.size ≤ h1.size := k1.size
  have s2 : h1.size ≤ h2.size := k2.size
  have s3 : h2.size ≤ h3.size := k3.size
  have s4 := k4.size
  have k04 := ((k1.tr k2).tr k3).tr k4
  have c0 := k4.get0 (k3.get0 (k2.get0 b1))
  have c1 := k4.get0 (k3.get0 b2)
  have c2 := k4.get0 b3
  refine mName_ok ?_
  rw [beq_list, decide_eq_false (by decide)]
  refine condP_false.2 ?_
  refine Join.intro (fun t h' => t = false ∧ Upd No h4 h') (fun R hR => ?_) ?_
  · refine ⟨_, vc c0 0, _, vc c0 1, _, vc c0 2, _, vc c0 3, _, vc c0 4, _, vc c0 5, _, vc c1 0, _, vc c1 1, _, vc c1 2, _, vc c1 3, _, vc c1 4, _, vc c1 5, ?_⟩
    refine tLike_ok (t := tb) (u := to) fun h5 k5 => ?_
    rw [like_same ib io]
    have d0 := k5.get0 c0
    have d2 := k5.get0 c2
    refine condP_false.2 ⟨_, vc d0 0, _, vc d0 1, _, vc d0 2, _, vc d0 3, _, vc d0 4, _, vc d0 5, _, vc d2 0, _, vc d2 1, _, vc d2 2, _, vc d2 3, _, vc d2 4, _, vc d2 5, ?_⟩
    refine tLike_ok (t := tb) (u := tt) fun h6 k6 => ?_
    rw [like_same ib it]
    exact hR _ _ ⟨rfl, k5.tr k6⟩
  rintro t h50 ⟨rfl, k50⟩
  have d0 := k50.get0 c0
  have d1 := k50.get0 c1
  have d2 := k50.get0 c2
  have d3 := k50.get0 b4
  have k050 := k04.tr k50
  have s50 := k50.size
  refine condP_false.2 ⟨_, vc d0 0, _, vc d0 1, _, vc d0 2, _, vc d0 3, _, vc d0 4, _, vc d0 5, _, vc d2 0, _, vc d2 1, _, vc d2 2, _, vc d2 3, _, vc d2 4, _, vc d2 5, ?_⟩
  refine diffOf_ok (ib.upd0 k050) (it.upd0 k050) hb.1 hb.2.1 hb.2.2 ht.1 ht.2.1 ht.2.2 (fun _ => by rw [hc]; simp) (fun e => by rw [like_same ib it] at e; cases e) fun _ h77 s77 hs77 k77 => ?_
  rw [hc] at hs77
  have hsl := hs77.within.sl (W := fun y => h77.size ≤ y) fun y hy _ hw => by omega
  have hlen : s77.len = 1 := hs77.len
  have e1 := k77.get0 d1
  have e3 := k77.get0 d3
  have hz77 := k77.size
  refine ⟨_, vc e1 0, _, vc e1 1, _, vc e1 2, _, vc e1 3, _, vc e1 4, _, vc e1 5, ?_⟩
  refine newTr' (t := to) fun h85 b85 k85 => ?_
  have z85 := get_lt b85
  have s85 := k85.size
  have k085 := (k050.tr k77).tr k85
  have f1 := k85.get0 e1
  have f3 := k85.get0 e3
  have hPo : Pro W h h85 h77.size := .inr (by omega)
  have hP3 : Pro W h h85 h3.size := .inr (by omega)
  have hWP := Pro.lt hW k085
  refine LoopP.ghost (fun (i : Nat) (t : SliceV × Int) h' => t = (⟨none, 0, 0⟩, (i : Int)) ∧ i ≤ 1 ∧ (∃ tv, TreeIs (Pro W h h85) h' 0 x tv (if i = 0 then lo else insR (k, v) lo) ∧ h'[h77.size]? = some (.cells (trL tv).toArray t_tree_Tree (0, 0))) ∧ Upd (· = h77.size) h85 h') (fun i => 1 - i) 0 ⟨rfl, by omega, ⟨to, (io.pro k085), b85⟩, Upd.refl _ _⟩ ?_
  rintro I i t h88 ⟨rfl, hi, ⟨tv, iv, bv⟩, hu⟩ hI
  have g1 := hu.get f1 (by show ¬ h1.size = h77.size; omega)
  have g3 := hu.get f3 (by show ¬ h3.size = h77.size; omega)
  have s88 := hu.size
  have k088 : Upd No h h88 := k085.own hu (by omega)
  refine condP_dec (fun hlt => ?_) fun hge => ?_
  · have hi0 : i = 0 := by have hlt : (i : Int) < (s77.len : Int) := hlt; omega
    subst hi0
    rw [if_pos rfl] at iv
    obtain ⟨a, ha, _, hv⟩ := ((hsl.upd k85 fun _ h => h.elim).upd hu fun y hy => .inl (by have hy : y = h77.size := hy; omega)).at (i := 0) (x := (k, (⟨#[]⟩ : ByteArray), v, false, true)) rfl
    refine ⟨⟨by simp only; omega, by simp only; omega⟩, a, ha, _, hv 0 _ rfl, _, hv 1 _ rfl, _, hv 2 _ rfl, _, hv 3 _ rfl, _, hv 4 _ rfl, ?_⟩
    refine newCh (c := (k, ⟨#[]⟩, v, false, true)) fun h96 b96 k96 => ?_
    have s96 := k96.size
    have z96 := get_lt b96
    have p1 := k96.get0 g1
    refine ⟨k, vc b96 0, (⟨#[]⟩ : ByteArray), vc b96 1, false, vc b96 3, _, vc p1 0, _, vc p1 1, _, vc p1 2, _, vc p1 3, _, vc p1 4, _, vc p1 5, k, vc b96 0, v, vc b96 2, true, vc b96 4, ?_⟩
    have k096 := k088.tr k96
    have hWW : ∀ {h'}, Upd No h96 h' → ∀ y, Pro W h h85 y → y < h'.size := fun k y hy => Nat.lt_of_lt_of_le (hWP y hy) (by have := k.size; omega)
    have ig : ∀ {h'}, Upd No h96 h' → TreeIs W h' 0 x to lo := fun k => io.upd0 (k096.tr k)
    have hWg : ∀ {h'}, Upd No h96 h' → ∀ y, W y → y < h'.size := fun k y hy => Nat.lt_of_lt_of_le (hW y hy) (k096.tr k).size
    have hsd : ((look lo k).getD ⟨#[]⟩, (look lo k).isSome) = ((⟨#[]⟩ : ByteArray), false) := by rw [hno]; rfl
    have last : ∀ {h' : Heap} (k6 : Upd No h96 h') (G : Tr → Heap → Prop), (∀ h2' t', TreeIs (Pro W h h85) h2' 0 x t' (insR (k, v) lo) → Upd No h' h2' → G t' h2') → HC PG f_merge_set [trV tv, .string k, .agg #[.string v, .bool true]] [.agg [.int .i64, .int .u64, .int .u64, .int .u64, .ptr, .ptr]] G h' := fun k6 G hG => mSetIn_ok (iv.upd0 (k96.tr k6)) (hWW k6) ho.1 (by omega) k v hk1 hv1 hG
    have back : ∀ {h' h2' : Heap} {t' : Tr}, Upd No h96 h' → TreeIs (Pro W h h85) h' 0 x t' (insR (k, v) lo) → h2'[h77.size]? = some (.cells (trL t').toArray t_tree_Tree (0, 0)) → Upd (· = h77.size) h' h2' → I (⟨none, 0, 0⟩, IntKind.wrap .i64 ((0 : Nat) + 1)) h2' := fun {h' h2' t'} k6 i6 b6 hu6 => by
      refine hI 1 _ h2' ⟨rfl, by omega, ⟨t', ?_, b6⟩, ((hu.tr k96.wide).tr k6.wide).tr hu6⟩ (by omega)
      rw [if_neg (by omega)]
      exact i6.updM hu6 fun y hy => .inl (by have hy : y = h77.size := hy; rw [hy]; exact hPo)
    have outv : ∀ {h'}, Upd No h96 h' → h'[h77.size]? = some (.cells (trL tv).toArray t_tree_Tree (0, 0)) := fun k6 => k6.get0 (k96.get0 bv)
    refine ⟨?_, ?_⟩
    · refine mGetC_ok (ig (Upd.refl _ _)) (hWg (Upd.refl _ _)) ho.1 (by omega) k fun h110 k110 => ?_
      rw [hsd]
      have q := k110.get0 b96
      refine ⟨vc q 4, vc q 2, vc q 3, vc q 1, vc q 0, at_new fun h111 b111 k111 => ?_⟩
      have q' := k111.get0 q
      have k6 := k110.tr k111
      refine ⟨vc q' 4, vc q' 2, vc q' 3, vc q' 1, vc q' 0, ?_⟩
      refine setAll (c := cfL ⟨#[]⟩ (⟨#[]⟩, false) (⟨#[]⟩, false) (⟨#[]⟩, false)) (vs := cfL k (⟨#[]⟩, false) (⟨#[]⟩, false) (v, true)) b111 rfl fun h112 b112 hu112 => ?_
      have k7 : Upd No h96 h112 := k6.own hu112 k110.size
      refine ⟨_, vc2 b112 1 0, _, vc2 b112 1 1, _, vc2 b112 3 0, _, vc2 b112 3 1, _, vc2 b112 5 0, _, vc2 b112 5 1, ?_⟩
      refine mTake_ok (b := (⟨#[]⟩, false)) (o := (⟨#[]⟩, false)) (t := (v, true)) fun h120 k120 => ?_
      rw [takeSd_in rfl]
      refine newSd (s := (v, true)) fun h122 b122 k122 => ?_
      have k8 := (k7.tr k120).tr k122
      refine Join.intro (fun t h' => t = ⟨none, 0, 0⟩ ∧ h' = h122) (fun R hR => condP_false.2 (hR _ _ ⟨rfl, rfl⟩)) ?_
      rintro t h' ⟨rfl, rfl⟩
      have ov := outv k8
      have qk := k8.get0 b96
      refine ⟨_, vc ov 0, _, vc ov 1, _, vc ov 2, _, vc ov 3, _, vc ov 4, _, vc ov 5, k, vc qk 0, v, vc b122 0, true, vc b122 1, ?_⟩
      refine last k8 _ fun h147 t' i147 k147 => ?_
      refine setAll (c := trL tv) (vs := trL t') (k147.get0 ov) rfl fun h148 b148 hu148 => ?_
      exact back (k8.tr k147) i147 b148 hu148
    · refine at_new fun h149 b149 k149 => ?_
      have q := k149.get0 b96
      have p2 := k149.get0 p1
      refine ⟨vc q 4, vc q 2, vc q 0, ⟨vc p2 0, vc p2 1, vc p2 2, vc p2 3, vc p2 4, vc p2 5⟩, vc q 3, vc q 1, vc q 0, ?_⟩
      refine mGetC_ok (ig k149) (hWg k149) ho.1 (by omega) k fun h151 k151 => ?_
      rw [hsd]
      have q' := k151.get0 q
      have k6 := k149.tr k151
      refine ⟨vc q' 4, vc q' 2, vc q' 3, vc q' 1, vc q' 0, ?_⟩
      refine setAll (c := cfL ⟨#[]⟩ (⟨#[]⟩, false) (⟨#[]⟩, false) (⟨#[]⟩, false)) (vs := cfL k (⟨#[]⟩, false) (⟨#[]⟩, false) (v, true)) (k151.get0 b149) rfl fun h152 b152 hu152 => ?_
      have k7 : Upd No h96 h152 := k6.own hu152 (Nat.le_refl _)
      refine ⟨_, vc2 b152 1 0, _, vc2 b152 1 1, _, vc2 b152 3 0, _, vc2 b152 3 1, _, vc2 b152 5 0, _, vc2 b152 5 1, ?_⟩
      refine mTake_ok (b := (⟨#[]⟩, false)) (o := (⟨#[]⟩, false)) (t := (v, true)) fun h160 k160 => ?_
      rw [takeSd_in rfl]
      refine newSd (s := (v, true)) fun h162 b162 k162 => ?_
      have k8 := (k7.tr k160).tr k162
      refine Join.intro (fun t h' => t = ⟨none, 0, 0⟩ ∧ h' = h162) (fun R hR => condP_false.2 (hR _ _ ⟨rfl, rfl⟩)) ?_
      rintro t h' ⟨rfl, rfl⟩
      have ov := outv k8
      have qk := k8.get0 b96
      refine ⟨_, vc ov 0, _, vc ov 1, _, vc ov 2, _, vc ov 3, _, vc ov 4, _, vc ov 5, k, vc qk 0, v, vc b162 0, true, vc b162 1, ?_⟩
      refine last k8 _ fun h187 t' i187 k187 => ?_
      refine setAll (c := trL tv) (vs := trL t') (k187.get0 ov) rfl fun h188 b188 hu188 => ?_
      exact back (k8.tr k187) i187 b188 hu188
  · have hi1 : i = 1 := by have hge : ¬ (i : Int) < (s77.len : Int) := hge; omega
    subst hi1
    rw [if_neg (by omega)] at iv
    refine Join.intro (fun t h' => t = false ∧ h' = h88) (fun R hR => condP_true.2 (hR _ _ ⟨rfl, rfl⟩)) ?_
    rintro t h' ⟨rfl, rfl⟩
    refine condP_false.2 ⟨_, vc bv 0, _, vc bv 1, _, vc bv 2, _, vc bv 3, _, vc bv 4, _, vc bv 5, ?_⟩
    refine setAll (c := trL tr0) (vs := trL tv) g3 rfl fun h211 b211 hu211 => ?_
    refine ⟨_, vc b211 0, _, vc b211 1, _, vc b211 2, _, vc b211 3, _, vc b211 4, _, vc b211 5, ?_⟩
    refine hk h211 tv ((iv.updM hu211 fun y hy => .inl (by have hy : y = h3.size := hy; rw [hy]; exact hP3)).less Pro.sub) (k088.own hu211 (by omega))
theorem chg_awake18 : chg [(bA, b1)] [(bA, b1), (bB, b3)] = [(bB, ⟨#[]⟩, b3, false, true)] := by
  rw [chg_same (a := (bA, b1)) (b := (bA, b1)) rfl, chg_nilA]
  unfold cKey
  rw [if_pos rfl]; rfl
theorem awake18_ok {h : Heap} {K : Bool → Heap → Prop} (hk : ∀ h', Upd No h h' → K true h') : HC PG f_l18_awake [] [.c .bool] K h := by
  refine H_l18_awake ?_
  unfold F_l18_awake cAt iBd
  refine at_new fun h1 b1' k1 => ?_
  have hs : Sl prF 2 No h1 ⟨some (newA h), 1, 1⟩ [(bA, b1)] := ⟨rfl, prF_ne, fun _ => ⟨_, rfl, fun h => h.elim, row_blk b1' fun i v hv => by simpa using hv⟩⟩
  refine buildTree_ok (W := No) (x := ⟨0, 0, 0⟩) hs (fun _ h => h.elim) (by simp) (fun p hp => by have := small_one (v := b1) (by decide) p hp; omega) (.inl rfl) fun h3 t i3 k3 => ?_
  rw [srt_one] at i3
  refine newTr' (t := t) fun h5 b5 k5 => ?_
  refine at_new fun h6 b6 k6 => ?_
  have hs6 : Sl prF 2 No h6 ⟨some (newA h5), 1, 1⟩ [(bA, b2)] := ⟨rfl, prF_ne, fun _ => ⟨_, rfl, fun h => h.elim, row_blk b6 fun i v hv => by simpa using hv⟩⟩
  refine buildTree_ok (W := No) (x := ⟨0, 0, 0⟩) hs6 (fun _ h => h.elim) (by simp) (fun p hp => by have := small_one (v := b2) (by decide) p hp; omega) (.inl rfl) fun h8 u i8 k8 => ?_
  rw [srt_one] at i8
  refine newTr' (t := u) fun h10 b10 k10 => ?_
  refine at_new fun h11 b11 k11 => ?_
  have hs11 : Sl prF 2 No h11 ⟨some (newA h10), 2, 2⟩ [(bA, b1), (bB, b3)] := ⟨rfl, prF_ne, fun _ => ⟨_, rfl, fun h => h.elim, row_blk b11 fun i v hv => by simpa using hv⟩⟩
  refine buildTree_ok (W := No) (x := ⟨0, 0, 0⟩) hs11 (fun _ h => h.elim) (by simp) (fun p hp => by have := small_two (v := b1) (w := b3) (by decide) (by decide) p hp; omega) (.inl rfl) fun h13 w i13 k13 => ?_
  rw [srt_two] at i13
  refine newTr' (t := w) fun h15 b15 k15 => ?_
  have k1015 := (k11.tr k13).tr k15
  have k515 := ((k6.tr k8).tr k10).tr k1015
  have c5 := k515.get0 b5
  have c10 := k1015.get0 b10
  refine ⟨_, vc c5 0, _, vc c5 1, _, vc c5 2, _, vc c5 3, _, vc c5 4, _, vc c5 5, _, vc c10 0, _, vc c10 1, _, vc c10 2, _, vc c10 3, _, vc c10 4, _, vc c10 5, _, vc b15 0, _, vc b15 1, _, vc b15 2, _, vc b15 3, _, vc b15 4, _, vc b15 5, ?_⟩
  refine mergeOf1_ok (k := bB) (v := b3) (lo := [(bA, b2)]) (i3.upd0 (k5.tr k515)) (i8.upd0 (k10.tr k1015)) (i13.upd0 k15) (fun _ h => h.elim) ⟨List.pairwise_singleton .., fit_small (small_one (by decide)), by decide⟩ ⟨List.pairwise_singleton .., by decide⟩ ⟨rises_two, fit_small (small_two (by decide) (by decide)), by decide⟩ (by decide) (by decide) chg_awake18 (by unfold look; rw [List.find?_cons, decide_eq_false (fun e : bA = bB => bne' e.symm)]; rfl) fun h35 o i35 k35 => ?_
  have eins : insR (bB, b3) [(bA, b2)] = [(bA, b2), (bB, b3)] := by rw [insR_cons, if_pos bab]; rfl
  rw [eins] at i35
  refine newTr' (t := o) fun h37 b37 k37 => ?_
  refine ⟨_, vc b37 0, _, vc b37 1, _, vc b37 2, _, vc b37 3, _, vc b37 4, _, vc b37 5, ?_⟩
  refine tPairsC_ok (W' := No) (i35.upd0 k37) rises_two (by decide) (fun _ h => h.elim) fun s45 h45 hs45 k45 => ?_
  have hlen := hs45.len
  obtain ⟨a, ha, _, hv⟩ := hs45.at (i := 0) (x := (bA, b2)) rfl
  obtain ⟨a', ha', _, hv'⟩ := hs45.at (i := 1) (x := (bB, b3)) rfl
  rw [ha] at ha'; cases ha'
  refine condP_true.2 (condP_true.2 ?_)
  rw [show ((s45.len : Int) == (2 : Int)) = true by rw [hlen]; rfl]
  refine condP_true.2 ⟨⟨by omega, by rw [hlen]; decide⟩, a, ha, b2, hv 1 _ rfl, ?_⟩
  rw [beq_self_eq_true]
  refine condP_true.2 ⟨⟨by omega, by rw [hlen]; decide⟩, a, ha, b3, hv' 1 _ rfl, ?_⟩
  rw [beq_self_eq_true]
  exact hk h45 ((((((k1.tr k3).tr k5).tr k515).tr k35).tr k37).tr k45)
theorem mergeTake_ok {h : Heap} {b o t : Sd} {p : Int} : HC PG f_l18_MergeTake [.agg #[.string b.1, .bool b.2], .agg #[.string o.1, .bool o.2], .agg #[.string t.1, .bool t.2], .int .i64 p] [.c .bool] (fun r h' => r = true ∧ Upd No h h') h := by
  refine H_l18_MergeTake b o t p ?_
  unfold F_l18_MergeTake cAt iBd
  refine at_new fun h1 b1 k1 => at_new fun h2 b2 k2 => at_new fun h3 b3 k3 => awake18_ok fun h5 k5 => condP_false.2 ?_
  have c1 := k5.get0 (k3.get0 (k2.get0 b1))
  have c2 := k5.get0 (k3.get0 b2)
  have c3 := k5.get0 b3
  have k05 := ((k1.tr k2).tr k3).tr k5
  refine ⟨_, vc c1 0, _, vc c1 1, _, vc c2 0, _, vc c2 1, _, vc c3 0, _, vc c3 1, ?_⟩
  refine mTake_ok fun h13 k13 => ?_
  refine newSd (s := (takeSd b o t p).1) fun h15 b15 k15 => ?_
  have k515 := k13.tr k15
  have d1 := k515.get0 c1
  have d2 := k515.get0 c2
  have d3 := k515.get0 c3
  refine ⟨_, vc d1 0, _, vc d1 1, _, vc d2 0, _, vc d2 1, _, vc d3 0, _, vc d3 1, ?_⟩
  refine rTake_ok fun h23 k23 => ?_
  refine newSd (s := (takeSd b o t p).1) fun h25 b25 k25 => ?_
  have k1525 := k23.tr k25
  have k025 := (k05.tr k515).tr k1525
  refine Join.intro (fun nm h' => nm = nameV p ∧ Upd No h25 h') (fun R hR => ?_) ?_
  · refine Join.intro (fun q h' => h' = h25 ∧ q = decide (0 ≤ p ∧ p < 4)) (fun R' hR' => ?_) ?_
    · refine condP_dec (fun e => hR' _ _ ⟨rfl, ?_⟩) fun e => hR' _ _ ⟨rfl, ?_⟩
      · rw [decide_eq_decide]; exact ⟨fun h => ⟨e, h⟩, fun h => h.2⟩
      · rw [decide_eq_false fun h => e h.1]
    rintro q h' ⟨rfl, rfl⟩
    refine condP_dec (fun e => ?_) fun e => ?_
    · refine at_new fun h30 b30 k30 => ?_
      refine ⟨⟨e.1, by have := e.2; omega⟩, _, rfl, ?_⟩
      have hp : p = 0 ∨ p = 1 ∨ p = 2 ∨ p = 3 := by omega
      rcases hp with rfl | rfl | rfl | rfl
      · exact ⟨nFail, vc b30 0, hR _ _ ⟨rfl, k30⟩⟩
      · exact ⟨nOurs, vc b30 1, hR _ _ ⟨rfl, k30⟩⟩
      · exact ⟨nTheirs, vc b30 2, hR _ _ ⟨rfl, k30⟩⟩
      · exact ⟨nKeep, vc b30 3, hR _ _ ⟨rfl, k30⟩⟩
    · refine hR _ _ ⟨?_, Upd.refl _ _⟩
      unfold nameV
      rw [if_neg (by omega), if_neg (by omega), if_neg (by omega), if_neg (by omega)]
  rintro nm h34 ⟨rfl, k34⟩
  have f15 := k34.get0 (k1525.get0 b15)
  have f25 := k34.get0 b25
  refine ⟨(takeSd b o t p).1.1, vc f15 0, (takeSd b o t p).1.2, vc f15 1, (takeSd b o t p).1.1, vc f25 0, (takeSd b o t p).1.2, vc f25 1, ?_⟩
  rw [sdEq (takeSd b o t p).1 (takeSd b o t p).1, decide_eq_true rfl]
  refine condP_true.2 ?_
  rw [beq_self_eq_true]
  refine condP_true.2 (mName_ok ?_)
  rw [beq_self_eq_true]
  have k534 := (k515.tr k1525).tr k34
  have g1 := k534.get0 c1
  have g2 := k534.get0 c2
  have g3 := k534.get0 c3
  refine condP_true.2 ⟨_, vc g1 0, _, vc g1 1, _, vc g2 0, _, vc g2 1, _, vc g3 0, _, vc g3 1, at_new fun h47 b47 k47 => ?_⟩
  have f47 := k47.get0 f15
  refine ⟨(takeSd b o t p).1.1, vc f47 0, (takeSd b o t p).1.2, vc f47 1, ?_⟩
  have hs : Sl sdF 2 No h47 ⟨some (newA h34), 3, 3⟩ [b, o, t] := ⟨rfl, sdF_ne, fun _ => ⟨_, rfl, fun h => h.elim, row_blk b47 fun i v hv => by simpa using hv⟩⟩
  exact contains_ok hs (by simp) (takeSd_mem b o t p) fun h51 k51 => ⟨rfl, ((k025.tr k34).tr k47).tr k51⟩
end Go.Proofs
