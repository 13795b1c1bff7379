/- A part of the proof that the named laws of this program answer true, whatever the input. -/
import Derived.Test.YtfbbjmjfkopdnaaGreatPart5
import Derived.Test.YtfbbjmjfkopdnaaGreatPart3
namespace Go.Proofs
open Go Go.Lift
theorem subS {α : Type} {f : α → List Value} {sz : Nat} {W : Nat → Prop} {h : Heap} {s : SliceV} {p : α} {l : List α} (hs : Sl f sz W h s (p :: l)) (hc : s.len ≤ s.cap) : Sl f sz W h ⟨subAddr s.a 1 s.cap sz, s.len - 1, s.cap - 1⟩ l := by
  have hl := hs.len
  rw [List.length_cons] at hl
  have := Sl.sub hs (l := 1) (hi := s.len) (m := s.cap) (c := s.cap - 1) (by omega) (by rw [List.length_cons]; omega) hc
  rw [show ((p :: l).drop 1).take (s.len - 1) = l by rw [List.drop_succ_cons, List.drop_zero]; exact List.take_of_length_le (by omega)] at this
  exact this
theorem rxN_det {W W' : Nat → Prop} {h : Heap} {b : Nat} {sl sl' : ByteArray} {w w' : Option ByteArray} {F F' : Fo} (r : RxN W h b sl w F) (r' : RxN W' h b sl' w' F') : sl = sl' ∧ w = w' ∧ F = F' := by
  obtain ⟨val, s, ow, ks, e2, e3, e4, e5, e6⟩ := r
  obtain ⟨val', s', ow', ks', f2, f3, f4, f5, f6⟩ := r'
  rw [e2] at f2
  simp only [Option.some.injEq, Obj.cells.injEq, and_true] at f2
  obtain ⟨g1, g2, rfl, rfl⟩ := rxC_inj f2
  have := Sl.det rxF_inj e4 f4
  subst this
  exact ⟨g1, opt_det g2 e3 f3, rx_det e6 f6⟩
theorem RxN.plain {W : Nat → Prop} {h : Heap} {b : Nat} {sl : ByteArray} {w : Option ByteArray} {F : Fo} (r : RxN W h b sl w F) : plainPtr h ⟨b, 0, none⟩ := by
  obtain ⟨val, s, ow, ks, hb, _⟩ := r
  exact plainB hb (by simp [rxC])
def NdO (W : Nat → Prop) (h : Heap) (pre : List UInt8) (r : Option Addr) (A : List Pr) : Prop := (r = none ∧ A = []) ∨ ∃ b sl n, r = some ⟨b, 0, none⟩ ∧ RxN W h b sl n.2.1 n.2.2 ∧ sl.data.toList = n.1 ∧ NodeK n pre ∧ A = pp pre n
theorem NdO.upd0 {W : Nat → Prop} {h h' : Heap} {pre : List UInt8} {r : Option Addr} {A : List Pr} (k : Upd No h h') (o : NdO W h pre r A) : NdO W h' pre r A := o.imp id fun ⟨b, sl, n, e1, e2, e3⟩ => ⟨b, sl, n, e1, e2.upd0 k, e3⟩
theorem someO_ok {W : Nat → Prop} {h : Heap} {ahead : ByteArray} {r : Option Addr} {A : List Pr} (o : NdO W h ahead.data.toList r A) (hl : A.length ≤ 1000000) {K : SliceV → Heap → Prop} (hk : ∀ s' h', OwnS prF 2 t_pair_Pair (fun y => h.size ≤ y) h' s' A → Upd No h h' → K s' h') : HC PG f_diff_some [.pointer r, .string ahead] [.c .slice] K h := by
  rcases o with ⟨rfl, rfl⟩ | ⟨b, sl, n, rfl, r, e, nk, rfl⟩
  · refine H_diff_some none ahead ?_
    unfold F_diff_some cAt iBd
    exact condP_true.2 (hk _ h (OwnS.nil prF_ne) (Upd.refl _ _))
  · exact someD_ok r e nk hl hk
theorem someLists_ok {W C : Nat → Prop} {h : Heap} {ahead : ByteArray} {r r' : Option Addr} {A B : List Pr} {L : List Ch} {sb : Nat} {z : Hs} (o : NdO W h ahead.data.toList r A) (o' : NdO W h ahead.data.toList r' B) (st : SetAt C h sb z L) (hA : A.length ≤ 1000000) (hB : B.length ≤ 1000000) (hL : L.length + A.length + B.length ≤ 10000000) {G : Unit → Heap → Prop} (hk : Told C h sb z (L ++ chg A B) (G ())) :
    HC PG f_diff_some [.pointer r, .string ahead] [.c .slice] (fun (e8 : SliceV) h9 => HC PG f_diff_some [.pointer r', .string ahead] [.c .slice] (fun (e10 : SliceV) h11 => HC PG f_diff_set_lists [.pointer (some ⟨sb, 0, none⟩), .slice e8.a e8.len e8.cap, .slice e10.a e10.len e10.cap] [] (fun (_ : Unit) h13 => G () h13) h11) h9) h := by
  refine someO_ok o hA fun s1 h1 ho1 k1 => someO_ok (o'.upd0 k1) hB fun s2 h2 ho2 k2 => ?_
  have s1z := k1.size
  obtain ⟨_, hsb, _⟩ := st.ex
  have zsb := get_lt hsb
  have ho1' := ho1.upd k2 fun _ _ h => h
  refine lists_ok (st.upd0 (k1.tr k2)) (ho1'.sl fun y hy _ hw => ?_) (ho2.sl fun y hy _ hw => ?_) ho1.cap ho2.cap (by omega) fun h3 C3 st3 hC3 hu3 => ?_
  · rcases hw with h | h
    · have := st.lt y h; omega
    · omega
  · rcases hw with h | h
    · have := st.lt y h; omega
    · omega
  · have s2z := k2.size
    exact hk h3 C3 st3 (fun y hy => (hC3 y hy).imp id fun h => by omega) ((k1.tr k2).wide.tr hu3)
theorem treesO_ok {W C : Nat → Prop} {h : Heap} {ahead : ByteArray} {r r' : Option Addr} {A B : List Pr} {L : List Ch} {sb : Nat} {z : Hs} (o : NdO W h ahead.data.toList r A) (o' : NdO W h ahead.data.toList r' B) (hn : r = none ∨ r' = none) (st : SetAt C h sb z L) (hA : A.length ≤ 1000000) (hB : B.length ≤ 1000000) (hL : L.length + A.length + B.length ≤ 10000000) {K : Unit → Heap → Prop} (hk : Told C h sb z (L ++ chg A B) (K ())) :
    HC PG f_diff_set_trees [.pointer (some ⟨sb, 0, none⟩), .pointer r, .pointer r', .string ahead] [] K h := by
  refine H_diff_set_trees _ r r' ahead ?_
  unfold F_diff_set_trees cAt iBd
  refine ⟨trivial, fun a a' e e' => by rcases hn with h | h <;> simp_all, CondP.intro (fun e => ?_) fun e => ?_⟩
  · have er : r = r' := by simpa using e
    have hr : r = none ∧ r' = none := by rcases hn with h | h <;> simp_all
    obtain ⟨rfl, rfl⟩ := hr
    obtain rfl : A = [] := by rcases o with ⟨_, h⟩ | ⟨_, _, _, h, _⟩; exact h; cases h
    obtain rfl : B = [] := by rcases o' with ⟨_, h⟩ | ⟨_, _, _, h, _⟩; exact h; cases h
    exact hk h C (by rw [chg_nilA, List.map_nil, List.append_nil]; exact st) (fun _ h => .inl h) (Upd.refl _ _)
  · refine Join.intro (fun t h' => t = true ∧ h' = h) (fun R hR => ?_) ?_
    · rcases hn with rfl | rfl
      · exact condP_true.2 (hR _ _ ⟨rfl, rfl⟩)
      · exact CondP.intro (fun _ => hR _ _ ⟨rfl, rfl⟩) fun _ => condP_true.2 (hR _ _ ⟨rfl, rfl⟩)
    · rintro t h' ⟨rfl, rfl⟩
      exact condP_true.2 (someLists_ok o o' st hA hB hL hk)
theorem lab0 {sl : ByteArray} {l : List UInt8} (e : sl.data.toList = l) (hl : l ≠ []) : ∃ c : UInt8, (0 : Int) ≤ 0 ∧ sl[(0 : Int).toNat]? = some c ∧ c.toNat = hd l := by
  match l, hl with
  | c :: l, _ =>
    refine ⟨c, Int.le_refl _, ?_, rfl⟩
    have hs : 0 < sl.size := by
      have : sl.data.toList.length = sl.size := Array.length_toList
      rw [← this, e]; simp
    have : sl.data[0]? = some c := by rw [← Array.getElem?_toList, e]; rfl
    rw [show (0 : Int).toNat = 0 from rfl]
    rw [getElem?_pos sl 0 hs]
    rw [Array.getElem?_eq_getElem hs] at this
    exact this
def TreesN (n : Bn) : Prop := ∀ {W C : Nat → Prop} {h : Heap} {b b' : Nat} {sl sl' ahead : ByteArray} {n' : Bn} {L : List Ch} {sb : Nat} {z : Hs}, RxN W h b sl n.2.1 n.2.2 → sl.data.toList = n.1 → RxN W h b' sl' n'.2.1 n'.2.2 → sl'.data.toList = n'.1 → NodeK n ahead.data.toList → NodeK n' ahead.data.toList → SetAt C h sb z L →
  (∀ y, C y ∨ y = sb → W y) → (∀ y, h.size ≤ y → W y) → (pp ahead.data.toList n).length ≤ 1000000 → (pp ahead.data.toList n').length ≤ 1000000 → L.length + (pp ahead.data.toList n).length + (pp ahead.data.toList n').length ≤ 10000000 →
  ∀ {K : Unit → Heap → Prop}, Told C h sb z (L ++ chg (pp ahead.data.toList n) (pp ahead.data.toList n')) (K ()) → HC PG f_diff_set_trees [.pointer (some ⟨sb, 0, none⟩), .pointer (some ⟨b, 0, none⟩), .pointer (some ⟨b', 0, none⟩), .string ahead] [] K h
theorem flat_low {key : List UInt8} {P : List Pr} {L : List Bn} (h : ∀ n ∈ L, ∀ p ∈ P, ∀ q ∈ pp key n, kl p.1 q.1) : ∀ p ∈ P, ∀ q ∈ L.flatMap (pp key), kl p.1 q.1 := by
  intro p hp q hq
  obtain ⟨n, hn, hq⟩ := List.mem_flatMap.1 hq
  exact h n hn p hp q hq
set_option maxHeartbeats 1000000 in
theorem treesN_of {lab : List UInt8} {w : Option ByteArray} {F : Fo} (ih : ∀ n ∈ F.toL, TreesN n) : TreesN (lab, w, F) := by
  intro W C h b b' sl sl' ahead n' L sb z r e r' e' nk nk' st hCW hWn hA hB hL K hk
  obtain ⟨lab', w', F'⟩ := n'
  simp only at r e r' e'
  refine H_diff_set_trees _ _ _ ahead ?_
  unfold F_diff_set_trees cAt iBd
  refine ⟨trivial, fun a a' e1 e2 => by cases e1; cases e2; exact ⟨r.plain, r'.plain⟩, CondP.intro (fun e1 => ?_) fun e1 => ?_⟩
  · obtain rfl : b = b' := by simpa using e1
    obtain ⟨rfl, rfl, rfl⟩ := rxN_det r r'
    subst e e'
    exact hk h C (by rw [chg_self, List.append_nil]; exact st) (fun _ h => .inl h) (Upd.refl _ _)
  clear e1
  refine Join.intro (fun t h' => h' = h ∧ t = !(decide (sl = sl'))) (fun R hR => ?_) ?_
  · refine condP_false.2 (condP_false.2 (rxLabel_ok r (rxLabel_ok r' (hR _ _ ⟨rfl, ?_⟩))))
    have eb : (sl.toList == sl'.toList) = decide (sl = sl') := beq_list
    rw [eb]
  rintro t h0 ⟨rfl, et⟩
  by_cases hsl : sl = sl'
  rotate_left
  · rw [decide_eq_false hsl] at et
    subst et
    refine condP_true.2 ?_
    exact someLists_ok (.inr ⟨b, sl, (lab, w, F), rfl, r, e, nk, rfl⟩) (.inr ⟨b', sl', (lab', w', F'), rfl, r', e', nk', rfl⟩) st hA hB hL hk
  rw [decide_eq_true hsl] at et
  subst et hsl
  obtain rfl : lab = lab' := by rw [← e, ← e']
  refine condP_false.2 (rxLabel_ok r ?_)
  have hkl := nk.len
  simp only at hkl
  have esz : ∀ k : ByteArray, k.size = k.data.toList.length := fun k => by rw [Array.length_toList]; rfl
  have e1 := esz ahead
  have e2 := esz sl
  rw [e] at e2
  refine ⟨by omega, ?_⟩
  have ekey : (ahead ++ sl).data.toList = ahead.data.toList ++ lab := by rw [← strE, e]
  rw [pp_eq, List.length_append] at hA hB
  rw [pp_eq, pp_eq, List.length_append, List.length_append] at hL
  rw [pp_eq, pp_eq] at hk
  have hcF := canF_iff.1 nk.can
  have hcF' := canF_iff.1 nk'.can
  have hkid : ∀ m ∈ F.toL, NodeK m (ahead ++ sl).data.toList := fun m hm => by rw [ekey]; exact nk.kid hm
  have hkid' : ∀ m ∈ F'.toL, NodeK m (ahead ++ sl).data.toList := fun m hm => by rw [ekey]; exact nk'.kid hm
  rw [← ekey] at hA hB hL hk
  generalize ahead ++ sl = key at ekey hkid hkid' hA hB hL hk ⊢
  have hown : ∀ {u : Option ByteArray}, Rises (ownP key.data.toList u) := fun {u} => by cases u <;> simp [ownP, Rises]
  rw [chg_app hown hown (flat_low fun m hm => pp_own (hcF.2 m hm).1) (flat_low fun m hm => pp_own (hcF'.2 m hm).1) (flat_low fun m hm => pp_own (hcF.2 m hm).1) (flat_low fun m hm => pp_own (hcF'.2 m hm).1), ← List.append_assoc] at hk
  -- the nodes' own pairs
  refine own_diff_ok r fun s1 h1 ho1 k1 => own_diff_ok (r'.upd0 k1) fun s2 h2 ho2 k2 => ?_
  have k12 := k1.tr k2
  have s1z := k1.size
  have s2z := k2.size
  obtain ⟨_, hsb, _⟩ := st.ex
  have zsb := get_lt hsb
  refine lists_ok (st.upd0 k12) ((ho1.upd k2 fun _ _ h => h).sl fun y hy _ hw => ?_) (ho2.sl fun y hy _ hw => ?_) ho1.cap ho2.cap (by omega) fun h3 C3 st3 hC3 hu3 => ?_
  · rcases hw with h | h
    · have := st.lt y h; omega
    · omega
  · rcases hw with h | h
    · have := st.lt y h; omega
    · omega
  have hlo : ∀ u v : Option ByteArray, (chg (ownP key.data.toList u) (ownP key.data.toList v)).length ≤ (ownP key.data.toList u).length + (ownP key.data.toList v).length := fun u v => chg_len hown hown
  have hlo := hlo w w'
  generalize chg (ownP key.data.toList w) (ownP key.data.toList w') = X at st3 hk hlo
  generalize (ownP key.data.toList w).length = x1 at hA hL hlo
  generalize (ownP key.data.toList w').length = x2 at hB hL hlo
  -- the kids
  have hM3 : ∀ y, C y ∨ y = sb → W y ∨ h2.size ≤ y := fun y hy => .inl (hCW y hy)
  have s3z := hu3.size
  refine rxKids_ok ((r.upd0 k12).updM hu3 hM3) (can_len nk.can) fun s4 h4 ks ho4 hL4 k4 => ?_
  refine rxKids_ok (((r'.upd0 k12).updM hu3 hM3).upd0 k4) (can_len nk'.can) fun s5 h5 ks' ho5 hL5 k5 => ?_
  have s4z := k4.size
  have s5z := k5.size
  obtain ⟨_, hsb3, _⟩ := st3.ex
  have zsb3 := get_lt hsb3
  have st5 := st3.upd0 (k4.tr k5)
  have hW5 : ∀ y, h5.size ≤ y → W y := fun y hy => hWn y (by omega)
  have hC3W : ∀ y, C3 y ∨ y = sb → W y := fun y hy => hy.elim (fun h => (hC3 y h).elim (fun h => hCW y (.inl h)) fun h => hWn y (by omega)) fun h => hCW y (.inr h)
  have hv4 : Sl rxF 1 (fun y => C3 y ∨ y = sb ∨ h5.size ≤ y) h5 s4 ks := (ho4.sl (W := fun y => C3 y ∨ y = sb ∨ h5.size ≤ y) fun y hy hl hw => by
    rcases hw with h | h | h
    · have := st3.lt y h; omega
    · omega
    · omega).upd k5 fun _ h => h.elim
  have hv5 : Sl rxF 1 (fun y => C3 y ∨ y = sb ∨ h5.size ≤ y) h5 s5 ks' := ho5.sl (W := fun y => C3 y ∨ y = sb ∨ h5.size ≤ y) fun y hy hl hw => by
    rcases hw with h | h | h
    · have := st3.lt y h; omega
    · omega
    · omega
  have hku : Upd (fun y => C y ∨ y = sb) h0 h5 := (k12.wide.tr hu3).tr (k4.tr k5).wide
  have hC5 : ∀ y, C3 y → C y ∨ h0.size ≤ y := fun y hy => (hC3 y hy).imp id fun h => by omega
  refine LoopP.ghost (fun (g : (List (Option Addr) × List Bn) × (List (Option Addr) × List Bn) × List Ch × (Nat → Prop)) (t : SliceV × SliceV) h' => SetAt g.2.2.2 h' sb z g.2.2.1 ∧ (∀ y, g.2.2.2 y → C3 y ∨ h5.size ≤ y) ∧ Upd (fun y => C3 y ∨ y = sb) h5 h' ∧ Sl rxF 1 (fun y => C3 y ∨ y = sb ∨ h5.size ≤ y) h' t.1 g.1.1 ∧ Sl rxF 1 (fun y => C3 y ∨ y = sb ∨ h5.size ≤ y) h' t.2 g.2.1.1 ∧ t.1.len ≤ t.1.cap ∧ t.2.len ≤ t.2.cap ∧
      RxL W h' g.1.1 g.1.2 ∧ RxL W h' g.2.1.1 g.2.1.2 ∧ (∀ m ∈ g.1.2, m ∈ F.toL) ∧ (∀ m ∈ g.2.1.2, m ∈ F'.toL) ∧ g.1.2.Pairwise (fun m n => hd m.1 < hd n.1) ∧ g.2.1.2.Pairwise (fun m n => hd m.1 < hd n.1) ∧
      g.2.2.1 ++ chg (g.1.2.flatMap (pp key.data.toList)) (g.2.1.2.flatMap (pp key.data.toList)) = (L ++ X) ++ chg (F.toL.flatMap (pp key.data.toList)) (F'.toL.flatMap (pp key.data.toList)) ∧
      g.2.2.1.length + (g.1.2.flatMap (pp key.data.toList)).length + (g.2.1.2.flatMap (pp key.data.toList)).length ≤ 10000000 ∧ (g.1.2.flatMap (pp key.data.toList)).length ≤ 1000000 ∧ (g.2.1.2.flatMap (pp key.data.toList)).length ≤ 1000000)
    (fun g => g.1.2.length + g.2.1.2.length) ((ks, F.toL), (ks', F'.toL), L ++ X, C3)
    ⟨st5, fun _ h => .inl h, Upd.refl _ _, hv4, hv5, ho4.cap, ho5.cap, hL4.upd0 k5, hL5, fun _ h => h, fun _ h => h, hcF.1, hcF'.1, rfl, by rw [List.length_append]; simp only; omega, by (try simp only); omega, by (try simp only); omega⟩ ?_
  rintro I ⟨⟨ka, La⟩, ⟨kb, Lb⟩, L1, C1⟩ ⟨t1, t2⟩ h1' ⟨st1, hC1, hu1, hs1, hs2, hc1, hc2, hRa, hRb, hma, hmb, hpa, hpb, he, hl1, hl2, hl3⟩ hI
  simp only at st1 hC1 hs1 hs2 hc1 hc2 hRa hRb hma hmb hpa hpb he hl1 hl2 hl3
  have z1 : t1.len = La.length := hs1.len.trans hRa.1
  have z2 : t2.len = Lb.length := hs2.len.trans hRb.1
  have hC1W : ∀ y, C1 y ∨ y = sb → W y := fun y hy => hy.elim (fun h => (hC1 y h).elim (fun h => hC3W y (.inl h)) (hW5 y)) fun h => hC3W y (.inr h)
  have hW1 : ∀ y, h1'.size ≤ y → W y := fun y hy => hW5 y (Nat.le_trans hu1.size hy)
  -- one step on, whatever was told
  have go : ∀ (c : List Ch) (u1 u2 : SliceV) (ka2 kb2 : List (Option Addr)) (A2 B2 : List Bn) (h2 : Heap) (C2 : Nat → Prop), SetAt C2 h2 sb z (L1 ++ c) → (∀ y, C2 y → C1 y ∨ h1'.size ≤ y) → Upd (fun y => C1 y ∨ y = sb) h1' h2 → chg (La.flatMap (pp key.data.toList)) (Lb.flatMap (pp key.data.toList)) = c ++ chg (A2.flatMap (pp key.data.toList)) (B2.flatMap (pp key.data.toList)) →
      c.length + (A2.flatMap (pp key.data.toList)).length + (B2.flatMap (pp key.data.toList)).length ≤ (La.flatMap (pp key.data.toList)).length + (Lb.flatMap (pp key.data.toList)).length → (A2.flatMap (pp key.data.toList)).length ≤ 1000000 → (B2.flatMap (pp key.data.toList)).length ≤ 1000000 →
      Sl rxF 1 (fun y => C3 y ∨ y = sb ∨ h5.size ≤ y) h1' u1 ka2 → Sl rxF 1 (fun y => C3 y ∨ y = sb ∨ h5.size ≤ y) h1' u2 kb2 → u1.len ≤ u1.cap → u2.len ≤ u2.cap → RxL W h1' ka2 A2 → RxL W h1' kb2 B2 → A2.Sublist La → B2.Sublist Lb → A2.length + B2.length < La.length + Lb.length → I (u1, u2) h2 := by
    intro c u1 u2 ka2 kb2 A2 B2 h2 C2 st2 hC2 hu2 ec hlc hlA hlB v1 v2 w1 w2 ra rb sa sb' hlt
    have hm : ∀ y, C1 y ∨ y = sb → (C3 y ∨ y = sb ∨ h5.size ≤ y) ∨ h1'.size ≤ y := fun y hy => .inl (hy.elim (fun h => (hC1 y h).imp id .inr) fun h => .inr (.inl h))
    have hmW : ∀ y, C1 y ∨ y = sb → W y ∨ h1'.size ≤ y := fun y hy => .inl (hC1W y hy)
    refine hI ((ka2, A2), (kb2, B2), L1 ++ c, C2) (u1, u2) h2 ⟨st2, fun y hy => ?_, ?_, v1.upd hu2 hm, v2.upd hu2 hm, w1, w2, ra.updN hu2 hmW, rb.updN hu2 hmW, fun m hm => hma m (sa.subset hm), fun m hm => hmb m (sb'.subset hm), hpa.sublist sa, hpb.sublist sb', ?_, ?_, hlA, hlB⟩ hlt
    · rcases hC2 y hy with h | h
      · exact hC1 y h
      · exact .inr (Nat.le_trans hu1.size h)
    · exact hu1.trans hu2 fun y hy => hy.elim (fun h => (hC1 y h).imp .inl id) fun h => .inl (.inr h)
    · show (L1 ++ c) ++ _ = _
      rw [List.append_assoc, ← ec, he]
    · show (L1 ++ c).length + (A2.flatMap (pp key.data.toList)).length + (B2.flatMap (pp key.data.toList)).length ≤ 10000000
      rw [List.length_append]; omega
  refine Join.intro (fun t h' => h' = h1' ∧ (t = true ↔ La ≠ [] ∨ Lb ≠ [])) (fun R hR => ?_) ?_
  · refine condP_dec (fun hp => hR _ _ ⟨rfl, ?_⟩) fun hp => hR _ _ ⟨rfl, ?_⟩
    · have hp : (t1.len : Int) > 0 := hp
      simp only [true_iff]
      left; intro e; rw [e] at z1; simp only [List.length_nil] at z1; omega
    · have hp : ¬ (t1.len : Int) > 0 := hp
      have e1 : La = [] := List.length_eq_zero_iff.1 (by omega)
      show decide ((t2.len : Int) > 0) = true ↔ _
      rw [decide_eq_true_iff]
      constructor
      · intro h; right; intro e; rw [e] at z2; simp only [List.length_nil] at z2; omega
      · intro h
        rcases h with h | h
        · exact absurd e1 h
        · have := List.length_pos_iff.2 h; omega
  rintro t h6 ⟨rfl, ht⟩
  refine CondP.intro (fun et => ?_) fun et => ?_
  rotate_left
  · have hn : La = [] ∧ Lb = [] := by
      rw [et] at ht
      constructor
      · exact Decidable.byContradiction fun h => absurd (ht.2 (.inl h)) (by simp)
      · exact Decidable.byContradiction fun h => absurd (ht.2 (.inr h)) (by simp)
    obtain ⟨rfl, rfl⟩ := hn
    rw [List.flatMap_nil, chg_nilA, List.map_nil, List.append_nil] at he
    subst he
    exact hk h6 C1 st1 (fun y hy => (hC1 y hy).elim (hC5 y) fun h => .inr (by omega)) (hku.trans hu1 fun y hy => hy.elim (fun h => (hC5 y h).imp .inl id) fun h => .inl (.inr h))
  have hne := ht.1 et
  clear ht et
  have hna : ∀ m ∈ La, m.1 ≠ [] := fun m hm => (hcF.2 m (hma m hm)).1
  have hnb : ∀ m ∈ Lb, m.1 ≠ [] := fun m hm => (hcF'.2 m (hmb m hm)).1
  refine Join.intro (fun t h' => h' = h6 ∧ ((t = true ∧ ∃ a A', La = a :: A' ∧ ∀ q ∈ Lb, hd a.1 < hd q.1) ∨ (t = false ∧ ∃ b B', Lb = b :: B' ∧ (La = [] ∨ ∃ a A', La = a :: A' ∧ ¬ hd a.1 < hd b.1)))) (fun R hR => ?_) ?_
  · rcases Lb with _ | ⟨q, B'⟩
    · rcases La with _ | ⟨a, A'⟩
      · exact absurd hne (by simp)
      rw [show (((t2.len : Nat) : Int) == 0) = true by rw [z2]; rfl]
      exact condP_true.2 (hR _ _ ⟨rfl, .inl ⟨rfl, a, A', rfl, fun q hq => absurd hq List.not_mem_nil⟩⟩)
    · rw [List.length_cons] at z2
      rw [show (((t2.len : Nat) : Int) == 0) = false by rw [beq_eq_false_iff_ne]; omega]
      refine condP_false.2 ?_
      rcases La with _ | ⟨a, A'⟩
      · rw [List.length_nil] at z1
        rw [decide_eq_false (show ¬ ((t1.len : Int) > 0) by omega)]
        exact condP_false.2 (hR _ _ ⟨rfl, .inr ⟨rfl, q, B', rfl, .inl rfl⟩⟩)
      · rw [List.length_cons] at z1
        rw [decide_eq_true (show ((t1.len : Int) > 0) by omega)]
        obtain ⟨b1, l1, g1, g2, g3⟩ := hRa.at (i := 0) (Nat.succ_pos _)
        obtain ⟨b2, l2, f1, f2, f3⟩ := hRb.at (i := 0) (Nat.succ_pos _)
        simp only [List.getElem_cons_zero] at g2 g3 f2 f3
        obtain ⟨a1, ha1, _, v1⟩ := hs1.at0 g1
        obtain ⟨a2, ha2, _, v2⟩ := hs2.at0 f1
        obtain ⟨c1, cc1, cd1, ce1⟩ := lab0 g2 (hna a (List.mem_cons_self ..))
        obtain ⟨c2, cc2, cd2, ce2⟩ := lab0 f2 (hnb q (List.mem_cons_self ..))
        refine condP_true.2 ⟨⟨by (try simp only); omega, by (try simp only); omega⟩, a1, ha1, _, v1, ⟨by (try simp only); omega, by (try simp only); omega⟩, a2, ha2, _, v2, rxLabel_ok g3 ⟨v2, c1, cc1, cd1, rxLabel_ok f3 ⟨c2, cc2, cd2, hR _ _ ⟨rfl, ?_⟩⟩⟩⟩
        rw [ce1, ce2]
        by_cases hlt : hd a.1 < hd q.1
        · refine .inl ⟨decide_eq_true (by omega), a, A', rfl, fun m hm => ?_⟩
          rcases List.mem_cons.1 hm with rfl | hm
          · exact hlt
          · exact Nat.lt_trans hlt ((List.pairwise_cons.1 hpb).1 m hm)
        · exact .inr ⟨decide_eq_false (by omega), q, B', rfl, .inr ⟨a, A', rfl, hlt⟩⟩
  rintro t h7 ⟨rfl, ⟨rfl, a, A', rfl, hlow⟩ | ⟨rfl, q, B', rfl, hor⟩⟩
  · -- a kid of the first alone
    rw [List.length_cons] at z1
    obtain ⟨b1, l1, g1, g2, g3⟩ := hRa.at (i := 0) (Nat.succ_pos _)
    simp only [List.getElem_cons_zero] at g2 g3
    obtain ⟨a1, ha1, _, v1⟩ := hs1.at0 g1
    rw [List.flatMap_cons, List.length_append] at hl1 hl2
    refine condP_true.2 ⟨⟨by (try simp only); omega, by (try simp only); omega⟩, a1, ha1, _, v1, ?_⟩
    refine treesO_ok (A := pp key.data.toList a) (B := []) (.inr ⟨b1, l1, a, rfl, g3, g2, hkid a (hma a (List.mem_cons_self ..)), rfl⟩) (.inl ⟨rfl, rfl⟩) (.inr rfl) st1 (by omega) (Nat.zero_le _) (by rw [List.length_nil]; omega) fun h8 C8 st8 hC8 hu8 => ?_
    refine ⟨⟨by (try simp only); omega, by (try simp only); omega⟩, ?_⟩
    simp only [Bd]
    rcases ka with _ | ⟨k0, ka⟩
    · simp at g1
    have ca := hcF.2 a (hma a (List.mem_cons_self ..))
    have hp := List.pairwise_cons.1 hpa
    refine go (chg (pp key.data.toList a) []) _ t2 ka kb A' Lb h8 C8 st8 hC8 hu8 ?_ ?_ (by omega) hl3 (subS hs1 hc1) hs2 (by show t1.len - 1 ≤ t1.cap - 1; omega) hc2 (hRa.drop 1) hRb (List.sublist_cons_self ..) (.refl _) (by rw [List.length_cons]; omega)
    · rw [List.flatMap_cons]
      exact chg_app (B1 := []) (rises_pp ca.2.2) .nil (flat_low fun m hm => pp_hd ca.1 (hna m (List.mem_cons_of_mem _ hm)) (hp.1 m hm)) (flat_low fun m hm => pp_hd ca.1 (hnb m hm) (hlow m hm)) (fun p hp => absurd hp List.not_mem_nil) (fun p hp => absurd hp List.not_mem_nil)
    · have := chg_len (rises_pp (pre := key.data.toList) ca.2.2) (B := []) .nil
      rw [List.flatMap_cons, List.length_append]
      rw [List.length_nil] at this
      omega
  refine condP_false.2 ?_
  rw [List.length_cons] at z2
  obtain ⟨b2, l2, f1, f2, f3⟩ := hRb.at (i := 0) (Nat.succ_pos _)
  simp only [List.getElem_cons_zero] at f2 f3
  obtain ⟨a2, ha2, _, v2⟩ := hs2.at0 f1
  obtain ⟨c2, cc2, cd2, ce2⟩ := lab0 f2 (hnb q (List.mem_cons_self ..))
  rcases kb with _ | ⟨k0', kb⟩
  · simp at f1
  have cb := hcF'.2 q (hmb q (List.mem_cons_self ..))
  have hpq := List.pairwise_cons.1 hpb
  rw [List.flatMap_cons (f := pp key.data.toList), List.length_append] at hl3
  rw [List.flatMap_cons (f := pp key.data.toList) (x := q), List.length_append] at hl1
  refine Join.intro (fun t h' => h' = h7 ∧ ((t = true ∧ ∀ p ∈ La, hd q.1 < hd p.1) ∨ (t = false ∧ ∃ a A', La = a :: A' ∧ hd a.1 = hd q.1))) (fun R hR => ?_) ?_
  · rcases hor with rfl | ⟨a, A', rfl, hnl⟩
    · rw [show (((t1.len : Nat) : Int) == 0) = true by rw [z1]; rfl]
      exact condP_true.2 (hR _ _ ⟨rfl, .inl ⟨rfl, fun p hp => absurd hp List.not_mem_nil⟩⟩)
    · rw [List.length_cons] at z1
      rw [show (((t1.len : Nat) : Int) == 0) = false by rw [beq_eq_false_iff_ne]; omega]
      obtain ⟨b1, l1, g1, g2, g3⟩ := hRa.at (i := 0) (Nat.succ_pos _)
      simp only [List.getElem_cons_zero] at g2 g3
      obtain ⟨a1, ha1, _, v1⟩ := hs1.at0 g1
      obtain ⟨c1, cc1, cd1, ce1⟩ := lab0 g2 (hna a (List.mem_cons_self ..))
      refine condP_false.2 ⟨⟨by (try simp only); omega, by (try simp only); omega⟩, a2, ha2, _, v2, ⟨by (try simp only); omega, by (try simp only); omega⟩, a1, ha1, _, v1, rxLabel_ok f3 ⟨v1, c2, cc2, cd2, rxLabel_ok g3 ⟨c1, cc1, cd1, hR _ _ ⟨rfl, ?_⟩⟩⟩⟩
      rw [ce1, ce2]
      by_cases hlt : hd q.1 < hd a.1
      · refine .inl ⟨decide_eq_true (by omega), fun m hm => ?_⟩
        rcases List.mem_cons.1 hm with rfl | hm
        · exact hlt
        · exact Nat.lt_trans hlt ((List.pairwise_cons.1 hpa).1 m hm)
      · exact .inr ⟨decide_eq_false (by omega), a, A', rfl, by omega⟩
  rintro t h8 ⟨rfl, ⟨rfl, hlow⟩ | ⟨rfl, a, A', rfl, heq⟩⟩
  · -- a kid of the other alone
    refine condP_true.2 ⟨⟨by (try simp only); omega, by (try simp only); omega⟩, a2, ha2, _, v2, ?_⟩
    refine treesO_ok (A := []) (B := pp key.data.toList q) (.inl ⟨rfl, rfl⟩) (.inr ⟨b2, l2, q, rfl, f3, f2, hkid' q (hmb q (List.mem_cons_self ..)), rfl⟩) (.inl rfl) st1 (Nat.zero_le _) (by omega) (by rw [List.length_nil]; omega) fun h9 C9 st9 hC9 hu9 => ?_
    refine ⟨⟨by (try simp only); omega, by (try simp only); omega⟩, ?_⟩
    simp only [Bd]
    refine go (chg [] (pp key.data.toList q)) t1 _ ka kb La B' h9 C9 st9 hC9 hu9 ?_ ?_ hl2 (by omega) hs1 (subS hs2 hc2) hc1 (by show t2.len - 1 ≤ t2.cap - 1; omega) hRa (hRb.drop 1) (.refl _) (List.sublist_cons_self ..) (by rw [List.length_cons]; omega)
    · rw [List.flatMap_cons]
      exact chg_app (A1 := []) .nil (rises_pp cb.2.2) (fun p hp => absurd hp List.not_mem_nil) (fun p hp => absurd hp List.not_mem_nil) (flat_low fun m hm => pp_hd cb.1 (hna m hm) (hlow m hm)) (flat_low fun m hm => pp_hd cb.1 (hnb m (List.mem_cons_of_mem _ hm)) (hpq.1 m hm))
    · have := chg_len (A := []) (B := pp key.data.toList q) .nil (rises_pp cb.2.2)
      rw [List.flatMap_cons, List.length_append]
      rw [List.length_nil] at this
      omega
  · -- both
    rw [List.length_cons] at z1
    obtain ⟨b1, l1, g1, g2, g3⟩ := hRa.at (i := 0) (Nat.succ_pos _)
    simp only [List.getElem_cons_zero] at g2 g3
    obtain ⟨a1, ha1, _, v1⟩ := hs1.at0 g1
    rcases ka with _ | ⟨k0, ka⟩
    · simp at g1
    have ca := hcF.2 a (hma a (List.mem_cons_self ..))
    have hp := List.pairwise_cons.1 hpa
    rw [List.flatMap_cons, List.length_append] at hl1 hl2
    refine condP_false.2 ⟨⟨by (try simp only); omega, by (try simp only); omega⟩, a1, ha1, _, v1, ⟨by (try simp only); omega, by (try simp only); omega⟩, a2, ha2, _, v2, ?_⟩
    refine ih a (hma a (List.mem_cons_self ..)) (n' := q) g3 g2 f3 f2 (hkid a (hma a (List.mem_cons_self ..))) (hkid' q (hmb q (List.mem_cons_self ..))) st1 hC1W hW1 (by omega) (by omega) (by omega) fun h9 C9 st9 hC9 hu9 => ?_
    refine ⟨⟨by (try simp only); omega, by (try simp only); omega⟩, ?_⟩
    simp only [Bd]
    refine ⟨⟨by (try simp only); omega, by (try simp only); omega⟩, ?_⟩
    refine go (chg (pp key.data.toList a) (pp key.data.toList q)) _ _ ka kb A' B' h9 C9 st9 hC9 hu9 ?_ ?_ (by omega) (by omega) (subS hs1 hc1) (subS hs2 hc2) (by show t1.len - 1 ≤ t1.cap - 1; omega) (by show t2.len - 1 ≤ t2.cap - 1; omega) (hRa.drop 1) (hRb.drop 1) (List.sublist_cons_self ..) (List.sublist_cons_self ..) (by rw [List.length_cons, List.length_cons]; omega)
    · rw [List.flatMap_cons, List.flatMap_cons]
      exact chg_app (rises_pp ca.2.2) (rises_pp cb.2.2) (flat_low fun m hm => pp_hd ca.1 (hna m (List.mem_cons_of_mem _ hm)) (hp.1 m hm)) (flat_low fun m hm => pp_hd ca.1 (hnb m (List.mem_cons_of_mem _ hm)) (by rw [heq]; exact hpq.1 m hm)) (flat_low fun m hm => pp_hd cb.1 (hna m (List.mem_cons_of_mem _ hm)) (by rw [← heq]; exact hp.1 m hm)) (flat_low fun m hm => pp_hd cb.1 (hnb m (List.mem_cons_of_mem _ hm)) (hpq.1 m hm))
    · have := chg_len (rises_pp (pre := key.data.toList) ca.2.2) (rises_pp (pre := key.data.toList) cb.2.2)
      rw [List.flatMap_cons, List.flatMap_cons, List.length_append, List.length_append]
      omega
theorem treesN_all : ∀ {F : Fo}, CanF F → ∀ n ∈ F.toL, TreesN n
  | .nil, _, n, hn => by simp [Fo.toL] at hn
  | .cons lab w kids rest, h, n, hn => by
    rcases List.mem_cons.1 hn with rfl | hn
    · exact treesN_of (treesN_all h.2.2.1)
    · exact treesN_all h.2.2.2.2 n hn
end Go.Proofs
namespace Go.Proofs
open Go Go.Lift
theorem insSort_chF {lt : Ch → Ch → Bool} (w : WO lt) {M : Nat → Prop} {Iv : Heap → Prop} {cmp : Value} (hc : Cmp lt chF M Iv cmp) {h : Heap} {s : SliceV} {A S B : List (Ch)} (ho : OwnS chF 5 t_diff_Change M h s (A ++ (S ++ B))) (hi : Iv h) (hn : s.len ≤ 1000000000) {a b : Nat} (ha : a = A.length) (hb : b = A.length + S.length) {K : Unit → Heap → Prop}
    (hk : ∀ h' R, OwnS chF 5 t_diff_Change M h' s (A ++ (R ++ B)) → St lt S R → Upd M h h' → K () h') : HC PG f_slices_insertionSortCmpFunc_diff_Change [.slice s.a s.len s.cap, .int .i64 a, .int .i64 b, cmp] [] K h := by
  subst ha hb
  refine H_slices_insertionSortCmpFunc_diff_Change s A.length (A.length + S.length : Nat) cmp ?_
  unfold F_slices_insertionSortCmpFunc_diff_Change cAt iBd
  have hlen := ho.len
  simp only [List.length_append] at hlen
  have ea : IntKind.wrap .i64 ((A.length : Int) + 1) = ((A.length + 1 : Nat) : Int) := by rw [w64 (by omega)]; omega
  rw [ea]
  refine LoopP.ghost (fun (g : List (Ch) × List (Ch) × List (Ch)) (t : Int) h' => t = ((A.length + max 1 g.1.length : Nat) : Int) ∧ S = g.1 ++ g.2.2 ∧ (g.1 = [] → g.2.2 = []) ∧ St lt g.1 g.2.1 ∧ OwnS chF 5 t_diff_Change M h' s (A ++ (g.2.1 ++ (g.2.2 ++ B))) ∧ Upd M h h') (fun g => g.2.2.length) (S.take 1, S.take 1, S.drop 1)
    ⟨?_, (List.take_append_drop ..).symm, fun e => ?_, ⟨Eqf.rfl _, ?_⟩, by rw [← List.append_assoc (S.take 1), List.take_append_drop]; exact ho, Upd.refl _ _⟩ ?_
  · simp only [List.length_take]; omega
  · have := congrArg List.length e
    simp only [List.length_take, List.length_nil] at this
    exact List.length_eq_zero_iff.1 (by simp only [List.length_drop]; omega)
  · match S with
    | [] => exact Srt.nil
    | x :: S => exact Srt.one x
  rintro I ⟨S1, R1, T⟩ t h' ⟨e1, e2, hemp, hst, ho', hu⟩ hI
  simp only at e1 e2 hemp hst ho'
  subst e1 e2
  simp only [List.length_append] at hlen
  have hR1 := hst.eqf.len
  refine condP_dec (fun hlt => ?_) fun hge => ?_
  · simp only [List.length_append] at hlt
    have hS1 : S1 ≠ [] := fun e => by
      have := hemp e
      subst e; subst this
      simp only [List.length_nil] at hlt; omega
    have hS1l : 0 < S1.length := List.length_pos_iff.2 hS1
    match T with
    | [] => simp only [List.length_nil] at hlt; omega
    | x :: T =>
      have emax : A.length + max 1 S1.length = A.length + S1.length := by omega
      rw [emax]
      refine LoopP.ghost (fun (g : List (Ch) × List (Ch)) (t : Int) h2 => t = ((A.length + g.1.length : Nat) : Int) ∧ R1 = g.1 ++ g.2 ∧ (∀ y ∈ g.2, lt x y = true) ∧ OwnS chF 5 t_diff_Change M h2 s (A ++ (g.1 ++ (x :: (g.2 ++ (T ++ B))))) ∧ Upd M h h2) (fun g => g.1.length) (R1, [])
        ⟨by simp only; omega, by simp, fun y hy => (by cases hy), by simpa using ho', hu⟩ ?_
      rintro I2 ⟨L, G⟩ t2 h2 ⟨e1, e2, hG, ho2, hu2⟩ hI2
      simp only at e1 e2 hG ho2
      subst e1 e2
      simp only [List.length_append] at hR1
      simp only [List.length_cons] at hlen
      refine Join.intro (fun t h3 => Upd M h h3 ∧ OwnS chF 5 t_diff_Change M h3 s (A ++ (L ++ (x :: (G ++ (T ++ B))))) ∧ (t = true → ∃ L' y, L = L' ++ [y] ∧ lt x y = true) ∧ (t = false → ∀ y ∈ L, lt x y = false)) (fun Rj hRj => ?_) ?_
      · refine condP_dec (fun hgt => ?_) fun hle => ?_
        · rcases eq_snoc L with rfl | ⟨L', y, rfl⟩
          · simp only [List.length_nil] at hgt; omega
          have hlL : (L' ++ [y]).length = L'.length + 1 := by simp
          have ew : IntKind.wrap .i64 (((A.length + (L' ++ [y]).length : Nat) : Int) - 1) = ((A.length + L'.length : Nat) : Int) := by rw [hlL, w64 (by omega)]; omega
          rw [ew]
          have f1 : A ++ ((L' ++ [y]) ++ (x :: (G ++ (T ++ B)))) = (A ++ L') ++ y :: (x :: (G ++ (T ++ B))) := by simp
          have f2 : A ++ ((L' ++ [y]) ++ (x :: (G ++ (T ++ B)))) = (A ++ (L' ++ [y])) ++ x :: (G ++ (T ++ B)) := by simp
          have o3 := ho2
          have o4 := ho2
          rw [f1] at o3
          rw [f2] at o4
          obtain ⟨a, ha, hy⟩ := readApp o3 (i := A.length + L'.length) (by first | omega | (simp; done) | (simp; omega))
          obtain ⟨a', ha', hx⟩ := readApp o4 (i := A.length + (L' ++ [y]).length) (by first | omega | (simp; done) | (simp; omega))
          rw [ha] at ha'; cases ha'
          refine ⟨⟨by omega, by omega⟩, a, ha, x.1, hx 0 _ rfl, x.2.1, hx 1 _ rfl, x.2.2.1, hx 2 _ rfl, x.2.2.2.1, hx 3 _ rfl, x.2.2.2.2, hx 4 _ rfl, ⟨by omega, by omega⟩, a, ha, y.1, hy 0 _ rfl, y.2.1, hy 1 _ rfl, y.2.2.1, hy 2 _ rfl, y.2.2.2.1, hy 3 _ rfl, y.2.2.2.2, hy 4 _ rfl, ?_⟩
          refine hc.call x y (hc.step hu2 hi) fun h5 e k5 he => ?_
          rw [he]
          have ho5 := ho2.upd k5 fun _ _ h => h
          refine hRj _ _ ⟨hu2.tr k5.wide, ho5, fun h => ⟨L', y, rfl, h⟩, fun h z hz => ?_⟩
          have hs := hst.srt.left
          rcases List.mem_append.1 hz with hz | hz
          · exact w.ntr x y z h (hs.cross z hz y (List.mem_singleton.2 rfl))
          · rw [List.mem_singleton.1 hz]; exact h
        · have hL : L = [] := List.length_eq_zero_iff.1 (by omega)
          exact hRj _ _ ⟨hu2, ho2, fun h => (by cases h), fun _ y hy => (by rw [hL] at hy; cases hy)⟩
      · rintro t3 h3 ⟨hu3, ho3, ht, hf⟩
        cases t3 with
        | true =>
          obtain ⟨L', y, rfl, hxy⟩ := ht rfl
          have hlL : (L' ++ [y]).length = L'.length + 1 := by simp
          refine condP_true.2 ?_
          have ew : IntKind.wrap .i64 (((A.length + (L' ++ [y]).length : Nat) : Int) - 1) = ((A.length + L'.length : Nat) : Int) := by rw [hlL, w64 (by omega)]; omega
          rw [ew]
          have f1 : A ++ ((L' ++ [y]) ++ (x :: (G ++ (T ++ B)))) = (A ++ L') ++ y :: (x :: (G ++ (T ++ B))) := by simp
          have f2 : (A ++ L') ++ y :: (x :: (G ++ (T ++ B))) = (A ++ (L' ++ [y])) ++ x :: (G ++ (T ++ B)) := by simp
          have f3 : (A ++ (L' ++ [y])) ++ y :: (G ++ (T ++ B)) = (A ++ L') ++ y :: (y :: (G ++ (T ++ B))) := by simp
          have f4 : (A ++ L') ++ x :: (y :: (G ++ (T ++ B))) = A ++ (L' ++ (x :: ((y :: G) ++ (T ++ B)))) := by simp
          rw [f1] at ho3
          have o4 := ho3
          rw [f2] at o4
          obtain ⟨a, ha, hy⟩ := readApp ho3 (i := A.length + L'.length) (by first | omega | (simp; done) | (simp; omega))
          obtain ⟨a', ha', hx⟩ := readApp o4 (i := A.length + (L' ++ [y]).length) (by first | omega | (simp; done) | (simp; omega))
          rw [ha] at ha'; cases ha'
          refine ⟨⟨by omega, by omega⟩, a, ha, y.1, hy 0 _ rfl, y.2.1, hy 1 _ rfl, y.2.2.1, hy 2 _ rfl, y.2.2.2.1, hy 3 _ rfl, y.2.2.2.2, hy 4 _ rfl, ⟨by omega, by omega⟩, a, ha, x.1, hx 0 _ rfl, x.2.1, hx 1 _ rfl, x.2.2.1, hx 2 _ rfl, x.2.2.2.1, hx 3 _ rfl, x.2.2.2.2, hx 4 _ rfl, ⟨by omega, by omega⟩, a, ha, ?_⟩
          refine setApp o4 y ha (by first | omega | (simp; done) | (simp; omega)) fun h5 o5 k5 => ⟨⟨by omega, by omega⟩, a, ha, ?_⟩
          rw [f3] at o5
          refine setApp o5 x ha (by first | omega | (simp; done) | (simp; omega)) fun h6 o6 k6 => ?_
          rw [f4] at o6
          refine hI2 (L', y :: G) _ _ ⟨rfl, by simp, fun z hz => ?_, o6, (hu3.trans k5 fun b hb => .inl hb).trans k6 fun b hb => .inl hb⟩ (by simp only [hlL]; omega)
          rcases List.mem_cons.1 hz with rfl | hz
          · exact hxy
          · exact hG z hz
        | false =>
          refine condP_false.2 ?_
          have ew : IntKind.wrap .i64 (((A.length + S1.length : Nat) : Int) + 1) = ((A.length + max 1 (S1.length + 1) : Nat) : Int) := by rw [w64 (by omega)]; omega
          rw [ew]
          refine hI (S1 ++ [x], L ++ x :: G, T) _ _ ⟨by simp, by simp, fun e => (by simp at e), st_ins w hst (hf rfl) hG, ?_, hu3⟩ (by simp)
          have f1 : A ++ ((L ++ x :: G) ++ (T ++ B)) = A ++ (L ++ (x :: (G ++ (T ++ B)))) := by simp
          rw [f1]; exact ho3
  · simp only [List.length_append] at hge
    have hT : T = [] := by
      rcases Nat.eq_zero_or_pos S1.length with h0 | h0
      · exact hemp (List.length_eq_zero_iff.1 h0)
      · exact List.length_eq_zero_iff.1 (by omega)
    subst hT
    rw [List.nil_append] at ho'
    rw [List.append_nil] at hk
    exact hk h' R1 ho' hst hu
end Go.Proofs
namespace Go.Proofs
open Go Go.Lift
abbrev len8 : ByteArray := ⟨#[0, 1, 2, 2, 3, 3, 3, 3, 4, 4, 4, 4, 4, 4, 4, 4, 5, 5, 5, 5, 5, 5, 5, 5, 5, 5, 5, 5, 5, 5, 5, 5, 6, 6, 6, 6, 6, 6, 6, 6, 6, 6, 6, 6, 6, 6, 6, 6, 6, 6, 6, 6, 6, 6, 6, 6, 6, 6, 6, 6, 6, 6, 6, 6, 7, 7, 7, 7, 7, 7, 7, 7, 7, 7, 7, 7, 7, 7, 7, 7, 7, 7, 7, 7, 7, 7, 7, 7, 7, 7, 7, 7, 7, 7, 7, 7, 7, 7, 7, 7, 7, 7, 7, 7, 7, 7, 7, 7, 7, 7, 7, 7, 7, 7, 7, 7, 7, 7, 7, 7, 7, 7, 7, 7, 7, 7, 7, 7, 8, 8, 8, 8, 8, 8, 8, 8, 8, 8, 8, 8, 8, 8, 8, 8, 8, 8, 8, 8, 8, 8, 8, 8, 8, 8, 8, 8, 8, 8, 8, 8, 8, 8, 8, 8, 8, 8, 8, 8, 8, 8, 8, 8, 8, 8, 8, 8, 8, 8, 8, 8, 8, 8, 8, 8, 8, 8, 8, 8, 8, 8, 8, 8, 8, 8, 8, 8, 8, 8, 8, 8, 8, 8, 8, 8, 8, 8, 8, 8, 8, 8, 8, 8, 8, 8, 8, 8, 8, 8, 8, 8, 8, 8, 8, 8, 8, 8, 8, 8, 8, 8, 8, 8, 8, 8, 8, 8, 8, 8, 8, 8, 8, 8, 8, 8, 8, 8, 8, 8, 8, 8, 8, 8, 8, 8, 8, 8]⟩
theorem len8_ok : ∀ x : Nat, x < 256 → ∃ c : UInt8, len8[x]? = some c ∧ c.toNat ≤ 8 ∧ (1 ≤ x → 2 ^ c.toNat ≤ 2 * x) ∧ (x = 0 → c.toNat = 0) := by
  have key : ∀ x : Fin 256, ∃ c : UInt8, len8[x.val]? = some c ∧ c.toNat ≤ 8 ∧ (1 ≤ x.val → 2 ^ c.toNat ≤ 2 * x.val) ∧ (x.val = 0 → c.toNat = 0) := by
    intro x
    have : ∀ x : Fin 256, (match len8[x.val]? with | some c => decide (c.toNat ≤ 8 ∧ (1 ≤ x.val → 2 ^ c.toNat ≤ 2 * x.val) ∧ (x.val = 0 → c.toNat = 0)) | none => false) = true := by decide +kernel
    have hx := this x
    split at hx
    · rename_i c hc
      exact ⟨c, hc, of_decide_eq_true hx⟩
    · cases hx
  exact fun x hx => key ⟨x, hx⟩
theorem len64_ok {h : Heap} {n : Nat} (hn : n < 4294967296) {K : Int → Heap → Prop} (hk : ∀ L : Nat, L ≤ 64 → (1 ≤ n → 2 ^ L ≤ 2 * n) → K (L : Int) h) : HC PG f_math_bits_Len64 [.int .u64 n] [.c (.int .i64)] K h := by
  refine H_math_bits_Len64 n ?_
  unfold F_math_bits_Len64
  have fd : ∀ (x k : Nat), Int.fdiv (x : Int) (2 ^ k) = ((x / 2 ^ k : Nat) : Int) := fun x k => by
    rw [Int.fdiv_eq_ediv_of_nonneg _ (Int.pow_nonneg (by omega))]
    rw [Int.natCast_ediv, Int.natCast_pow]; rfl
  refine Join.intro (fun t h' => h' = h ∧ t = ((n : Int), (0 : Int))) (fun R hR => ?_) ?_
  · exact condP_dec (fun h1 => by omega) fun h1 => hR _ _ ⟨rfl, rfl⟩
  · rintro t h' ⟨rfl, rfl⟩
    refine Join.intro (fun t h2 => h2 = h' ∧ ∃ x s : Nat, t = ((x : Int), (s : Int)) ∧ x * 2 ^ s ≤ n ∧ (1 ≤ n → 1 ≤ x) ∧ x < 65536 ∧ s ≤ 16) (fun R hR => ?_) ?_
    · refine condP_dec (fun h1 => ?_) fun h1 => hR _ _ ⟨rfl, n, 0, rfl, by simp, fun h => h, by have h1 : ¬ (n : Int) ≥ 65536 := h1; omega, by omega⟩
      have h1 : 65536 ≤ n := by have h1 : (n : Int) ≥ 65536 := h1; omega
      refine ⟨by omega, hR _ _ ⟨rfl, n / 2 ^ 16, 16, ?_, Nat.div_mul_le_self .., fun _ => by omega, by omega, by omega⟩⟩
      simp only [Prod.mk.injEq]
      exact ⟨fd n 16, by decide⟩
    · rintro t h2 ⟨rfl, x, s, rfl, hx, hx1, hxb, hsb⟩
      refine Join.intro (fun t h3 => h3 = h2 ∧ ∃ x s : Nat, t = ((x : Int), (s : Int)) ∧ x * 2 ^ s ≤ n ∧ (1 ≤ n → 1 ≤ x) ∧ x < 256 ∧ s ≤ 24) (fun R hR => ?_) ?_
      · refine condP_dec (fun h1 => ?_) fun h1 => hR _ _ ⟨rfl, x, s, rfl, hx, hx1, by have h1 : ¬ (x : Int) ≥ 256 := h1; omega, by omega⟩
        have h1 : 256 ≤ x := by have h1 : (x : Int) ≥ 256 := h1; omega
        refine ⟨by omega, hR _ _ ⟨rfl, x / 2 ^ 8, s + 8, ?_, ?_, fun _ => by omega, by omega, by omega⟩⟩
        · simp only [Prod.mk.injEq]
          exact ⟨fd x 8, by rw [w64 (by omega)]; omega⟩
        · rw [Nat.pow_add, Nat.mul_comm (2 ^ s), ← Nat.mul_assoc]
          exact Nat.le_trans (Nat.mul_le_mul_right _ (Nat.div_mul_le_self ..)) hx
      · rintro t h3 ⟨rfl, x, s, rfl, hx, hx1, hxb, hsb⟩
        obtain ⟨c, hc, hc8, hc1, hc0⟩ := len8_ok x hxb
        have wx : IntKind.wrap .u8 (x : Int) = (x : Int) := by
          simp [IntKind.wrap, IntKind.bits, IntKind.signed]; omega
        show ∃ b10 : UInt8, (0 : Int) ≤ IntKind.wrap .u8 (x : Int) ∧ len8[(IntKind.wrap .u8 (x : Int)).toNat]? = some b10 ∧ _
        rw [wx]
        refine ⟨c, by omega, by simpa using hc, ?_⟩
        have wc : IntKind.wrap .i64 (c.toNat : Int) = (c.toNat : Int) := w64 (by omega)
        have e2 : IntKind.wrap .i64 ((s : Int) + IntKind.wrap .i64 (c.toNat : Int)) = ((s + c.toNat : Nat) : Int) := by rw [wc, w64 (by omega)]; omega
        show K (IntKind.wrap .i64 ((s : Int) + IntKind.wrap .i64 (c.toNat : Int))) h3
        rw [e2]
        refine hk _ (by omega) fun h1 => ?_
        have := hc1 (hx1 h1)
        rw [Nat.pow_add]
        calc 2 ^ s * 2 ^ c.toNat ≤ 2 ^ s * (2 * x) := Nat.mul_le_mul_left _ this
          _ = 2 * (x * 2 ^ s) := by rw [Nat.mul_comm (2 ^ s), Nat.mul_assoc]
          _ ≤ 2 * n := Nat.mul_le_mul_left _ hx
theorem len_ok {h : Heap} {n : Nat} (hn : n < 4294967296) {K : Int → Heap → Prop} (hk : ∀ L : Nat, L ≤ 64 → (1 ≤ n → 2 ^ L ≤ 2 * n) → K (L : Int) h) : HC PG f_math_bits_Len [.int .u64 n] [.c (.int .i64)] K h := by
  refine H_math_bits_Len n ?_
  unfold F_math_bits_Len
  exact len64_ok hn hk
def ltG (a b : Ch) : Bool := decide (kl a.1 b.1)
theorem woG : WO ltG := by
  refine ⟨fun a => decide_eq_false (kl_irrefl _), fun a b h => decide_eq_false (kl_asymm (of_decide_eq_true h)), fun a b c h1 h2 => decide_eq_false fun h => ?_⟩
  have h1 : ¬ kl a.1 b.1 := of_decide_eq_false h1
  have h2 : ¬ kl b.1 c.1 := of_decide_eq_false h2
  by_cases e : a.1 = b.1
  · rw [e] at h; exact h2 h
  · exact h2 (kl_trans (kl_tri h1 e) h)
theorem cmpCh (M : Nat → Prop) : Cmp ltG chF M (fun _ => True) (.func (.func f_diff_Of_1) #[] #[]) := by
  refine ⟨fun a b h K _ hk => HV.mk' (H_diff_Of_1 a b ?_), fun _ h => h⟩
  unfold F_diff_Of_1 cAt
  refine at_new fun h1 b1 k1 => at_new fun h2 b2 k2 => ?_
  refine ⟨a.1, vc (k2.get0 b1) 0, b.1, vc b2 0, compare_ok (hk h2 _ (k1.tr k2) ?_)⟩
  unfold cmpS ltG
  split
  · rename_i h; rw [decide_eq_true h]; rfl
  · rename_i h
    rw [decide_eq_false h]
    split <;> rfl
theorem Eqf.perm {α : Type} [DecidableEq α] {lt : α → α → Bool} (w : WO lt) {l l' : List α} (h : Eqf lt l l') : l'.Perm l := by
  rw [List.perm_iff_count]
  intro a
  have e : ∀ m : List α, m.count a = (m.filter (cls lt a)).count a := fun m => (List.count_filter (cls_self w a)).symm
  rw [e l', e l, h.flt a]
theorem srt_uniq {R X : List Ch} (hp : R.Perm X) (hR : Srt ltG R) (hX : RisesC X) : R = X := by
  have hk : X.Pairwise fun a b => ltG b a = false := hX.imp fun h => decide_eq_false (kl_asymm h)
  refine hp.eq_of_pairwise (fun a b ha hb h1 h2 => ?_) hR hk
  have h1 : ¬ kl b.1 a.1 := of_decide_eq_false h1
  have h2 : ¬ kl a.1 b.1 := of_decide_eq_false h2
  have ha := hp.mem_iff.1 ha
  have e : a.1 = b.1 := Decidable.byContradiction fun hne => h1 (kl_tri h2 hne)
  refine Decidable.byContradiction fun hne => ?_
  obtain ⟨i, hi, rfl⟩ := List.getElem_of_mem ha
  obtain ⟨j, hj, rfl⟩ := List.getElem_of_mem hb
  rcases Nat.lt_trichotomy i j with h | h | h
  · have := List.pairwise_iff_getElem.1 hX i j hi hj h
    rw [e] at this; exact kl_irrefl _ this
  · subst h; exact hne rfl
  · have := List.pairwise_iff_getElem.1 hX j i hj hi h
    rw [e] at this; exact kl_irrefl _ this
theorem sortC_ok {M : Nat → Prop} {h : Heap} {s : SliceV} {L X : List Ch} (ho : OwnS chF 5 t_diff_Change M h s L) (hp : L.Perm X) (hX : RisesC X) (hn : L.length ≤ 12) {K : Unit → Heap → Prop} (hk : ∀ h', OwnS chF 5 t_diff_Change M h' s X → Upd M h h' → K () h') :
    HC PG f_slices_SortFunc_A_diff_Change_diff_Change [.slice s.a s.len s.cap, .func (.func f_diff_Of_1) #[] #[]] [] K h := by
  refine H_slices_SortFunc_A_diff_Change_diff_Change s _ ?_
  unfold F_slices_SortFunc_A_diff_Change_diff_Change
  have hlen := ho.len
  rw [Go.IntWalk.u64_in _ (by omega)]
  refine len_ok (by omega) fun L0 _ _ => ?_
  refine H_slices_pdqsortCmpFunc_diff_Change s 0 s.len L0 _ ?_
  unfold F_slices_pdqsortCmpFunc_diff_Change cAt iBd
  refine LoopP.ghost (fun (_ : Unit) (t : Int × Int × Int × Bool × Bool) h' => t = (0, (s.len : Int), (L0 : Int), true, true) ∧ h' = h) (fun _ => 0) () ⟨rfl, rfl⟩ ?_
  rintro I ⟨⟩ t h' ⟨rfl, rfl⟩ _
  have e : IntKind.wrap .i64 ((s.len : Int) - 0) = (s.len : Int) := by rw [w64 (by omega)]; omega
  simp only
  rw [e]
  rw [decide_eq_true (show (s.len : Int) ≤ 12 by omega)]
  refine condP_true.2 ?_
  have ho' : OwnS chF 5 t_diff_Change M h' s ([] ++ (L ++ [])) := by simpa using ho
  refine insSort_chF (A := []) (B := []) (a := 0) (b := s.len) woG (cmpCh M) ho' trivial (by omega) rfl (by simp; omega) fun h2 R o2 s2 k2 => ?_
  rw [List.nil_append, List.append_nil] at o2
  have := srt_uniq ((s2.eqf.perm woG).trans hp) s2.srt hX
  subst this
  exact hk h2 o2 k2
theorem tHasher_ok {t : Tr} {h : Heap} {K : Int × Int × Int → Heap → Prop} (hk : ∀ h', Upd No h h' → K (t.2.1, t.2.2.1, t.2.2.2.1) h') : HC PG f_tree_Tree_Hasher [trV t] [.agg [.int .u64, .int .u64, .int .u64]] K h := by
  refine H_tree_Tree_Hasher t ?_
  unfold F_tree_Tree_Hasher cAt
  refine at_new fun h1 b1 k1 => at_new fun h2 b2 k2 => ?_
  have c1 := k2.get0 b1
  refine ⟨_, vc2 c1 1 0, _, vc2 c1 1 1, _, vc2 c1 1 2, ?_⟩
  refine setAll (c := [.int .u64 0, .int .u64 0, .int .u64 0]) (vs := [.int .u64 t.2.1, .int .u64 t.2.2.1, .int .u64 t.2.2.2.1]) b2 rfl fun h3 b3 hu3 => ?_
  exact ⟨_, vc b3 0, _, vc b3 1, _, vc b3 2, hk h3 ((k1.tr k2).own hu3 k1.size)⟩
theorem tRadix_ok {t : Tr} {h : Heap} {K : Option Addr → Heap → Prop} (hk : ∀ h', Upd No h h' → K t.2.2.2.2.2 h') : HC PG f_tree_Tree_Radix [trV t] [.c .ptr] K h := by
  refine H_tree_Tree_Radix t ?_
  unfold F_tree_Tree_Radix cAt
  exact at_new fun h1 b1 k1 => ⟨_, vc b1 5, hk h1 k1⟩
theorem rad_pp {W : Nat → Prop} {h : Heap} {b : Nat} {l : List Pr} (t : RadAt W h b l) (hr : Rises l) (hf : Fit l) : ∃ n : Bn, n.1 = [] ∧ RxN W h b ⟨#[]⟩ n.2.1 n.2.2 ∧ NodeK n [] ∧ pp [] n = l := by
  obtain ⟨w, F, r1, r2, r3⟩ := t.ex
  have hp := rad_prs r2 hr r3
  refine ⟨([], w, F), rfl, r1, ⟨r2, by simp, fun p hp => ?_⟩, ?_⟩
  · obtain ⟨q, hq, e, _⟩ := (r3 p.1 p.2).1 hp
    have := (hf q hq).1
    rw [← e]
    have e2 : q.1.data.toList.length = q.1.size := Array.length_toList
    simp only [List.length_nil]
    omega
  · unfold pp
    show (prsR w F).map (fromU ([] ++ [])) = l
    rw [hp]
    unfold toU
    rw [List.map_map]
    conv => rhs; rw [← List.map_id l]
    exact List.map_congr_left fun p _ => by unfold fromU; simp [mkK_of]
theorem diffOf_ok {W W' : Nat → Prop} {x x' : Hs} {h : Heap} {kind kind' : Int} {t u : Tr} {l l' : List Pr} (i : TreeIs W h kind x t l) (i' : TreeIs W' h kind' x' u l') (hr : Rises l) (hf : Fit l) (hn : l.length ≤ 60000) (hr' : Rises l') (hf' : Fit l') (hn' : l'.length ≤ 60000) (h12 : likeB t u = true → (chg l l').length ≤ 12) {K : SliceV × Int → Heap → Prop}
    (h0 : likeB t u = false → ∀ h', Upd No h h' → K (⟨none, 0, 0⟩, 11) h') (hk : likeB t u = true → ∀ h' s', OwnS chF 5 t_diff_Change (fun y => h.size ≤ y) h' s' (chg l l') → Upd No h h' → K (s', 0) h') : HC PG f_diff_Of [trV t, trV u] [.c .slice, .c (.int .i64)] K h := by
  refine H_diff_Of t u ?_
  unfold F_diff_Of cAt
  refine at_new fun h1 b1 k1 => at_new fun h2 b2 k2 => ?_
  have c1 := k2.get0 b1
  refine ⟨_, vc c1 0, _, vc c1 1, _, vc c1 2, _, vc c1 3, _, vc c1 4, _, vc c1 5, _, vc b2 0, _, vc b2 1, _, vc b2 2, _, vc b2 3, _, vc b2 4, _, vc b2 5, ?_⟩
  refine tLike_ok fun h3 k3 => ?_
  have k03 := (k1.tr k2).tr k3
  have c3 := k3.get0 c1
  have b3 := k3.get0 b2
  rcases hl : likeB t u with _ | _
  · exact condP_true.2 (h0 hl h3 k03)
  refine condP_false.2 ⟨_, vc c3 0, _, vc c3 1, _, vc c3 2, _, vc c3 3, _, vc c3 4, _, vc c3 5, ?_⟩
  refine tHasher_ok fun h4 k4 => ?_
  refine at_new fun h5 b5 k5 => ?_
  have k05 := (k03.tr k4).tr k5
  have c5 := k5.get0 (k4.get0 c3)
  have d5 := k5.get0 (k4.get0 b3)
  have z5 := get_lt b5
  have s4 := (k03.tr k4).size
  have s5 := k5.size
  obtain ⟨rfl, hx⟩ := like_kind i i' hl
  let z : Hs := ⟨t.2.1, t.2.2.1, t.2.2.2.1⟩
  have st : SetAt No h5 h4.size z [] := ⟨⟨⟨none, 0, 0⟩, b5, OwnS.nil chF_ne⟩, fun _ h => h.elim, id⟩
  have hul : ∀ h6, Upd No h5 h6 → ∀ h' C' ys, SetAt C' h' h4.size z ([] ++ ys) → (∀ b, C' b → No b ∨ h6.size ≤ b) → Upd (fun b => No b ∨ b = h4.size) h6 h' → ys.Perm (chg l l') → ∃ C' ys, SetAt C' h' h4.size z ys ∧ (∀ y, C' y → h5.size ≤ y) ∧ Upd (fun y => y = h4.size) h5 h' ∧ ys.Perm (chg l l') :=
    fun h6 k6 h' C' ys st' hC' hu' hp => ⟨C', ys, st', fun y hy => (hC' y hy).elim (fun h => h.elim) fun h => Nat.le_trans k6.size h, k6.wide.trans hu' fun b hb => hb.elim (fun h => h.elim) fun h => .inl h, hp⟩
  refine Join.intro (fun _ h' => ∃ C' ys, SetAt C' h' h4.size z ys ∧ (∀ y, C' y → h5.size ≤ y) ∧ Upd (fun y => y = h4.size) h5 h' ∧ ys.Perm (chg l l')) (fun R hR => ?_) ?_
  · refine ⟨_, vc c5 0, _, vc c5 1, _, vc c5 2, _, vc c5 3, _, vc c5 4, _, vc c5 5, ?_⟩
    refine tKind_ok fun h6 k6 => ?_
    have c6 := k6.get0 c5
    have d6 := k6.get0 d5
    have i6 := (i.less (W' := fun y => h.size ≤ y) fun _ h => .inr h).upd0 (k05.tr k6)
    have i6' := (i'.less (W' := fun y => h.size ≤ y) fun _ h => .inr h).upd0 (k05.tr k6)
    have hCW : ∀ y, No y ∨ y = h4.size → h.size ≤ y := fun y hy => hy.elim (fun h => h.elim) fun e => by omega
    rcases i6 with ⟨rfl, b, rfl, tt⟩ | ⟨rfl, b, rfl, tt⟩
    · rcases i6' with ⟨_, b', rfl, tt'⟩ | ⟨e, _⟩
      · obtain rfl := hx rfl
        refine condP_false.2 ⟨_, vc c6 0, _, vc c6 1, _, vc c6 2, _, vc c6 3, _, vc c6 4, _, vc c6 5, _, vc d6 0, _, vc d6 1, _, vc d6 2, _, vc d6 3, _, vc d6 4, _, vc d6 5, ?_⟩
        refine tChamp_ok tt fun h7 k7 => ?_
        have d7 := k7.get0 d6
        refine ⟨⟨vc d7 0, vc d7 1, vc d7 2, vc d7 3, vc d7 4, vc d7 5⟩, ?_⟩
        refine tChamp_ok (TrieAt.upd0 k7 tt') fun h8 k8 => ?_
        have k58 := (k6.tr k7).tr k8
        refine tries_ok 13 (Nat.le_refl _) (TrieAt.upd0 (k7.tr k8) tt) (TrieAt.upd0 (k7.tr k8) tt') (st.upd0 k58) hCW (fun y hy => by have := k58.size; omega) hr hr' (by omega) (by omega) (by simp) fun ys hp h9 C9 st9 hC9 hu9 => ?_
        exact hR _ _ (hul h8 k58 h9 C9 ys st9 hC9 hu9 hp)
      · cases e
    · rcases i6' with ⟨e, _⟩ | ⟨_, b', rfl, tt'⟩
      · cases e
      · refine condP_true.2 ⟨_, vc c6 0, _, vc c6 1, _, vc c6 2, _, vc c6 3, _, vc c6 4, _, vc c6 5, _, vc d6 0, _, vc d6 1, _, vc d6 2, _, vc d6 3, _, vc d6 4, _, vc d6 5, ?_⟩
        refine tRadix_ok fun h7 k7 => ?_
        have d7 := k7.get0 d6
        refine ⟨⟨vc d7 0, vc d7 1, vc d7 2, vc d7 3, vc d7 4, vc d7 5⟩, ?_⟩
        refine tRadix_ok fun h8 k8 => ?_
        have k58 := (k6.tr k7).tr k8
        obtain ⟨n, e1, r1, nk, hp⟩ := rad_pp (tt.upd0 (k7.tr k8)) hr hf
        obtain ⟨n', e1', r1', nk', hp'⟩ := rad_pp (tt'.upd0 (k7.tr k8)) hr' hf'
        obtain ⟨lab, w, F⟩ := n
        simp only at e1
        subst e1
        refine treesN_of (treesN_all nk.can) (sl := ⟨#[]⟩) (ahead := ⟨#[]⟩) r1 rfl r1' (by rw [e1']) nk nk' (st.upd0 k58) hCW (fun y hy => by have := k58.size; omega) (by show (pp [] _).length ≤ _; rw [hp]; omega) (by show (pp [] _).length ≤ _; rw [hp']; omega) (by show 0 + (pp [] _).length + (pp [] _).length ≤ _; rw [hp, hp']; omega) fun h9 C9 st9 hC9 hu9 => ?_
        have st9 : SetAt C9 h9 h4.size z ([] ++ chg (pp [] ([], w, F)) (pp [] n')) := st9
        rw [hp, hp'] at st9
        exact hR _ _ (hul h8 k58 h9 C9 _ st9 hC9 hu9 (.refl _))
  · rintro _ h6 ⟨C6, ys, st6, hC6, hu6, hp⟩
    obtain ⟨s, e6, ho6⟩ := st6.ex
    refine ⟨_, rfl, s, vc e6 3, ?_⟩
    refine sortC_ok ho6 hp (risesC_chg hr hr') (by rw [hp.length_eq]; exact h12 hl) fun h7 ho7 hu7 => ?_
    have e7 := hu7.get e6 st6.ne
    refine ⟨_, rfl, s, vc e7 3, hk hl h7 s (ho7.more fun y hy => by have := hC6 y hy; omega) ?_⟩
    exact (k05.trans hu6 fun y hy => .inr (by omega)).trans hu7 fun y hy => .inr (by have := hC6 y hy; omega)
end Go.Proofs
