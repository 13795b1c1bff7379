/- A part of the proof that the named laws of this program answer true, whatever the input. -/
import Derived.Test.YtcnejdpagpafgaaGraphS17
namespace Go.Proofs
open Go.Lift
/-- The acts with which the laws begin. -/
theorem actsLoop_ok {lim : Int} {REST : Int → Heap → Prop} {h0 h3 : Heap} {gp gm xp : Nat} {s : SliceV} {acts : List Act4} (ha : ActsAt h0 s acts) (b0 : Both (Three gp gm xp) h3 gp gm xp [] 1) (k : Upd No h0 h3) (hnw : ∀ x, Three gp gm xp x → h0.size ≤ x)
    (hR : ∀ t h' L nx, Both (Three gp gm xp) h' gp gm xp L nx → Upd No h0 h' → REST t h') :
    LoopP (fun (I6 : Int → Heap → Prop) (t7 : Int) h8 =>
       CondP (decide (t7 < (s.len : Int))) (
        Join (fun (t23 : Unit) h24 =>
         I6 (IntKind.wrap .i64 (t7 + 1)) h24) (fun J9 =>
         (((0 : Int) ≤ t7 ∧ t7 < ((s.len : Nat) : Int)) ∧ ∃ a10 : Addr, s.a = some a10 ∧
          ∃ v11 : Int, hcell h8 (adr (adr a10 (t7.toNat * 4)) 0) = some (.int .u8 v11) ∧
          ∃ v12 : Int, hcell h8 (adr (adr a10 (t7.toNat * 4)) 1) = some (.int .u32 v12) ∧
          ∃ v13 : SliceV, hcell h8 (adr (adr a10 (t7.toNat * 4)) 2) = some (.slice v13.a v13.len v13.cap) ∧
          ∃ v14 : Bool, hcell h8 (adr (adr a10 (t7.toNat * 4)) 3) = some (.bool v14) ∧
          At (hnew h8 [.int .u8 0, .int .u32 0, .slice none 0 0, .bool false] t_l20_Act) (fun h15 =>
           (WrS h15 (some (newA h8)) 0 [.int .u8 v11, .int .u32 v12, .slice v13.a v13.len v13.cap, .bool v14] ∧
            At (hsetL h15 (newA h8) 0 [.int .u8 v11, .int .u32 v12, .slice v13.a v13.len v13.cap, .bool v14]) (fun h16 =>
             CondP (decide (t7 < lim)) (
              ∃ v17 : Int, hcell h16 (adr (newA h8) 0) = some (.int .u8 v17) ∧
              ∃ v18 : Int, hcell h16 (adr (newA h8) 1) = some (.int .u32 v18) ∧
              ∃ v19 : SliceV, hcell h16 (adr (newA h8) 2) = some (.slice v19.a v19.len v19.cap) ∧
              ∃ v20 : Bool, hcell h16 (adr (newA h8) 3) = some (.bool v20) ∧
              HC PG f_l20_do [.pointer (some ⟨gp, 0, none⟩), .pointer (some ⟨xp, 0, none⟩), .agg #[.int .u8 v17, .int .u32 v18, .slice v19.a v19.len v19.cap, .bool v20]] [.c .bool] (fun (e21 : Bool) h22 =>
               J9 () h22) h16) (
              J9 () h16))))))) (REST t7 h8)) 0 h3 := by
  refine LoopP.ghost (fun (g : Nat × Vers × Int) (t : Int) h' => t = (g.1 : Int) ∧ g.1 ≤ acts.length ∧ Both (Three gp gm xp) h' gp gm xp g.2.1 g.2.2 ∧ Upd No h0 h') (fun g => acts.length - g.1) (0, [], 1) ⟨rfl, Nat.zero_le _, b0, k⟩ ?_
  rintro I ⟨i, L, nx⟩ t h' ⟨ht, hi, b, hu⟩ hI
  simp only at ht hi b
  subst ht
  have ha' := ha.upd hu
  refine condP_dec (fun hlt => ?_) fun _ => hR _ h' L nx b hu
  rw [ha.sl.len] at hlt
  have hlt : i < acts.length := by omega
  obtain ⟨a, haa, _, hv⟩ := ha'.sl.at (List.getElem?_eq_getElem hlt)
  obtain ⟨q1, q2, q3⟩ := setAct h' acts[i]
  refine Join.intro (fun _ h'' => ∃ L' nx', Both (Three gp gm xp) h'' gp gm xp L' nx' ∧ Upd No h0 h'') (fun R hR => ?_) ?_
  · refine ⟨by rw [ha.sl.len]; omega, a, haa, _, hv 0 _ rfl, _, hv 1 _ rfl, _, hv 2 _ rfl, _, hv 3 _ rfl, q1, ?_⟩
    simp only [At]
    rw [newA_eq] at q2 q3 ⊢
    generalize hsetL (hnew h' [.int .u8 0, .int .u32 0, .slice none 0 0, .bool false] t_l20_Act) ⟨h'.size, 0, none⟩ _ = h4 at q2 q3
    have hu4 := hu.tr q3
    refine condP_dec (fun _ => ?_) fun _ => hR _ _ ⟨L, nx, b.upd0 q3, hu4⟩
    refine ⟨_, by rw [adr_mk, hcell_blk q2]; rfl, _, by rw [adr_mk, hcell_blk q2]; rfl, _, by rw [adr_mk, hcell_blk q2]; rfl, _, by rw [adr_mk, hcell_blk q2]; rfl, ?_⟩
    refine doAct_ok (a := acts[i]) ?_ (b.upd0 q3) fun h5 L' nx' b5 hu5 => hR _ _ ⟨L', nx', b5, hu4.trans hu5 fun x hx => .inr (hnw x hx)⟩
    have v := ha.all _ (List.getElem_mem hlt)
    obtain ⟨ps, p1, p2⟩ := v.p
    exact ⟨v.do0, v.id0, ⟨ps, (p1.less fun x hx => .inr (hnw x hx)).upd hu4 fun _ h => h.elim, p2⟩, v.cap⟩
  · rintro _ h5 ⟨L', nx', b5, hu5⟩
    rw [i64s hlt ha.len]
    exact hI (i + 1, L', nx') _ _ ⟨rfl, hlt, b5, hu5⟩ (by simp only; omega)
theorem best_eq {L : Vers} {a b x y : Int} (h1 : ∀ c, Up L a c → Up L b c → c ≤ x) (h2 : x = 0 ∨ Up L a x ∧ Up L b x) (h3 : 0 ≤ x) (k1 : ∀ c, Up L a c → Up L b c → c ≤ y) (k2 : y = 0 ∨ Up L a y ∧ Up L b y) (k3 : 0 ≤ y) : x = y := by
  have e1 : x ≤ y := by rcases h2 with e | e; omega; exact k1 x e.1 e.2
  have e2 : y ≤ x := by rcases k2 with e | e; omega; exact h1 y e.1 e.2
  omega
theorem leadsLaw_ok {h : Heap} {s : SliceV} {acts : List Act4} (ha : ActsAt h s acts) (p q : Int) : HC PG f_l20_GraphLeads [.slice s.a s.len s.cap, .int .u32 p, .int .u32 q] [.c .bool] (fun b h' => b = true ∧ Upd No h h') h := by
  refine H_l20_GraphLeads s p q ?_
  unfold F_l20_GraphLeads
  refine awake_ok fun h1 hu1 => condP_false.2 ?_
  refine begin_ok fun h2 gp gm hu2 hg1 hg2 g => ?_
  have b0 := begin_ref g
  have k3 := Upd.hnew No h2 [.slice none 0 0, .int .u32 1] t_r20_Graph
  have z2 := (hu1.tr hu2).size
  have z1 := hu1.size
  simp only [At]
  rw [newA_eq h2]
  refine actsLoop_ok ha b0 ((hu1.tr hu2).tr k3) (fun x hx => by rcases hx with rfl | rfl | rfl <;> omega) fun t h4 L nx b hu4 => ?_
  have hgood := b.inv.good
  have hfew := b.inv.few
  refine Join.intro (fun t h' => Both (Three gp gm h2.size) h' gp gm h2.size L nx ∧ Upd No h h' ∧ Nums No h' t (ids L ++ [p, q])) (fun R hR => ?_) ?_
  · refine gIDs_ok b.g hgood.up (by omega) fun s5 h5 ho5 hu5 => ?_
    have k6 := Upd.hnew No h5 [.int .u32 p, .int .u32 q] t_u32
    have b6 := hnew_get h5 [.int .u32 p, .int .u32 q] t_u32
    simp only [newA_eq]
    have ho6 := ho5.upd k6 fun _ _ h => h
    have z6 := k6.size
    generalize hnew h5 [.int .u32 p, .int .u32 q] t_u32 = h6 at k6 b6 ho6 z6
    have h5l := get_lt b6
    refine ⟨[.int .u32 p, .int .u32 q], ⟨rfl, .inr ⟨_, rfl, row_blk b6 fun i v hv => by simpa using hv⟩⟩, ?_⟩
    refine AppP.own (ys := [p, q]) ho6 rfl rfl rfl rfl (by omega) (by simp; omega) (by have := hu5.size; omega) fun s7 h7 ho7 hu7 => ?_
    have hu57 : Upd No h4 h7 := (hu5.tr k6).trans hu7 fun x hx => .inr hx
    exact hR _ _ ⟨b.upd0 hu57, hu4.tr hu57, ho7.sl fun _ _ _ h => h⟩
  · rintro t h5 ⟨b5, hu5, hs5⟩
    have hxl : (ids L ++ [p, q]).length ≤ 100000 := by simp; omega
    generalize ids L ++ [p, q] = xs at hs5 hxl
    refine LoopP.ghost (fun (i : Nat) (t' : Int) h' => t' = (i : Int) ∧ i ≤ xs.length ∧ Upd No h5 h') (fun i => xs.length - i) 0 ⟨rfl, Nat.zero_le _, Upd.refl _ _⟩ ?_
    rintro I i t' h6 ⟨rfl, hi, hu6⟩ hI
    refine condP_dec (fun hlt => ?_) fun _ => ⟨rfl, hu5.tr hu6⟩
    rw [hs5.len] at hlt
    have hlt : i < xs.length := by omega
    have hs6 := hs5.upd hu6 fun _ h => h.elim
    have b6 := b5.upd0 hu6
    obtain ⟨a1, ha1, _, hx⟩ := Nums.at hs6 hlt
    refine Join.intro (fun _ h' => Upd No h6 h') (fun R hR => ?_) ?_
    · refine ⟨by rw [hs5.len]; omega, a1, ha1, _, hx, condP_dec (fun _ => ⟨rfl, hu5.tr hu6⟩) fun _ => ?_⟩
      refine xAbove_ok b6.x hgood xs[i] fun s7 h7 ys hy1 hy2 hs7 hu7 => ?_
      have b7 := b6.upd0 hu7
      refine gAbove_ok b7.g hgood.toSmall xs[i] fun s8 h8 zs hz1 hz2 ho8 hu8 => ?_
      have hzy : zs = ys := rising_ext hz1 hy1 fun y => by rw [hz2, hy2]
      have hyl : ys.length ≤ L.length := by
        have := subset_len (hy1.imp fun h => Int.ne_of_lt h) (l' := ids L) fun y hy => ((hy2 y).1 hy).right
        simpa using this
      have hs8 := (hs7.less (W' := No) fun _ h => h.elim).upd hu8 fun _ h => h.elim
      refine equal_ok (ho8.sl (W := No) fun _ _ _ h => h) hs8 (by rw [hzy]; omega) ?_
      rw [decide_eq_true hzy]
      refine condP_false.2 ?_
      have b8 := b7.upd0 hu8
      have hu68 := hu7.tr hu8
      refine LoopP.ghost (fun (j : Nat) (t' : Int) h' => t' = (j : Int) ∧ j ≤ xs.length ∧ Upd No h8 h') (fun j => xs.length - j) 0 ⟨rfl, Nat.zero_le _, Upd.refl _ _⟩ ?_
      rintro I2 j t' h9 ⟨rfl, hj, hu9⟩ hI2
      refine condP_dec (fun hlt2 => ?_) fun _ => hR _ _ (hu68.tr hu9)
      rw [hs5.len] at hlt2
      have hlt2 : j < xs.length := by omega
      obtain ⟨a2, ha2, _, hx2⟩ := Nums.at ((hs6.upd hu68 fun _ h => h.elim).upd hu9 fun _ h => h.elim) hlt2
      have b9 := b8.upd0 hu9
      refine ⟨by rw [hs5.len]; omega, a2, ha2, _, hx2, condP_dec (fun _ => hR _ _ (hu68.tr hu9)) fun _ => ?_⟩
      refine gMeet_ok b9.g hgood.toSmall _ _ fun best h10 m1 m2 m3 hu10 => ?_
      refine xMeet_ok (b9.upd0 hu10).x hgood _ _ fun best' h11 n1 n2 n3 hu11 => ?_
      obtain rfl := best_eq m1 m2 m3 n1 n2 n3
      have b11 := (b9.upd0 hu10).upd0 hu11
      have hu911 := hu10.tr hu11
      refine Join.intro (fun t h' => t = false ∧ Upd No h9 h') (fun R2 hR2 => ?_) ?_
      · refine CondP.intro (fun e => by simp at e) fun _ => CondP.intro (fun e => by simp at e) fun _ => ?_
        refine gLeads_ok b11.g hgood.toSmall _ _ fun bb h12 hbb hu12 => ?_
        have hu812 := (hu9.tr hu911).tr hu12
        refine has_ok (hs8.upd hu812 fun _ h => h.elim) (by omega) _ (hR2 _ _ ⟨?_, hu911.tr hu12⟩)
        have : bb = decide (xs[j] ∈ ys) := by rw [Bool.eq_iff_iff, hbb, decide_eq_true_iff, hy2]
        rw [this]; simp
      · rintro t' h12 ⟨rfl, hu12⟩
        refine condP_false.2 ?_
        rw [wrap_succ hlt2 (by omega)]
        exact hI2 (j + 1) _ _ ⟨rfl, hlt2, hu9.tr hu12⟩ (by omega)
    · rintro _ h7 hu7
      rw [wrap_succ hlt (by omega)]
      exact hI (i + 1) _ _ ⟨rfl, hlt, hu6.tr hu7⟩ (by omega)
theorem meetsLaw_ok {h : Heap} {s : SliceV} {acts : List Act4} (ha : ActsAt h s acts) {p q : Int} (hp : 0 ≤ p ∧ p ≤ 255) (hq : 0 ≤ q ∧ q ≤ 255) : HC PG f_l20_GraphMeets [.slice s.a s.len s.cap, .int .u8 p, .int .u8 q] [.c .bool] (fun b h' => b = true ∧ Upd No h h') h := by
  refine H_l20_GraphMeets s p q ?_
  unfold F_l20_GraphMeets
  refine awake_ok fun h1 hu1 => condP_false.2 ?_
  refine begin_ok fun h2 gp gm hu2 hg1 hg2 g => ?_
  have b0 := begin_ref g
  have k3 := Upd.hnew No h2 [.slice none 0 0, .int .u32 1] t_r20_Graph
  have z2 := (hu1.tr hu2).size
  have z1 := hu1.size
  simp only [At]
  rw [newA_eq h2]
  refine actsLoop_ok ha b0 ((hu1.tr hu2).tr k3) (fun x hx => by rcases hx with rfl | rfl | rfl <;> omega) fun t h4 L nx b hu4 => ?_
  have hgood := b.inv.good
  have hfew := b.inv.few
  refine gIDs_ok b.g hgood.up (by omega) fun s5 h5 ho5 hu5 => ?_
  have hs5 : Nums No h5 s5 (ids L) := ho5.sl fun _ _ _ h => h
  have hl5 : s5.len = (ids L).length := hs5.len
  have hidl : (ids L).length = L.length := by simp
  have b5 := b.upd0 hu5
  refine CondP.intro (fun _ => ⟨rfl, hu4.tr hu5⟩) fun hne => ?_
  have hne : s5.len ≠ 0 := fun e => by rw [e] at hne; exact absurd hne (by decide)
  have hmod : ∀ x : Int, 0 ≤ x ∧ x ≤ 255 → ∃ n : Nat, Int.tmod (IntKind.wrap .i64 x) (s5.len : Int) = (n : Int) ∧ n < (ids L).length := fun x hx => by
    rw [w64 (by omega), Int.tmod_eq_emod_of_nonneg hx.1]
    have h1 := Int.emod_nonneg x (b := (s5.len : Int)) (by omega)
    have h2 := Int.emod_lt_of_pos x (b := (s5.len : Int)) (by omega)
    exact ⟨(x % (s5.len : Int)).toNat, by omega, by omega⟩
  obtain ⟨i, ei, hi⟩ := hmod p hp
  obtain ⟨j, ej, hj⟩ := hmod q hq
  rw [ei, ej]
  obtain ⟨a1, ha1, _, hx⟩ := Nums.at hs5 hi
  obtain ⟨a2, ha2, _, hy⟩ := Nums.at hs5 hj
  refine ⟨by omega, by omega, a1, ha1, _, hx, by omega, by omega, a2, ha2, _, hy, ?_⟩
  have hxi : (ids L)[i] ∈ ids L := List.getElem_mem hi
  have hyi : (ids L)[j] ∈ ids L := List.getElem_mem hj
  generalize (ids L)[i] = x at hxi
  generalize (ids L)[j] = y at hyi
  refine gMeet_ok b5.g hgood.toSmall x y fun best h6 m1 m2 m3 hu6 => ?_
  refine gMeet_ok (b5.upd0 hu6).g hgood.toSmall y x fun best' h7 n1 n2 n3 hu7 => ?_
  obtain rfl := best_eq m1 m2 m3 (fun c q1 q2 => n1 c q2 q1) (n2.imp (fun h => h) And.symm) n3
  have b7 := (b5.upd0 hu6).upd0 hu7
  have hu07 := ((hu4.tr hu5).tr hu6).tr hu7
  have hu57 := hu6.tr hu7
  have hyy : Up L x y → best = y := fun hup => by
    have e1 := m1 y hup (.refl hyi)
    have hy1 := (b.inv.pos y hyi).1
    rcases m2 with e | ⟨e2, e3⟩
    · omega
    · have := e3.le hgood; omega
  refine Join.intro (fun t h' => t = false ∧ Upd No h7 h') (fun R hR => ?_) ?_
  · refine CondP.intro (fun e => by simp at e) fun _ => CondP.intro (fun e => by simp at e) fun _ => ?_
    refine gLeads_ok b7.g hgood.toSmall x y fun bb h8 hbb hu8 => CondP.intro (fun e => hR _ _ ⟨?_, hu8⟩) fun _ => hR _ _ ⟨rfl, hu8⟩
    have := hyy (hbb.1 e)
    simp [this]
  · rintro t h8 ⟨rfl, hu8⟩
    refine condP_false.2 ?_
    refine LoopP.ghost (fun (i : Nat) (t' : Int) h' => t' = (i : Int) ∧ i ≤ (ids L).length ∧ Upd No h8 h') (fun i => (ids L).length - i) 0 ⟨rfl, Nat.zero_le _, Upd.refl _ _⟩ ?_
    rintro I k t' h9 ⟨rfl, hk, hu9⟩ hI
    have b9 := (b7.upd0 hu8).upd0 hu9
    have hs9 := (hs5.upd hu57 fun _ h => h.elim).upd (hu8.tr hu9) fun _ h => h.elim
    refine condP_dec (fun hlt => ?_) fun _ => ?_
    · rw [hl5] at hlt
      have hlt : k < (ids L).length := by omega
      obtain ⟨a3, ha3, _, hz⟩ := Nums.at hs9 hlt
      refine ⟨by omega, a3, ha3, _, hz, ?_⟩
      refine Join.intro (fun t h' => t = false ∧ Upd No h9 h') (fun R hR => ?_) ?_
      · refine gLeads_ok b9.g hgood.toSmall _ _ fun b1 h10 hb1 hu10 => CondP.intro (fun e1 => ?_) fun _ => hR _ _ ⟨rfl, hu10⟩
        refine gLeads_ok (b9.upd0 hu10).g hgood.toSmall _ _ fun b2 h11 hb2 hu11 => CondP.intro (fun e2 => ?_) fun _ => hR _ _ ⟨rfl, hu10.tr hu11⟩
        have c1 := hb1.1 e1
        have c2 := hb2.1 e2
        have hle := m1 _ c1 c2
        have hpos := (b.inv.pos _ c1.right).1
        refine CondP.intro (fun e => ?_) fun _ => CondP.intro (fun e => ?_) fun _ => hR _ _ ⟨rfl, hu10.tr hu11⟩
        · have : ¬ best > 0 := by simpa using e
          omega
        · refine gLeads_ok ((b9.upd0 hu10).upd0 hu11).g hgood.toSmall _ _ fun b3 h12 hb3 hu12 => hR _ _ ⟨?_, (hu10.tr hu11).tr hu12⟩
          have e : (ids L)[k] ≠ best := by simpa using e
          cases hb : b3 with
          | false => rfl
          | true =>
            have := (hb3.1 hb).le hgood
            omega
      · rintro t' h10 ⟨rfl, hu10⟩
        refine condP_false.2 ?_
        rw [wrap_succ hlt (by omega)]
        exact hI (k + 1) _ _ ⟨rfl, hlt, hu9.tr hu10⟩ (by omega)
    · have hall := hu07.tr (hu8.tr hu9)
      refine CondP.intro (fun _ => ⟨rfl, hall⟩) fun e => ?_
      have hpos : best > 0 := by simpa using e
      obtain ⟨c1, c2⟩ := m2.resolve_left (by omega)
      refine gLeads_ok b9.g hgood.toSmall _ _ fun b1 h10 hb1 hu10 => CondP.intro (fun _ => ?_) fun e1 => ?_
      · refine gLeads_ok (b9.upd0 hu10).g hgood.toSmall _ _ fun b2 h11 hb2 hu11 => ⟨hb2.2 c2, (hall.tr hu10).tr hu11⟩
      · have : b1 = true := hb1.2 c1
        rw [this] at e1; cases e1
end Go.Proofs
