/- A part of the proof that the named laws of this program answer true, whatever the input. -/
import Derived.Test.YtcnejdpagpafgaaGraphS18
namespace Go.Proofs
open Go.Lift
theorem Par.less {W W' : Nat → Prop} {h : Heap} (hw : ∀ b, W' b → W b ∨ h.size ≤ b) : ∀ {l : List (Int × SliceV)} {m : Vers}, Par W h l m → Par W' h l m
  | [], [], _ => trivial
  | _ :: _, _ :: _, q => ⟨q.1, q.2.1.less hw, Par.less hw q.2.2⟩
  | [], _ :: _, q => q.elim
  | _ :: _, [], q => q.elim
theorem RefAt.more {W Q : Nat → Prop} {h0 h : Heap} {xp : Nat} {L : Vers} {nx : Int} (g : RefAt W h0 xp L nx) (k : Upd No h0 h) (hq : ∀ b, Q b → h0.size ≤ b ∧ b < h.size) : RefAt (fun b => W b ∨ Q b) h xp L nx := by
  obtain ⟨s, t, Ls, h1, h2, h3, h4⟩ := g.blk
  have hw : ∀ b, W b ∨ Q b → W b ∨ h0.size ≤ b := fun b hb => hb.imp id fun hb => (hq b hb).1
  exact ⟨⟨s, t, Ls, k.get0 h1, (h2.less hw).upd k fun _ h => h.elim, Par.upd k (fun _ h => h.elim) (Par.less hw h3), h4⟩, .inl g.wp, fun b hb => hb.elim (fun hb => Nat.lt_of_lt_of_le (g.lt b hb) k.size) fun hb => (hq b hb).2⟩
theorem filter_ids {L : Vers} {st : List Int} : L.filter (fun v => decide (v.1 ∈ ids (L.filter fun v => decide (v.1 ∈ st)))) = L.filter fun v => decide (v.1 ∈ st) := by
  refine List.filter_congr fun v hv => ?_
  rw [decide_eq_decide]
  constructor
  · intro h
    obtain ⟨u, hu, e⟩ := List.mem_map.1 h
    rw [← e]; exact of_decide_eq_true (List.mem_filter.1 hu).2
  · intro h
    exact List.mem_map.2 ⟨v, List.mem_filter.2 ⟨hv, decide_eq_true h⟩, rfl⟩
theorem ids_filter {L : Vers} {st : List Int} (id : Int) : id ∈ ids (L.filter fun v => decide (v.1 ∈ st)) ↔ id ∈ ids L ∧ id ∈ st := by
  unfold ids
  simp only [List.mem_map, List.mem_filter, decide_eq_true_iff]
  constructor
  · rintro ⟨u, ⟨h1, h2⟩, rfl⟩; exact ⟨⟨u, h1, rfl⟩, h2⟩
  · rintro ⟨⟨u, h1, rfl⟩, h2⟩; exact ⟨u, ⟨h1, h2⟩, rfl⟩
theorem dropsLaw_ok {h : Heap} {s sk s2 : SliceV} {acts acts2 : List Act4} {keep : List Int} (ha : ActsAt h s acts) (hcap : sk.len ≤ sk.cap) (hk : Nums No h sk keep) (ha2 : ActsAt h s2 acts2) :
    HC PG f_l20_GraphDrops [.slice s.a s.len s.cap, .slice sk.a sk.len sk.cap, .slice s2.a s2.len s2.cap] [.c .bool] (fun b h' => b = true ∧ Upd No h h') h := by
  refine H_l20_GraphDrops s sk s2 ?_
  unfold F_l20_GraphDrops
  refine awake_ok fun h1 hu1 => condP_false.2 ?_
  refine begin_ok fun h2 gp gm hu2 hg1 hg2 g => ?_
  have b0 := begin_ref g
  have k3 := Upd.hnew No h2 [.slice none 0 0, .int .u32 1] t_r20_Graph
  have z2 := (hu1.tr hu2).size
  have z1 := hu1.size
  simp only [At]
  rw [newA_eq h2]
  have hnw : ∀ x, Three gp gm h2.size x → h.size ≤ x := fun x hx => by rcases hx with rfl | rfl | rfl <;> omega
  refine actsLoop_ok ha b0 ((hu1.tr hu2).tr k3) hnw fun t h4 L nx b hu4 => ?_
  have hgood := b.inv.good
  have hfew := b.inv.few
  have z4 := hu4.size
  have e4 : (if (4 : Int) < (sk.len : Int) then (4 : Int) else (sk.len : Int)) = ((min 4 sk.len : Nat) : Int) := by split <;> omega
  rw [e4]
  refine ⟨by omega, ?_⟩
  simp only [Bd, Int.toNat_natCast]
  have hkc : Nums No h4 ⟨subAddr sk.a 0 sk.cap 1, min 4 sk.len - 0, sk.cap - 0⟩ (keep.take (min 4 sk.len)) := Nums.cut (hk.upd hu4 fun _ h => h.elim) hcap (Nat.min_le_right 4 sk.len)
  have hkl : (keep.take (min 4 sk.len)).length ≤ 4 := by simp; omega
  generalize keep.take (min 4 sk.len) = ks at hkc hkl
  refine gCopy_ok b.g fun h5 hu5 g5 c5 => ?_
  have hcp := c5.lt _ c5.wp
  have hcm := c5.lt _ c5.wm
  have x5 := b.x.more (Q := fun b => b = h4.size + 1 ∨ b = h4.size) hu5 fun b hb => by rcases hb with rfl | rfl <;> omega
  have hbW := b.g.lt
  have hne : h4.size + 1 ≠ gp ∧ h4.size + 1 ≠ gm ∧ h4.size ≠ gp ∧ h4.size ≠ gm ∧ h4.size + 1 ≠ h2.size ∧ h4.size ≠ h2.size := by
    have := hbW gp (.inl rfl); have := hbW gm (.inr (.inl rfl)); have := hbW h2.size (.inr (.inr rfl)); omega
  generalize hcpe : h4.size + 1 = cp at g5 c5 x5 hcp hne
  generalize hcme : h4.size = cm at g5 c5 x5 hcm hne
  refine clone_ok (hkc.upd hu5 fun _ h => h.elim) (by omega) fun s6 h6 ho6 hu6 _ => ?_
  have hu46 := hu5.tr hu6
  have s6' : Nums (fun b => Three gp gm h2.size b ∨ b = cp ∨ b = cm) h6 s6 ks := ho6.sl fun b hb _ hw => by have := c5.lt b hw; omega
  have g6 := g5.upd0 hu6
  have c6 := c5.upd0 hu6
  have x6 := x5.upd0 hu6
  refine gDrop_ok c6 hgood s6' (by omega) fun s7 h7 st hst ho7 c7 hu7 => ?_
  have g7 := g6.upd hu7 fun b hb => .inl (by rcases hb with rfl | rfl; exact ⟨.inr (.inl rfl), by omega, by omega⟩; exact ⟨.inr (.inr rfl), by omega, by omega⟩)
  have x7 := x6.upd hu7 fun b hb => .inl (by rcases hb with rfl | rfl; exact ⟨.inr (.inl rfl), by omega⟩; exact ⟨.inr (.inr rfl), by omega⟩)
  have hu47 : Upd No h4 h7 := hu46.trans hu7 fun b hb => .inr (by rcases hb with rfl | rfl <;> omega)
  have hu07 : Upd No h h7 := hu4.tr hu47
  have hk7 := hkc.upd hu47 fun _ h => h.elim
  have s7' := s6'.upd hu7 fun b hb => .inl (.inr hb)
  have n1 : h2.size ≠ gp := b.n1
  have n2 : h2.size ≠ gm := b.n2
  have z56 := hu6.size
  have z67 := hu7.size
  refine Join.intro (fun t h' => t = false ∧ Upd No h7 h') (fun R hR => ?_) ?_
  · refine equal_ok s7' hk7 (by omega) ?_
    rw [decide_eq_true rfl]
    refine condP_false.2 ?_
    exact like_ok ⟨g7, x7, n1, n2, b.inv⟩ fun h8 hu8 => hR _ _ ⟨rfl, hu8⟩
  rintro _ h8 ⟨rfl, hu8⟩
  refine condP_false.2 ?_
  have hgone : OwnS u32 1 t_u32 (fun b => h6.size ≤ b ∧ b < h7.size) h8 s7 ((ids L).filter fun y => !decide (y ∈ st)) := (ho7.within).upd hu8 fun _ _ h => h
  have g8 := g7.upd0 hu8
  have c8 := c7.upd0 hu8
  have x8 := x7.upd0 hu8
  have hk8 := hk7.upd hu8 fun _ h => h.elim
  have hu08 := hu07.tr hu8
  have z8 := hu8.size
  refine gIDs_ok g8 hgood.up (by omega) fun s9 h9 ho9 hu9 => ?_
  have hids := ho9.sl (W := No) fun _ _ _ h => h
  refine LoopP.ghost (fun (i : Nat) (t' : Int) h' => t' = (i : Int) ∧ i ≤ (ids L).length ∧ Upd No h9 h') (fun i => (ids L).length - i) 0 ⟨rfl, Nat.zero_le _, Upd.refl _ _⟩ ?_
  rintro I i t' h10 ⟨rfl, hi, hu10⟩ hI
  have hu810 := hu9.tr hu10
  have hil : (ids L).length = L.length := by simp
  have hinv := b.inv.drop hst
  refine condP_dec (fun hlt => ?_) fun _ => ?_
  · rw [hids.len] at hlt
    have hlt : i < (ids L).length := by omega
    obtain ⟨a1, ha1, _, hx⟩ := Nums.at (hids.upd hu10 fun _ h => h.elim) hlt
    refine ⟨by rw [hids.len]; omega, a1, ha1, _, hx, ?_⟩
    refine LoopP.ghost (fun (j : Nat) (t : Bool × Int) h' => t.2 = (j : Int) ∧ j ≤ ks.length ∧ Upd No h10 h' ∧ (t.1 = true ↔ ∃ k ∈ ks.take j, Up L k (ids L)[i])) (fun j => ks.length - j) 0 ⟨rfl, Nat.zero_le _, Upd.refl _ _, by simp⟩ ?_
    rintro I2 j ⟨sb, t'⟩ h11 ⟨ht, hj, hu11, hsb⟩ hI2
    simp only at ht hsb
    subst ht
    have hu811 := hu810.tr hu11
    refine condP_dec (fun hlt2 => ?_) fun hge2 => ?_
    · have hlt2 : (j : Int) < ((min 4 sk.len - 0 : Nat) : Int) := hlt2
      rw [show min 4 sk.len - 0 = ks.length from hk8.len] at hlt2
      have hlt2 : j < ks.length := by omega
      obtain ⟨a2, ha2, _, hx2⟩ := Nums.at (hk8.upd hu811 fun _ h => h.elim) hlt2
      refine Join.intro (fun t h' => Upd No h11 h' ∧ (t = true ↔ ∃ k ∈ ks.take (j + 1), Up L k (ids L)[i])) (fun R hR => ?_) ?_
      · refine ⟨by show (0 : Int) ≤ (j : Int) ∧ (j : Int) < ((min 4 sk.len - 0 : Nat) : Int); rw [show min 4 sk.len - 0 = ks.length from hk8.len]; omega, a2, ha2, _, hx2, ?_⟩
        rw [List.take_succ_eq_append_getElem hlt2] at hR
        refine CondP.intro (fun e => hR _ _ ⟨Upd.refl _ _, ?_⟩) fun e => ?_
        · obtain ⟨k, h1, h2⟩ := hsb.1 e
          exact ⟨fun _ => ⟨k, List.mem_append_left _ h1, h2⟩, fun _ => rfl⟩
        · refine gLeads_ok (g8.upd0 hu811) hgood.toSmall _ _ fun bb h12 hbb hu12 => hR _ _ ⟨hu12, ?_⟩
          rw [hbb]
          constructor
          · exact fun h => ⟨_, List.mem_append_right _ (List.mem_singleton.2 rfl), h⟩
          · rintro ⟨k, h1, h2⟩
            rcases List.mem_append.1 h1 with h1 | h1
            · have := hsb.2 ⟨k, h1, h2⟩
              exact absurd (this.symm.trans e) (by simp)
            · rw [List.mem_singleton.1 h1] at h2; exact h2
      · rintro t h12 ⟨hu12, hb12⟩
        simp only
        rw [wrap_succ hlt2 (by omega)]
        exact hI2 (j + 1) _ _ ⟨rfl, hlt2, hu11.tr hu12, hb12⟩ (by omega)
    · have hge2 : ¬ (j : Int) < ((min 4 sk.len - 0 : Nat) : Int) := hge2
      rw [show min 4 sk.len - 0 = ks.length from hk8.len] at hge2
      rw [List.take_of_length_le (by omega), ← hst] at hsb
      have hsb : sb = decide ((ids L)[i] ∈ st) := by rw [Bool.eq_iff_iff, hsb, decide_eq_true_iff]
      have hm : (ids L)[i] ∈ ids L := List.getElem_mem hlt
      refine Join.intro (fun t h' => t = false ∧ Upd No h11 h') (fun R hR => ?_) ?_
      · refine gHas_ok (c8.upd0 hu811) _ ?_
        have e1 : decide ((ids L)[i] ∈ ids (L.filter fun v => decide (v.1 ∈ st))) = sb := by rw [hsb, decide_eq_decide, ids_filter]; exact ⟨fun h => h.2, fun h => ⟨hm, h⟩⟩
        rw [e1]
        refine CondP.intro (fun e => by simp at e) fun _ => ?_
        refine contains_ok ((hgone.sl (W := No) fun _ _ _ h => h).upd hu811 fun _ h => h.elim) (by have := List.length_filter_le (fun y => !decide (y ∈ st)) (ids L); omega) _ ?_
        have e2 : decide ((ids L)[i] ∈ (ids L).filter fun y => !decide (y ∈ st)) = !sb := by
          rw [hsb, ← decide_not, decide_eq_decide, List.mem_filter]
          exact ⟨fun h => by simpa using h.2, fun h => ⟨hm, by simpa using h⟩⟩
        rw [e2]
        refine CondP.intro (fun e => by cases sb <;> simp at e) fun _ => ?_
        refine CondP.intro (fun e => ?_) fun _ => hR _ _ ⟨rfl, Upd.refl _ _⟩
        have hin : (ids L)[i] ∈ st := by rw [hsb] at e; exact of_decide_eq_true e
        refine gParents_ok (c8.upd0 hu811) _ (fun v hv => by have := hinv.good.two v hv; omega) fun s13 h13 ho13 hu13 => ?_
        refine gParents_ok (g8.upd0 (hu811.tr hu13)) _ (fun v hv => by have := hgood.two v hv; omega) fun s14 h14 ho14 hu14 => ?_
        refine equal_ok (W := No) (W' := No) ((ho13.sl fun _ _ _ h => h).upd hu14 fun _ h => h.elim) (ho14.sl fun _ _ _ h => h) ?_ (hR _ _ ⟨?_, hu13.tr hu14⟩)
        · cases hl : alook (L.filter fun v => decide (v.1 ∈ st)) (ids L)[i] with
          | none => simp
          | some ps =>
            have := hinv.good.two _ ((alook_mem hinv.good.nd).1 hl)
            simp only [Option.getD_some]; simp only at this; omega
        · rw [alook_filter (fun y => decide (y ∈ st)), if_pos (decide_eq_true hin)]; simp
      · rintro _ h12 ⟨rfl, hu12⟩
        refine condP_false.2 ?_
        rw [wrap_succ hlt (by omega)]
        exact hI (i + 1) _ _ ⟨rfl, hlt, (hu10.tr hu11).tr hu12⟩ (by omega)
  · have g10 := g8.upd0 hu810
    have c10 := c8.upd0 hu810
    have x10 := x8.upd0 hu810
    have hgone10 := hgone.upd hu810 fun _ _ h => h
    have hu010 := hu08.tr hu810
    have z10 := hu810.size
    obtain ⟨sx, tx, Ls, hxb, hxl, hxp, hxc⟩ := x10.blk
    have hll := hxl.len
    have hpl := hxp.len
    have hxlt := get_lt hxb
    refine ⟨_, rfl, nx, by rw [adr_mk, hcell_blk hxb]; rfl, ?_⟩
    have ky := Upd.hnew No h10 [.slice none 0 0, .int .u32 nx] t_r20_Graph
    have by0 := hnew_get h10 [.slice none 0 0, .int .u32 nx] t_r20_Graph
    have zy := hnew_size h10 [.slice none 0 0, .int .u32 nx] t_r20_Graph
    have gy := g10.more (Q := (· = h10.size)) ky fun b hb => by omega
    have cy := c10.more (Q := (· = h10.size)) ky fun b hb => by omega
    have xy := x10.more (Q := (· = h10.size)) ky fun b hb => by omega
    have hxl' := (hxl.less (W' := fun b => (Three gp gm h2.size b ∨ b = cp ∨ b = cm) ∨ b = h10.size) fun b hb => hb.imp id fun hb => by omega).upd ky fun _ h => h.elim
    have hxp' := Par.upd ky (fun _ h => h.elim) (Par.less (W' := fun b => (Three gp gm h2.size b ∨ b = cp ∨ b = cm) ∨ b = h10.size) (fun b hb => hb.imp id fun hb => by omega) hxp)
    have hxb' := ky.get0 hxb
    have hgoney := hgone10.upd ky fun _ _ h => h
    have hu0y := hu010.tr ky
    simp only [newA_eq h10]
    generalize hnew h10 [.slice none 0 0, .int .u32 nx] t_r20_Graph = hy at by0 zy gy cy xy hxl' hxp' hxb' hgoney hu0y
    generalize hyp : h10.size = yp at by0 zy gy cy xy hxl' hxp'
    refine ⟨_, rfl, sx, by rw [adr_mk, hcell_blk hxb']; rfl, ?_⟩
    have hgl := gy.lt _ gy.wp
    have hyne : yp ≠ gp ∧ yp ≠ gm ∧ yp ≠ cp ∧ yp ≠ cm ∧ yp ≠ h2.size := by
      have := g10.lt _ g10.wp; have := g10.lt _ g10.wm; have := c10.lt _ c10.wp; have := c10.lt _ c10.wm; omega
    refine LoopP.ghost (fun (i : Nat) (t' : Int) h' => t' = (i : Int) ∧ i ≤ L.length ∧ Upd (· = yp) hy h' ∧ ∃ left, h'[yp]? = some (.cells #[sv left, .int .u32 nx] t_r20_Graph (0, 0)) ∧
        OwnS vf 2 t_r20_Version (fun b => hy.size ≤ b) h' left ((Ls.take i).filter fun v => decide (v.1 ∈ ids (L.filter fun v => decide (v.1 ∈ st))))) (fun i => L.length - i) 0 ⟨rfl, Nat.zero_le _, Upd.refl _ _, ⟨none, 0, 0⟩, by0, OwnS.nil vf_ne⟩ ?_
    rintro I3 j t' h11 ⟨rfl, hj, hu11, left, hleft, hol⟩ hI3
    have g11 := gy.upd hu11 fun b hb => .inl (by subst hb; exact ⟨.inr rfl, hyne.1, hyne.2.1⟩)
    have c11 := cy.upd hu11 fun b hb => .inl (by subst hb; exact ⟨.inr rfl, hyne.2.2.1, hyne.2.2.2.1⟩)
    have x11 := xy.upd hu11 fun b hb => .inl (by subst hb; exact ⟨.inr rfl, hyne.2.2.2.2⟩)
    have hxl11 := hxl'.upd hu11 fun b hb => .inl (.inr hb)
    have z11 := hu11.size
    refine condP_dec (fun hlt => ?_) fun hge => ?_
    · have hlt : j < L.length := by omega
      obtain ⟨a, ha', c0, c1⟩ := verVar hxl11 (hpl ▸ hlt)
      obtain ⟨q1, q2, q3⟩ := setVar h11 t_r20_Version (.int .u32 0) (.slice none 0 0) (Ls[j]'(hpl ▸ hlt))
      refine Join.plain ⟨by omega, a, ha', _, c0, _, c1, q1, _, hcell_newA q2 0, gHas_ok (c11.upd0 q3) _ (condP_dec (fun hm => ?_) fun hm => ?_)⟩
      · have hl12 := q3.get0 hleft
        refine ⟨_, rfl, left, by rw [adr_mk, hcell_blk hl12]; rfl, _, hcell_newA q2 0, Ls[j].2, hcell_newA q2 1, ?_⟩
        have kn := Upd.hnew No (hsetL (hnew h11 [.int .u32 0, .slice none 0 0] t_r20_Version) (newA h11) 0 [.int .u32 (Ls[j]'(hpl ▸ hlt)).1, .slice (Ls[j]'(hpl ▸ hlt)).2.a (Ls[j]'(hpl ▸ hlt)).2.len (Ls[j]'(hpl ▸ hlt)).2.cap]) [.int .u32 Ls[j].1, .slice Ls[j].2.a Ls[j].2.len Ls[j].2.cap] t_r20_Version
        refine ⟨by rw [adr_mk, hcell_blk (kn.get0 hl12)]; rfl, ?_⟩
        refine append1v (M := fun b => hy.size ≤ b) (v := Ls[j]) (hol.upd q3 fun _ _ h => h) (fun b hb => by have := q3.size; omega) ?_ fun s5 h15 ho5 hu5 => ?_
        · have := List.length_filter_le (fun v : Int × SliceV => decide (v.1 ∈ ids (L.filter fun v => decide (v.1 ∈ st)))) (Ls.take j); simp at this ⊢; omega
        · have hl15 := hu5.get hl12 (by omega)
          have hw : Wr h15 (adr ⟨yp, 0, none⟩ 0) := wr_blk hl15 (by simp)
          refine ⟨_, rfl, hw, ?_⟩
          have e0 : adr ⟨yp, 0, none⟩ 0 = ⟨yp, 0, none⟩ := rfl
          rw [e0, wrap_succ hlt (by omega)]
          have k8 : Upd (· = yp) h15 (hset h15 ⟨yp, 0, none⟩ (.slice s5.a s5.len s5.cap)) := Upd.hset _ _ rfl
          refine hI3 (j + 1) _ _ ⟨rfl, hlt, ((hu11.tr q3.wide).trans hu5 fun b hb => .inr hb).tr k8, s5, ?_, ?_⟩ (by omega)
          · rw [hset_blk hl15, set_get hl15]; rfl
          · rw [List.take_succ_eq_append_getElem (hpl ▸ hlt), List.filter_append, List.filter_cons, if_pos (decide_eq_true hm)]
            exact ho5.upd k8 fun b hb hb2 => by omega
      · rw [wrap_succ hlt (by omega)]
        refine hI3 (j + 1) _ _ ⟨rfl, hlt, hu11.tr q3.wide, left, q3.get0 hleft, ?_⟩ (by omega)
        rw [List.take_succ_eq_append_getElem (hpl ▸ hlt), List.filter_append, List.filter_cons, if_neg (by simpa using hm), List.filter_nil, List.append_nil]
        exact hol.upd q3 fun _ _ h => h
    · have hge : L.length ≤ j := by omega
      rw [List.take_of_length_le (by omega)] at hol
      have hxp11 := Par.filter (fun y => decide (y ∈ ids (L.filter fun v => decide (v.1 ∈ st)))) (Par.upd hu11 (fun b hb => .inl (.inr hb)) hxp')
      rw [filter_ids] at hxp11
      have y11 : RefAt (fun b => (Three gp gm h2.size b ∨ b = cp ∨ b = cm) ∨ b = yp) h11 yp (L.filter fun v => decide (v.1 ∈ st)) nx :=
        ⟨⟨left, _, _, hleft, hol.sl fun b hb _ hw => by have := gy.lt b hw; omega, hxp11, hol.cap⟩, .inr rfl, fun b hb => Nat.lt_of_lt_of_le (gy.lt b hb) z11⟩
      have hgx : Both (fun b => (Three gp gm h2.size b ∨ b = cp ∨ b = cm) ∨ b = yp) h11 gp gm h2.size L nx := ⟨g11, x11, n1, n2, b.inv⟩
      have hcy : Both (fun b => (Three gp gm h2.size b ∨ b = cp ∨ b = cm) ∨ b = yp) h11 cp cm yp (L.filter fun v => decide (v.1 ∈ st)) nx := ⟨c11, y11, hyne.2.2.1, hyne.2.2.2.1, hinv⟩
      have hgn : Nums (fun b => (Three gp gm h2.size b ∨ b = cp ∨ b = cm) ∨ b = yp) h11 s7 ((ids L).filter fun y => !decide (y ∈ st)) :=
        (hgoney.sl fun b hb _ hw => by
          rcases hw with hw | rfl
          · have := c6.lt b hw; omega
          · omega).upd hu11 fun b hb => .inl (.inr hb)
      have hu011 : Upd No h h11 := hu0y.trans hu11 fun b hb => .inr (by omega)
      have z011 := hu011.size
      have zz5 := hu5.size
      have hW3 : ∀ b, Three cp cm yp b → ((Three gp gm h2.size b ∨ b = cp ∨ b = cm) ∨ b = yp) ∧ b ≠ gp ∧ b ≠ gm ∧ b ≠ h2.size ∧ h.size ≤ b := fun b hb => by
        rcases hb with rfl | rfl | rfl
        · exact ⟨.inl (.inr (.inl rfl)), by omega⟩
        · exact ⟨.inl (.inr (.inr rfl)), by omega⟩
        · exact ⟨.inr rfl, by omega⟩
      have hW0 : ∀ b, ((Three gp gm h2.size b ∨ b = cp ∨ b = cm) ∨ b = yp) → h.size ≤ b := fun b hb => by
        rcases hb with (hb | rfl | rfl) | rfl
        · exact hnw b hb
        all_goals omega
      obtain ⟨W3, hW3, hW0, hgx, hcy, hgn⟩ : ∃ W3 : Nat → Prop, (∀ b, Three cp cm yp b → W3 b ∧ b ≠ gp ∧ b ≠ gm ∧ b ≠ h2.size ∧ h.size ≤ b) ∧ (∀ b, W3 b → h.size ≤ b) ∧ Both W3 h11 gp gm h2.size L nx ∧
          Both W3 h11 cp cm yp (L.filter fun v => decide (v.1 ∈ st)) nx ∧ Nums W3 h11 s7 ((ids L).filter fun y => !decide (y ∈ st)) := ⟨_, hW3, hW0, hgx, hcy, hgn⟩
      refine LoopP.ghost (fun (g : Nat × Vers × Int) (t' : Int) h' => t' = (g.1 : Int) ∧ g.1 ≤ acts2.length ∧ Both W3 h' cp cm yp g.2.1 g.2.2 ∧ Upd (Three cp cm yp) h11 h') (fun g => acts2.length - g.1) (0, _, nx) ⟨rfl, Nat.zero_le _, hcy, Upd.refl _ _⟩ ?_
      rintro I4 ⟨i, L4, nx4⟩ t' h12 ⟨ht, hi4, b12, hu12⟩ hI4
      simp only at ht hi4 b12
      subst ht
      have hu012 : Upd No h h12 := hu011.trans hu12 fun b hb => .inr (hW3 b hb).2.2.2.2
      have ha12 := ha2.upd hu012
      have g12 : Both W3 h12 gp gm h2.size L nx := ⟨hgx.g.upd hu12 fun b hb => .inl ⟨(hW3 b hb).1, (hW3 b hb).2.1, (hW3 b hb).2.2.1⟩, hgx.x.upd hu12 fun b hb => .inl ⟨(hW3 b hb).1, (hW3 b hb).2.2.2.1⟩, n1, n2, b.inv⟩
      have hgn12 := hgn.upd hu12 fun b hb => .inl (hW3 b hb).1
      refine condP_dec (fun hlt => ?_) fun _ => ?_
      · rw [ha2.sl.len] at hlt
        have hlt : i < acts2.length := by omega
        obtain ⟨a, haa, _, hv⟩ := ha12.sl.at (List.getElem?_eq_getElem hlt)
        obtain ⟨q1, q2, q3⟩ := setAct h12 acts2[i]
        refine ⟨by rw [ha2.sl.len]; omega, a, haa, _, hv 0 _ rfl, _, hv 1 _ rfl, _, hv 2 _ rfl, _, hv 3 _ rfl, q1, ?_⟩
        rw [newA_eq] at q2 q3 ⊢
        generalize hsetL (hnew h12 [.int .u8 0, .int .u32 0, .slice none 0 0, .bool false] t_l20_Act) ⟨h12.size, 0, none⟩ _ = h13 at q2 q3
        have b13 := b12.upd0 q3
        have hu13 := hu12.tr q3.wide
        refine Join.intro (fun t h' => t = false ∧ ∃ L' nx', Both W3 h' cp cm yp L' nx' ∧ Upd (Three cp cm yp) h11 h') (fun R hR => ?_) ?_
        · refine condP_dec (fun _ => ?_) fun _ => hR _ _ ⟨rfl, L4, nx4, b13, hu13⟩
          refine ⟨_, by rw [adr_mk, hcell_blk q2]; rfl, _, by rw [adr_mk, hcell_blk q2]; rfl, _, by rw [adr_mk, hcell_blk q2]; rfl, _, by rw [adr_mk, hcell_blk q2]; rfl, ?_⟩
          refine doAct_ok (a := acts2[i]) ?_ b13 fun h5 L' nx' b5 hu5 => hR _ _ ⟨rfl, L', nx', b5, hu13.tr hu5⟩
          exact ((ha2.all _ (List.getElem_mem hlt)).less hW0).upd (hu012.tr q3) fun _ h => h.elim
        · rintro _ h14 ⟨rfl, L', nx', b14, hu14⟩
          refine condP_false.2 ?_
          rw [i64s hlt ha2.len]
          exact hI4 (i + 1, L', nx') _ _ ⟨rfl, hlt, b14, hu14⟩ (by simp only; omega)
      · refine like_ok b12 fun h13 hu13 => condP_true.2 ?_
        refine like_ok (g12.upd0 hu13) fun h14 hu14 => condP_true.2 ?_
        refine isSorted_ok ((hgn12.upd hu13 fun _ h => h.elim).upd hu14 fun _ h => h.elim) ?_ (hgood.up.sublist List.filter_sublist) ⟨rfl, (hu012.tr hu13).tr hu14⟩
        have := List.length_filter_le (fun y => !decide (y ∈ st)) (ids L); omega
end Go.Proofs
