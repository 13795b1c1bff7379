/- A part of the proof that the named laws of this program answer true, whatever the input. -/
import Derived.Test.YtcnejdpagpafgaaGraphS14
namespace Go.Proofs
open Go.Lift
variable {W : Nat → Prop} {h : Heap} {gp gm xp : Nat} {L : Vers} {nx : Int}
theorem doAct_ok {a : Int × Int × SliceV × Bool} (ha : ActAt W h a) (b : Both W h gp gm xp L nx) {K : Bool → Heap → Prop}
    (hk : ∀ h' L' nx', Both W h' gp gm xp L' nx' → Upd (Three gp gm xp) h h' → K true h') :
    HC PG f_l20_do [.pointer (some ⟨gp, 0, none⟩), .pointer (some ⟨xp, 0, none⟩), .agg #[.int .u8 a.1, .int .u32 a.2.1, .slice a.2.2.1.a a.2.2.1.len a.2.2.1.cap, .bool a.2.2.2]] [.c .bool] K h := by
  refine H_l20_do (some ⟨gp, 0, none⟩) (some ⟨xp, 0, none⟩) a ?_
  unfold F_l20_do
  obtain ⟨dv, idv, s, near⟩ := a
  have k0 := Upd.hnew No h [.int .u8 dv, .int .u32 idv, .slice s.a s.len s.cap, .bool near] t_l20_Act
  have b0 := hnew_get h [.int .u8 dv, .int .u32 idv, .slice s.a s.len s.cap, .bool near] t_l20_Act
  have ha0 := ha.upd k0 fun _ h => h.elim
  have bb0 := b.upd0 k0
  have hgt := b.g.lt
  have hd0 : 0 ≤ dv := ha.do0
  have hi0 : 0 ≤ idv := ha.id0
  have hfew := b.inv.few
  have hgood := b.inv.good
  simp only [At]
  generalize hnew h [.int .u8 dv, .int .u32 idv, .slice s.a s.len s.cap, .bool near] t_l20_Act = h1 at k0 b0 ha0 bb0
  refine ⟨dv, by rw [hcell_newA b0]; rfl, idv, by rw [hcell_newA b0]; rfl, s, by rw [hcell_newA b0]; rfl, near, by rw [hcell_newA b0]; rfl, ?_⟩
  refine actParents_ok (a := (dv, idv, s, near)) ha0 bb0.x (by omega) fun s1 h2 ps hs1 hps hu1 => ?_
  have b1 := hu1.get0 b0
  have bb1 := bb0.upd0 hu1
  have k1 := k0.tr hu1
  have hne : ¬ Two gp gm h.size := fun e => by
    have := hgt _ b.g.wp; have := hgt _ b.g.wm
    rcases e with e | e <;> omega
  have hnx : ¬ h.size = xp := fun e => by have := hgt _ b.x.wp; omega
  have fin : ∀ h3 h4 L' nx', Upd (Two gp gm) h2 h3 → Upd (· = xp) h3 h4 → GraphAt W h3 gp gm L' nx' → RefAt W h4 xp L' nx' → Inv L' nx' → K true h4 := fun h3 h4 L' nx' q1 q2 q3 q4 q5 =>
    hk h4 L' nx' ⟨q3.one b.x.wp b.n1 b.n2 q2, q4, b.n1, b.n2, q5⟩ ((k1.wide.tr (q1.mono fun b hb => .inl (hb.imp (fun h => h) .inl))).tr (q2.mono fun b hb => .inl (.inr (.inr hb))))
  refine ⟨dv, by rw [hcell_newA b1]; rfl, by decide, ?_⟩
  refine CondP.intro (fun _ => ?_) fun _ => CondP.intro (fun _ => ?_) fun _ => CondP.intro (fun _ => ?_) fun _ => ?_
  · -- Put
    refine ⟨idv, by rw [hcell_newA b1]; rfl, idv, by rw [hcell_newA b1]; rfl, ?_⟩
    refine gPut_ok bb1.g hi0 hs1 (by omega) fun h3 hu3 g3 => ?_
    refine ⟨by rw [hcell_newA (hu3.get b1 hne)]; rfl, ?_⟩
    refine xPut_ok (bb1.two hu3) hi0 (by omega) (hs1.upd hu3 fun b' hb => .inl (hb.elim (fun e => e ▸ b.g.wp) fun e => e ▸ b.g.wm)) (by omega) fun h4 hu4 x4 => ?_
    rw [show ((putV L nx idv ps).1 == (putV L nx idv ps).1) = true by simp]
    exact fin h3 h4 _ _ hu3 hu4 g3 x4 (b.inv.put hi0 ps)
  · -- Drop
    refine gDrop_ok bb1.g hgood hs1 (by omega) fun s3 h3 st hst ho3 g3 hu3 => ?_
    refine xDrop_ok (bb1.two hu3) hgood (hs1.upd hu3 fun b' hb => .inl (hb.elim (fun e => e ▸ b.g.wp) fun e => e ▸ b.g.wm)) (by omega) fun s4 h4 st' hst' hs4 x4 hu4 => ?_
    have e1 : ∀ y, (decide (y ∈ st)) = decide (y ∈ st') := fun y => decide_eq_decide.2 ((hst y).trans (hst' y).symm)
    have e2 : (ids L).filter (fun y => !decide (y ∈ st)) = (ids L).filter (fun y => !decide (y ∈ st')) := by congr 1; funext y; rw [e1]
    have e3 : L.filter (fun v => decide (v.1 ∈ st)) = L.filter (fun v => decide (v.1 ∈ st')) := by congr 1; funext v; rw [e1]
    have hl2 : ((ids L).filter fun y => !decide (y ∈ st)).length ≤ 4611686018427387904 := by
      have := List.length_filter_le (fun y => !decide (y ∈ st)) (ids L); simp at this; omega
    have hxl : xp < h2.size := bb1.x.lt _ b.x.wp
    refine equal_ok ((ho3.sl (W := W) fun b' hb' _ hw => by have := bb1.g.lt b' hw; omega).upd hu4 fun b' hb => .inl (hb ▸ b.x.wp)) hs4 hl2 ?_
    rw [e2, decide_eq_true rfl]
    rw [e3] at g3
    exact fin h3 h4 _ _ hu3 hu4 g3 x4 (b.inv.drop hst')
  · -- SetNext
    have x1 := bb1.x
    obtain ⟨sx, tx, Ls, hb, hl, hpar, hcapx⟩ := x1.blk
    have c1 : hcell h2 (adr ⟨xp, 0, none⟩ 1) = some (.int .u32 nx) := by rw [adr_mk, hcell_blk hb]; rfl
    refine Join.intro (fun t h' => h' = h2 ∧ (t = true ↔ nx ≤ idv ∧ idv ≤ 2147483648)) (fun R hR => ?_) ?_
    · refine ⟨idv, by rw [hcell_newA b1]; rfl, _, rfl, nx, c1, condP_dec (fun h3 => ⟨idv, by rw [hcell_newA b1]; rfl, hR _ _ ⟨rfl, ?_⟩⟩) fun h3 => hR _ _ ⟨rfl, ?_⟩⟩
      · rw [decide_eq_true_iff]; omega
      · simp; omega
    · rintro t h' ⟨rfl, ht⟩
      refine Join.intro (fun _ h3 => (t = true → h3 = hset h' ⟨xp, 1, none⟩ (.int .u32 idv)) ∧ (t = false → h3 = h')) (fun R hR => ?_) ?_
      · refine CondP.intro (fun e => ⟨idv, by rw [hcell_newA b1]; rfl, _, rfl, by rw [adr_mk]; exact wr_blk hb (by simp), hR _ _ ⟨fun _ => by rw [adr_mk], fun e2 => (by rw [e] at e2; cases e2)⟩⟩) fun e => hR _ _ ⟨fun e2 => (by rw [e] at e2; cases e2), fun _ => rfl⟩
      · rintro _ h3 ⟨q1, q2⟩
        have key : RefAt W h3 xp L (if idv < nx ∨ idv > 2147483648 then nx else idv) ∧ Upd (· = xp) h' h3 := by
          cases ht' : t with
          | true =>
            have hh := ht.1 ht'
            rw [if_neg (by omega), q1 ht']
            have kx : Upd (· = xp) h' (hset h' ⟨xp, 1, none⟩ (.int .u32 idv)) := Upd.hset _ _ rfl
            refine ⟨⟨⟨sx, tx, Ls, ?_, hl.upd kx fun b' hb' => .inl (hb' ▸ b.x.wp), Par.upd kx (fun b' hb' => .inl (hb' ▸ b.x.wp)) hpar, hcapx⟩, x1.wp, fun b' hb' => Nat.lt_of_lt_of_le (x1.lt b' hb') kx.size⟩, kx⟩
            rw [hset_blk hb, set_get hb]; rfl
          | false =>
            have hh : ¬ (nx ≤ idv ∧ idv ≤ 2147483648) := fun e => by rw [ht.2 e] at ht'; cases ht'
            rw [if_pos (by omega), q2 ht']
            exact ⟨x1, Upd.refl _ _⟩
        obtain ⟨x3, k3⟩ := key
        refine ⟨idv, by rw [hcell_newA (k3.get b1 hnx)]; rfl, ?_⟩
        have g3 := bb1.g.one b.x.wp b.n1 b.n2 k3
        refine gSetNext_ok g3 idv fun h4 hu4 g4 => ?_
        have e : ((!decide (idv < nx ∨ idv > 2147483648)) == t) = true := by
          cases ht' : t with
          | true => have hh := ht.1 ht'; simp; omega
          | false =>
            have hh : ¬ (nx ≤ idv ∧ idv ≤ 2147483648) := fun e => by rw [ht.2 e] at ht'; cases ht'
            simp; omega
        rw [e]
        refine hk h4 L _ ⟨g4, x3.upd hu4 fun b' hb => .inl ?_, b.n1, b.n2, ?_⟩ ((k1.wide.tr (k3.mono fun b hb => .inl (.inr (.inr hb)))).tr (hu4.mono fun b hb => .inl (hb.imp (fun h => h) .inl)))
        · rcases hb with rfl | rfl
          · exact ⟨b.g.wp, fun e => b.n1 e.symm⟩
          · exact ⟨b.g.wm, fun e => b.n2 e.symm⟩
        · refine ⟨hgood, fun id hid => ?_, ?_, ?_, hfew⟩
          · have := b.inv.pos id hid; split <;> omega
          · have := b.inv.nx1; split <;> omega
          · have := b.inv.nx2; split <;> omega
  · -- Add
    have hnn : 0 ≤ nx := by have := b.inv.nx1; omega
    have hfr : nx ∉ ids L := fun hm => by have := (b.inv.pos nx hm).2; omega
    refine gAdd_ok bb1.g hnn hfr hs1 (by omega) fun h3 hu3 g3 => ?_
    refine xAdd_ok (bb1.two hu3) hnn (by omega) (hs1.upd hu3 fun b' hb => .inl (hb.elim (fun e => e ▸ b.g.wp) fun e => e ▸ b.g.wm)) (by omega) fun h4 hu4 x4 => ?_
    refine CondP.intro (fun _ => ?_) fun e => by simp at e
    rw [show ((addV L nx ps).1.2 == (addV L nx ps).1.2) = true by simp]
    exact fin h3 h4 _ _ hu3 hu4 g3 x4 (b.inv.add ps)
end Go.Proofs
