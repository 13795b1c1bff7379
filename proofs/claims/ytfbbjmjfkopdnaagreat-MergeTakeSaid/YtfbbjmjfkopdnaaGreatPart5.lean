/- A part of the proof that the named laws of this program answer true, whatever the input. -/
import Derived.Test.YtfbbjmjfkopdnaaGreatPart4
import Derived.Test.YtfbbjmjfkopdnaaGreatPart3
import Derived.Test.YtfbbjmjfkopdnaaGreatPart2
namespace Go.Proofs
open Go Go.Lift
theorem append1f {M : Nat → Prop} {h : Heap} {so : SliceV} {out : List (SliceV × SliceV)} {p : SliceV × SliceV} {K : SliceV → Heap → Prop} (ho : OwnS frF 2 t_walk_frame M h so out) (hM : ∀ b, h.size ≤ b → M b) (hn : out.length + 1 ≤ 1000000000)
    (hk : ∀ s' h', OwnS frF 2 t_walk_frame M h' s' (out ++ [p]) → Upd M h h' → K s' h') :
    ∃ xs, SRow (hnew h (frF p) t_walk_frame) (some (newA h)) (1 * 2) xs ∧ AppP (some [.slice none 0 0, .slice none 0 0]) 2 48 t_walk_frame so.a so.len so.cap 1 xs (hnew h (frF p) t_walk_frame) K := by
  have k := Upd.hnew No h (frF p) t_walk_frame
  have h1 : OwnS frF 2 t_walk_frame (fun _ => True) (hnew h (frF p) t_walk_frame) ⟨some (newA h), 1, 1⟩ [p] := ⟨rfl, frF_ne, Nat.le_refl _, .inr ⟨h.size, [], rfl, trivial, hnew_get .., rfl⟩⟩
  refine ⟨_, (h1.sl (W := No) fun _ _ _ h => h).srow, ?_⟩
  refine AppP.own (ys := [p]) (ho.upd k fun _ _ h => h) rfl rfl rfl rfl (by omega) (by simp only [List.length_singleton]; omega) (hM _ (by rw [hnew_size]; omega)) fun s' h' ho' hu => ?_
  exact hk s' h' ho' ((Upd.hnew M h _ _).tr hu)
set_option maxHeartbeats 2000000 in
theorem walkNext_ok {W G0 C0 : Nat → Prop} {x : Hs} {h : Heap} {cb : Nat} {fs0 : List Fr} (cur : CurW W G0 C0 x h cb fs0) (hW0 : ∀ b, h.size ≤ b → W b) {K : (ByteArray × ByteArray) × Bool → Heap → Prop}
    (hn : ∀ h', remW x fs0 = [] → Upd (fun b => C0 b ∨ b = cb) h h' → K (((⟨#[]⟩ : ByteArray), (⟨#[]⟩ : ByteArray)), false) h')
    (hs : ∀ h' fs' p R G' C', remW x fs0 = p :: R → remW x fs' = R → CurW W G' C' x h' cb fs' → (∀ b, C' b → C0 b ∨ h.size ≤ b) → (∀ b, G' b → G0 b ∨ h.size ≤ b) → Upd (fun b => C0 b ∨ b = cb) h h' → K (p, true) h') :
    HC PG f_walk_Cursor_Next [.pointer (some ⟨cb, 0, none⟩)] [.agg [.str, .str], .c .bool] K h := by
  refine H_walk_Cursor_Next (some ⟨cb, 0, none⟩) ?_
  unfold F_walk_Cursor_Next cAt iBd
  refine at_new fun h1 b1 k1 => condP_false.2 ?_
  have z1 := get_lt b1
  obtain ⟨s00, d00, hc0, _⟩ := cur.ex
  have zc := get_lt hc0
  have s1 := k1.size
  have cur1 := cur.upd k1 (fun _ h => h.elim) (fun _ _ h => h) (fun _ _ h => h) fun h => h
  refine LoopP.ghost (fun (g : List Fr × (Nat → Prop) × (Nat → Prop)) (_ : Unit) h' => CurW W g.2.1 g.2.2 x h' cb g.1 ∧ remW x g.1 = remW x fs0 ∧ (∀ b, g.2.2 b → (C0 b ∨ h.size ≤ b) ∧ b ≠ h.size) ∧ (∀ b, g.2.1 b → (G0 b ∨ h.size ≤ b) ∧ b ≠ h.size) ∧ h'[h.size]? = some (.cells zPrL.toArray t_pair_Pair (0, 0)) ∧ Upd (fun b => C0 b ∨ b = cb) h h') (fun g => costW x g.1) (fs0, G0, C0)
    ⟨cur1, rfl, fun b hb => ⟨.inl hb, by have := cur.lt b (.inl hb); omega⟩, fun b hb => ⟨.inl hb, by have := cur.lt b (.inr hb); omega⟩, b1, k1.wide⟩ ?_
  rintro I ⟨fs, G, C⟩ ⟨⟩ h' ⟨cu, hrem, hCo, hGo, bz, hu⟩ hI
  simp only at cu hrem hCo hGo
  obtain ⟨s, d, hcell, hst⟩ := cu.ex
  have hlen := hst.len
  rw [List.length_map] at hlen
  have hzs : h.size < h'.size := get_lt bz
  have zcb := get_lt hcell
  refine ⟨_, rfl, s, vc hcell 0, ?_⟩
  refine condP_dec (fun hpos => ?_) fun hnp => ?_
  · obtain ⟨fs', f, rfl⟩ : ∃ fs' f, fs = fs' ++ [f] := by
      rcases eq_snoc fs with rfl | ⟨l', y, e⟩
      · simp only [List.length_nil] at hlen; omega
      · exact ⟨l', y, e⟩
    rw [List.map_append, List.map_cons, List.map_nil] at hst
    rw [List.length_append, List.length_singleton] at hlen
    have h14 := lv_len (n := 13) cu.lv fun f hf => (cu.ok f hf).n13
    rw [List.length_append, List.length_singleton] at h14
    have eidx : IntKind.wrap .i64 ((s.len : Int) - 1) = ((fs'.length : Nat) : Int) := by rw [w64 (by omega)]; omega
    obtain ⟨a, ha, hv⟩ := readApp hst (i := fs'.length) (by rw [List.length_map])
    have fo := cu.ok f (List.mem_append_right _ (List.mem_singleton.2 rfl))
    have hpl := fo.p.len
    have hkl := fo.k.len
    rw [List.length_map] at hkl
    have hpc := fo.pc
    have hkc := fo.kc
    have hcap := hst.cap
    refine ⟨_, rfl, s, vc hcell 0, _, rfl, s, vc hcell 0, ?_⟩
    rw [eidx]
    refine ⟨⟨by omega, by omega⟩, a, ha, _, rfl, f.sp, hv 0 _ rfl, ?_⟩
    -- what all writes leave as it was
    have keep : ∀ {h2 : Heap} {M : Nat → Prop}, Upd M h' h2 → (∀ b, M b → C b ∨ b = cb ∨ b = h.size ∨ h'.size ≤ b) → ∀ {g : Fr}, g.Ok W G x h' → g.Ok W G x h2 := fun {h2 M} k hM {g} o => o.upd k (fun b hb => by
      rcases hM b hb with h | h | h | h
      · exact .inl (cu.cw.1 b h)
      · exact .inl (by rw [h]; exact cu.cw.2)
      · exact .inl (by rw [h]; exact hW0 _ (Nat.le_refl _))
      · exact .inr h) fun b hb => by
      rcases hM b hb with h | h | h | h
      · exact .inl fun hg => (cu.dj b hg).1 h
      · exact .inl fun hg => (cu.dj b hg).2 h
      · exact .inl fun hg => (hGo b hg).2 h
      · exact .inr h
    have lvs := List.pairwise_append.1 cu.lv
    have hrs := remW_snoc x fs' f
    have hcs := costW_snoc x fs' f
    refine condP_dec (fun hp => ?_) fun hp => ?_
    · -- a pair
      rcases hps : f.ps with _ | ⟨p, ps⟩
      · rw [hps] at hpl; simp only [List.length_nil] at hpl; omega
      have fop := fo.p
      rw [hps] at fop hpl
      simp only [List.length_cons] at hpl
      obtain ⟨ap, hap, _, hvp⟩ := fop.at (i := 0) (x := p) rfl
      refine ⟨_, rfl, f.sp, hv 0 _ rfl, ⟨by omega, by omega⟩, ap, hap, p.1, hvp 0 _ rfl, p.2, hvp 1 _ rfl, ?_⟩
      refine newPr' (p := p) fun h8 b8 k8 => ?_
      have z8 := get_lt b8
      have hst8 := hst.upd k8 fun _ _ h => h
      obtain ⟨a', ha', hv8⟩ := readApp hst8 (i := fs'.length) (by rw [List.length_map])
      rw [ha] at ha'; cases ha'
      refine ⟨_, rfl, f.sp, hv8 0 _ rfl, ⟨by omega, by omega⟩, _, rfl, ?_⟩
      let f' : Fr := ⟨⟨subAddr f.sp.a 1 f.sp.cap 2, f.sp.len - 1, f.sp.cap - 1⟩, f.sk, f.n, ps, f.ks⟩
      refine setCell hst8 (y := f'.raw) (j := 0) (by omega) rfl ha (by simp) fun h9 ho9 hu9 => ?_
      have c9 := hu9.get (k8.get0 hcell) cu.cc
      refine ⟨_, rfl, s, vc c9 0, _, rfl, ?_⟩
      refine vset (i := 1) (c' := cuC s (s.len : Int)) c9 (show 1 < 2 by decide) rfl fun h10 c10 hu10 => ?_
      have hCh : ∀ b, C b → b < h'.size := fun b hb => cu.lt b (.inl hb)
      have b9 := hu9.get b8 fun hx => by have := hCh _ hx; omega
      have b10 := hu10.oth b9 (by omega)
      refine ⟨_, vc b10 0, _, vc b10 1, ?_⟩
      have bz10 := hu10.oth (hu9.get (k8.get0 bz) fun hx => (hCo _ hx).2 rfl) (by omega)
      refine setAll (c := zPrL) (vs := [.string p.1, .string p.2]) bz10 rfl fun h11 b11 hu11 => ?_
      refine ⟨_, vc b11 0, _, vc b11 1, ?_⟩
      have c11 := hu11.oth c10 (by omega)
      have hall : Upd (fun b => C b ∨ b = cb ∨ b = h.size ∨ h'.size ≤ b) h' h11 := ((k8.wide.trans hu9 fun b hb => .inl (.inl hb)).trans hu10 fun b hb => .inl (.inr (.inl hb))).trans hu11 fun b hb => .inl (.inr (.inr (.inl hb)))
      have ho11 : OwnS frF 2 t_walk_frame C h11 s ((fs' ++ [f']).map Fr.raw) := by
        rw [List.map_append, List.map_cons, List.map_nil]
        exact (ho9.upd hu10 fun b hb e => by have e : b = cb := e; rw [e] at hb; exact cu.cc hb).upd hu11 fun b hb e => (hCo b hb).2 e
      have fo' : f'.Ok W G x h11 := by
        have o := keep hall (fun b hb => hb) fo
        refine ⟨?_, o.k, by show f.sp.len - 1 ≤ f.sp.cap - 1; omega, o.kc, o.t, o.n0, o.n13⟩
        have op := o.p
        rw [hps] at op
        have := Sl.sub op (l := 1) (hi := (p :: ps).length) (m := f.sp.cap) (c := f.sp.cap - 1) (by simp) (Nat.le_refl _) (by simp only [List.length_cons]; omega)
        rw [List.drop_one, List.tail_cons, List.take_of_length_le (by simp)] at this
        have e : (p :: ps).length - 1 = f.sp.len - 1 := by simp only [List.length_cons]; omega
        rw [e] at this
        exact this
      refine hs h11 (fs' ++ [f']) p (f'.rem x ++ remW x fs') G C ?_ (remW_snoc x fs' f') ⟨⟨s, _, c11, ho11⟩, fun g hg => ?_, fun b hb => Nat.lt_of_lt_of_le (cu.lt b hb) hall.size, cu.dj, cu.cc, cu.cw, List.pairwise_append.2 ⟨lvs.1, List.pairwise_singleton .., fun g hg g' hg' => by rw [List.mem_singleton.1 hg']; exact lvs.2.2 g hg f (List.mem_singleton.2 rfl)⟩⟩ (fun b hb => (hCo b hb).1) (fun b hb => (hGo b hb).1) ?_
      · rw [← hrem, hrs]
        unfold Fr.rem
        rw [hps]; rfl
      · rcases List.mem_append.1 hg with hg | hg
        · exact keep hall (fun b hb => hb) (cu.ok g (List.mem_append_left _ hg))
        · rw [List.mem_singleton.1 hg]; exact fo'
      · refine hu.trans hall fun b hb => ?_
        rcases hb with h | h | h | h
        · exact (hCo b h).1.imp .inl id
        · exact .inl (.inr h)
        · exact .inr (by omega)
        · exact .inr (by omega)
    · have hps : f.ps = [] := List.length_eq_zero_iff.1 (by omega)
      refine ⟨_, rfl, f.sk, hv 1 _ rfl, ?_⟩
      refine condP_dec (fun hk => ?_) fun hk => ?_
      · -- a kid
        rcases hks : f.ks with _ | ⟨kd, ks⟩
        · rw [hks] at hkl; simp only [List.length_nil] at hkl; omega
        have fok := fo.k
        rw [hks] at fok hkl
        simp only [List.length_cons] at hkl
        rw [List.map_cons] at fok
        obtain ⟨ap, hap, _, hvp⟩ := fok.at0 (i := 0) (x := kidA kd) rfl
        have hfn : 0 < f.n := fo.n0 (by rw [hks]; simp)
        have hf13 := fo.n13
        refine ⟨_, rfl, f.sk, hv 1 _ rfl, ⟨by omega, by omega⟩, ap, hap, _, hvp, _, rfl, f.sk, hv 1 _ rfl, ⟨by omega, by omega⟩, _, rfl, ?_⟩
        let f' : Fr := ⟨f.sp, ⟨subAddr f.sk.a 1 f.sk.cap 1, f.sk.len - 1, f.sk.cap - 1⟩, f.n, f.ps, ks⟩
        refine setCell hst (y := f'.raw) (j := 1) (by omega) rfl ha (by simp) fun h8 ho8 hu8 => ?_
        have c8 := hu8.get hcell cu.cc
        have hall8 : Upd (fun b => C b ∨ b = cb ∨ b = h.size ∨ h'.size ≤ b) h' h8 := hu8.mono fun b hb => .inl (.inl hb)
        have s8 := hu8.size
        refine ⟨_, rfl, s, vc c8 0, ?_⟩
        have fo8 := keep hall8 (fun b hb => hb) fo
        obtain ⟨tk, hkn⟩ := fo8.t kd (by rw [hks]; exact List.mem_cons_self ..)
        refine walkOf_ok tk (by omega) hkn fun h9 g hgn hgr hgc go k9 => ?_
        have c9 := k9.get0 c8
        have s9 := k9.size
        refine ⟨vc c9 0, at_intro ⟨vc ((Upd.hnew No h9 (frF g.raw) t_walk_frame).get0 c9) 0, ?_⟩⟩
        have hC9 : ∀ b, C b → b < h9.size := fun b hb => by have := cu.lt b (.inl hb); omega
        refine append1f (M := fun b => C b ∨ h9.size ≤ b) (p := g.raw) ((ho8.upd k9 fun _ _ h => h).more fun b hb => .inl hb) (fun b hb => .inr hb) (by rw [List.length_append, List.length_map, List.length_singleton]; omega) fun s10 h10 ho10 hu10 => ?_
        have s10' := hu10.size
        have c10 := hu10.get c9 (by rintro (hx | hx); exact cu.cc hx; omega)
        refine ⟨_, rfl, ?_⟩
        refine vset (i := 0) (c' := cuC s10 d) c10 (show 0 < 2 by decide) rfl fun h11 c11 hu11 => ?_
        have s11 := hu11.size
        have hall : Upd (fun b => C b ∨ b = cb ∨ b = h.size ∨ h'.size ≤ b) h' h11 := ((hall8.tr k9.wide).trans hu10 fun b hb => hb.elim (fun h => .inl (.inl h)) fun h => .inr (by omega)).trans hu11 fun b hb => .inl (.inr (.inl hb))
        have bz11 := hu11.oth (hu10.get (k9.get0 (hu8.get bz fun hx => (hCo _ hx).2 rfl)) (by rintro (hx | hx); exact (hCo _ hx).2 rfl; omega)) (by omega)
        have hGl : ∀ b, G b → b < h'.size := fun b hb => cu.lt b (.inr hb)
        refine hI (fs' ++ [f'] ++ [g], fun b => G b ∨ (h8.size ≤ b ∧ b < h9.size), fun b => (C b ∨ h9.size ≤ b) ∧ b < h10.size) () h11 ⟨⟨⟨s10, d, c11, ?_⟩, fun g' hg' => ?_, fun b hb => ?_, fun b hb => ?_, fun hb => ?_, ⟨fun b hb => ?_, cu.cw.2⟩, ?_⟩, ?_, fun b hb => ?_, fun b hb => ?_, bz11, ?_⟩ ?_
        · rw [List.map_append, List.map_append, List.map_cons, List.map_nil, List.map_cons, List.map_nil]
          exact ho10.within.upd hu11 fun b hb e => by
            have e : b = cb := e
            rw [e] at hb
            rcases hb.1 with h | h
            · exact cu.cc h
            · omega
        · have hsubG : ∀ {q : Fr}, q.Ok W G x h11 → q.Ok W (fun b => G b ∨ (h8.size ≤ b ∧ b < h9.size)) x h11 := fun o => o.sub fun b hb => .inl hb
          rcases List.mem_append.1 hg' with hg' | hg'
          · rcases List.mem_append.1 hg' with hg' | hg'
            · exact hsubG (keep hall (fun b hb => hb) (cu.ok g' (List.mem_append_left _ hg')))
            · rw [List.mem_singleton.1 hg']
              have o := keep hall (fun b hb => hb) fo
              refine hsubG ⟨o.p, ?_, o.pc, by show f.sk.len - 1 ≤ f.sk.cap - 1; omega, fun q hq => o.t q (by rw [hks]; exact List.mem_cons_of_mem _ hq), fun _ => hfn, hf13⟩
              have op := o.k
              rw [hks, List.map_cons] at op
              have := Sl.sub op (l := 1) (hi := (kidA kd :: ks.map kidA).length) (m := f.sk.cap) (c := f.sk.cap - 1) (by simp) (Nat.le_refl _) (by simp only [List.length_cons, List.length_map]; omega)
              rw [List.drop_one, List.tail_cons, List.take_of_length_le (by simp)] at this
              have e : (kidA kd :: ks.map kidA).length - 1 = f.sk.len - 1 := by simp only [List.length_cons, List.length_map]; omega
              rw [e] at this
              exact this
          · rw [List.mem_singleton.1 hg']
            have o1 := go.upd hu10 (fun b hb => hb.elim (fun h => .inl (cu.cw.1 b h)) .inr) fun b hb => hb.elim (fun h => .inl fun hg => by have := cu.lt b (.inl h); omega) .inr
            have o2 := o1.upd hu11 (fun b hb => .inl (by have hb : b = cb := hb; rw [hb]; exact cu.cw.2)) fun b hb => .inl fun hg => by have hb : b = cb := hb; omega
            exact o2.sub fun b hb => .inr hb
        · rcases hb with hb | hb | hb
          · omega
          · have := hGl b hb; omega
          · omega
        · refine ⟨fun hc => ?_, fun e => ?_⟩
          · rcases hb with hb | hb
            · rcases hc.1 with h | h
              · exact (cu.dj b hb).1 h
              · have := hGl b hb; omega
            · rcases hc.1 with h | h
              · have := cu.lt b (.inl h); omega
              · omega
          · subst e
            rcases hb with hb | hb
            · exact (cu.dj _ hb).2 rfl
            · omega
        · rcases hb.1 with h | h
          · exact cu.cc h
          · omega
        · rcases hb.1 with h | h
          · exact cu.cw.1 b h
          · exact hW0 b (by omega)
        · refine List.pairwise_append.2 ⟨List.pairwise_append.2 ⟨lvs.1, List.pairwise_singleton .., fun q hq q' hq' => by rw [List.mem_singleton.1 hq']; exact lvs.2.2 q hq f (List.mem_singleton.2 rfl)⟩, List.pairwise_singleton .., fun q hq q' hq' => ?_⟩
          rw [List.mem_singleton.1 hq', hgn]
          rcases List.mem_append.1 hq with hq | hq
          · have := lvs.2.2 q hq f (List.mem_singleton.2 rfl); omega
          · rw [List.mem_singleton.1 hq]; show f.n - 1 < f.n; omega
        · rw [remW_snoc, remW_snoc, ← hrem, hrs, hgr]
          unfold Fr.rem
          rw [hps, hks, List.flatMap_cons]
          simp
          rfl
        · refine ⟨?_, ?_⟩
          · rcases hb.1 with h | h
            · exact (hCo b h).1
            · exact .inr (by omega)
          · rcases hb.1 with h | h
            · exact (hCo b h).2
            · omega
        · refine ⟨?_, ?_⟩
          · rcases hb with h | h
            · exact (hGo b h).1
            · exact .inr (by omega)
          · rcases hb with h | h
            · exact (hGo b h).2
            · omega
        · refine hu.trans hall fun b hb => ?_
          rcases hb with h | h | h | h
          · exact (hCo b h).1.imp .inl id
          · exact .inl (.inr h)
          · exact .inr (by omega)
          · exact .inr (by omega)
        · show costW x (fs' ++ [f'] ++ [g]) < costW x (fs' ++ [f])
          rw [costW_snoc, costW_snoc, hcs]
          have e1 : f.cost x = f'.cost x + cw x (f.n - 1) kd.2 := by
            unfold Fr.cost
            rw [hks, List.map_cons, List.sum_cons]
            have e0 : (f'.ks.map fun k => cw x (f'.n - 1) k.2).sum = (ks.map fun k => cw x (f.n - 1) k.2).sum := rfl
            omega
          omega
      · -- nothing is left of it
        have hks : f.ks = [] := List.length_eq_zero_iff.1 (by omega)
        refine ⟨_, rfl, s, vc hcell 0, _, rfl, s, vc hcell 0, ?_⟩
        rw [eidx]
        refine ⟨⟨by omega, by omega⟩, ?_⟩
        simp only [Bd]
        refine ⟨_, rfl, ?_⟩
        refine vset (i := 0) (c' := cuC ⟨subAddr s.a 0 s.cap 2, fs'.length, s.cap⟩ d) hcell (show 0 < 2 by decide) rfl fun h8 c8 hu8 => ?_
        have hpop := OwnS.pop hst
        rw [List.length_map] at hpop
        have hall : Upd (fun b => C b ∨ b = cb ∨ b = h.size ∨ h'.size ≤ b) h' h8 := hu8.mono fun b hb => .inl (.inr (.inl hb))
        refine hI (fs', G, C) () h8 ⟨⟨⟨_, d, c8, hpop.upd hu8 fun b hb e => by have e : b = cb := e; rw [e] at hb; exact cu.cc hb⟩, fun g hg => keep hall (fun b hb => hb) (cu.ok g (List.mem_append_left _ hg)), fun b hb => Nat.lt_of_lt_of_le (cu.lt b hb) hall.size, cu.dj, cu.cc, cu.cw, lvs.1⟩, ?_, hCo, hGo, hu8.oth bz (by omega), hu.trans hu8 fun b hb => .inl (.inr hb)⟩ ?_
        · rw [← hrem, hrs]
          unfold Fr.rem
          rw [hps, hks]; rfl
        · show costW x fs' < costW x (fs' ++ [f])
          rw [hcs]
          unfold Fr.cost
          omega
  · have h0 : fs = [] := List.length_eq_zero_iff.1 (by omega)
    subst h0
    refine ⟨_, rfl, ?_⟩
    refine vset (i := 1) (c' := cuC s 0) hcell (show 1 < 2 by decide) rfl fun h8 c8 hu8 => ?_
    refine setAll (c := zPrL) (vs := zPrL) (hu8.oth bz (by omega)) rfl fun h9 b9 hu9 => ?_
    refine ⟨_, vc b9 0, _, vc b9 1, hn h9 hrem.symm ((hu.trans hu8 fun b hb => .inl (.inr hb)).trans hu9 fun b hb => .inr (Nat.le_of_eq (Eq.symm hb)))⟩
end Go.Proofs
namespace Go.Proofs
open Go Go.Lift
def Below (W : Nat → Prop) (x : Hs) (h : Heap) (m : Nat) (r : Option Addr) (l : List Pr) : Prop := (r = none ∧ l = []) ∨ ∃ b, r = some ⟨b, 0, none⟩ ∧ TrieAt W x h m b l
theorem Below.upd0 {W : Nat → Prop} {x : Hs} {h h' : Heap} {m : Nat} {r : Option Addr} {l : List Pr} (k : Upd No h h') (t : Below W x h m r l) : Below W x h' m r l := t.imp id fun ⟨b, e, t⟩ => ⟨b, e, TrieAt.upd0 k t⟩
theorem Below.less {W W' : Nat → Prop} {x : Hs} {h : Heap} {m : Nat} {r : Option Addr} {l : List Pr} (hm : ∀ b, W' b → W b ∨ h.size ≤ b) (t : Below W x h m r l) : Below W' x h m r l := t.imp id fun ⟨b, e, t⟩ => ⟨b, e, TrieAt.less hm t⟩
theorem Below.updM {W M : Nat → Prop} {x : Hs} {h h' : Heap} {m : Nat} {r : Option Addr} {l : List Pr} (k : Upd M h h') (hm : ∀ b, M b → W b ∨ h.size ≤ b) (t : Below W x h m r l) : Below W x h' m r l := t.imp id fun ⟨b, e, t⟩ => ⟨b, e, TrieAt.updM k hm t⟩
theorem wl_nil (x : Hs) : ∀ m, wl x m [] = []
  | 0 => rfl
  | m + 1 => List.length_eq_zero_iff.1 (Nat.le_zero.1 (wl_len x (m + 1) []))
theorem walkOfB_ok {W : Nat → Prop} {x : Hs} {h : Heap} {m : Nat} {r : Option Addr} {l : List Pr} (t : Below W x h m r l) (hm : m ≤ 13) (hn : l.length ≤ 100000) {K : SliceV × SliceV → Heap → Prop}
    (hk : ∀ h' f, Fr.rem x f = wl x m l → f.Ok W (fun y => h.size ≤ y ∧ y < h'.size) x h' → Upd No h h' → K f.raw h') : HC PG f_walk_of [.pointer r] [.agg [.slice, .slice]] K h := by
  rcases t with ⟨rfl, rfl⟩ | ⟨b, rfl, t⟩
  · refine H_walk_of none ?_
    unfold F_walk_of cAt
    refine at_new fun h1 b1 k1 => ?_
    refine H_node_Node_Pairs none ?_
    unfold F_node_Node_Pairs cAt
    refine condP_true.2 (H_node_Node_Kids none ?_)
    unfold F_node_Node_Kids cAt
    refine condP_true.2 ?_
    refine setAll (c := [.slice none 0 0, .slice none 0 0]) (vs := [.slice none 0 0, .slice none 0 0]) b1 rfl fun h4 b4 hu4 => ?_
    refine ⟨⟨none, 0, 0⟩, vc b4 0, ⟨none, 0, 0⟩, vc b4 1, ?_⟩
    refine hk h4 ⟨⟨none, 0, 0⟩, ⟨none, 0, 0⟩, 0, [], []⟩ ?_ ⟨Sl.nil prF_ne, Sl.nil ndF_ne, Nat.le_refl _, Nat.le_refl _, fun k hk => (by cases hk), fun h => absurd rfl h, Nat.zero_le _⟩ (k1.own hu4 (Nat.le_refl _))
    rw [wl_nil]; rfl
  · exact walkOf_ok t hm hn fun h' f _ h2 _ h4 h5 => hk h' f h2 h4 h5
theorem walkNew_ok {W : Nat → Prop} {x : Hs} {h : Heap} {m : Nat} {r : Option Addr} {l : List Pr} (t : Below W x h m r l) (hm : m ≤ 13) (hn : l.length ≤ 100000) (hW : ∀ y, h.size ≤ y → W y) {K : Option Addr → Heap → Prop}
    (hk : ∀ h' cb f G C, h.size ≤ cb → (∀ y, G y ∨ C y → h.size ≤ y) → CurW W G C x h' cb [f] → f.rem x = wl x m l → Upd No h h' → K (some ⟨cb, 0, none⟩) h') : HC PG f_walk_New [.pointer r] [.c .ptr] K h := by
  refine H_walk_New r ?_
  unfold F_walk_New
  refine walkOfB_ok t hm hn fun h2 f hfr fo k2 => ?_
  refine at_new fun h3 b3 k3 => at_new fun h4 b4 k4 => ?_
  have z3 := get_lt b3
  have z4 := get_lt b4
  have s2 := k2.size
  have s3 := k3.size
  have o3 : OwnS frF 2 t_walk_frame (fun y => y = h2.size) h3 ⟨some (newA h2), 1, 1⟩ [f.raw] := ⟨rfl, frF_ne, Nat.le_refl _, .inr ⟨h2.size, [], rfl, rfl, b3, rfl⟩⟩
  refine hk h4 h3.size f (fun y => h.size ≤ y ∧ y < h2.size) (fun y => y = h2.size) (by omega) (fun y hy => by rcases hy with h | h <;> omega) ⟨⟨_, 0, b4, o3.upd k4 fun _ _ h => h⟩, fun g hg => ?_, fun y hy => by rcases hy with h | h <;> omega, fun y hy => ⟨by omega, by omega⟩, by omega, ⟨fun y hy => hW y (by omega), hW _ (by omega)⟩, List.pairwise_singleton ..⟩ hfr ((k2.tr k3).tr k4)
  rw [List.mem_singleton.1 hg]
  exact fo.upd (k3.tr k4) (fun _ h => h.elim) fun _ h => h.elim
theorem walkAll_ok {W : Nat → Prop} {x : Hs} {h : Heap} {m : Nat} {r : Option Addr} {l : List Pr} (t : Below W x h m r l) (hm : m ≤ 13) (hn : l.length ≤ 100000) {K : Value → Heap → Prop}
    (hk : ∀ fv h', Gives PG fv encP l.length (fun xs => xs = wl x m l) (fun y => y < h'.size) h' → Upd No h h' → K fv h') : HC PG f_walk_All [.pointer r] [.c .raw] K h := by
  refine H_walk_All r ?_
  unfold F_walk_All
  refine at_new fun h1 b1 k1 => ?_
  have z1 := get_lt b1
  refine hk _ h1 ?_ k1
  have t1 := Below.less (W' := fun y => h1.size ≤ y) (fun y hy => .inr hy) (Below.upd0 k1 t)
  have hwl := wl_len x m l
  refine ⟨fun y hy => hy, f_walk_All_1, #[], _, rfl, fun y J A M h4 K' ht hj hu hq ha hk' => ?_⟩
  refine HE_walk_All_1 y (newA h) ?_
  unfold F_walk_All_1 cAt
  have d1 := hu.get b1 (hq _ z1)
  have s4 := hu.size
  have t4 : Below (fun y => h1.size ≤ y) x h4 m r l := Below.updM hu (fun y hy => .inl (by
    rcases Nat.lt_or_ge y h1.size with hl | hl
    · exact absurd hy (hq y hl)
    · exact hl)) t1
  refine ⟨_, hcell_blk d1, ?_⟩
  refine walkNew_ok t4 hm hn (fun y hy => Nat.le_trans s4 hy) fun h5 cb f G C hcb hGC cur hfr k5 => ?_
  have hAlt := ht.lt _ _ _ hj
  have hA3 : ∀ y, A y → h1.size ≤ y := fun y hy => by
    rcases Nat.lt_or_ge y h1.size with hl | hl
    · exact absurd hl (ha y hy)
    · exact hl
  have s5 := k5.size
  have hrem0 : remW x [f] = wl x m l := by rw [← hfr]; simp [remW]
  refine LoopP.ghost (fun (g : List Pr × List Fr × (Nat → Prop) × (Nat → Prop) × (Nat → Prop)) (_ : Unit) h' => CurW (fun y => h1.size ≤ y) g.2.2.2.1 g.2.2.2.2 x h' cb g.2.1 ∧ J g.1 g.2.2.1 h' ∧ Upd A h4 h' ∧ (∀ y, g.2.2.1 y → (A y ∨ h4.size ≤ y) ∧ ¬ g.2.2.2.1 y ∧ ¬ g.2.2.2.2 y ∧ y ≠ cb) ∧ (∀ y, g.2.2.2.1 y ∨ g.2.2.2.2 y → h4.size ≤ y) ∧ g.1 ++ remW x g.2.1 = wl x m l ∧ h5.size ≤ h'.size) (fun g => (remW x g.2.1).length) ([], [f], A, G, C)
    ⟨cur, ht.keep _ _ _ _ No hj k5 (fun _ _ h => h), k5.wide, fun y hy => ⟨.inl hy, fun hx => by have := hAlt y hy; have := hGC y (.inl hx); omega, fun hx => by have := hAlt y hy; have := hGC y (.inr hx); omega, fun e => by have := hAlt y hy; omega⟩, hGC, by rw [hrem0]; rfl, Nat.le_refl _⟩ ?_
  rintro I ⟨pre, fs, A1, G1, C1⟩ ⟨⟩ h' ⟨cu, hj', hu', hA1, hGC1, hrem, hsz⟩ hI
  simp only at cu hj' hA1 hGC1 hrem
  have hlt' := ht.lt _ _ _ hj'
  have hA1W : ∀ y, A1 y → h1.size ≤ y := fun y hy => (hA1 y hy).1.elim (hA3 y) fun h => by omega
  have hd : ∀ y, A1 y → ¬ (C1 y ∨ y = cb) := fun y hy hx => hx.elim (hA1 y hy).2.2.1 (hA1 y hy).2.2.2
  have hC4 : ∀ y, C1 y ∨ y = cb → h4.size ≤ y := fun y hy => hy.elim (fun h => hGC1 y (.inr h)) fun e => by omega
  refine walkNext_ok cu (fun y hy => by omega) (fun h6 hr0 hu6 => ?_) fun h6 fs' p R G' C' hr1 hr2 cu6 hC' hG' hu6 => ?_
  · have hj6 := ht.keep _ _ _ _ _ hj' hu6 hd
    refine newPr fun h7 b7 k7 => ?_
    refine Join.intro (fun t h8 => t = true ∧ h8 = h7) (fun R hR => condP_true.2 (hR _ _ ⟨rfl, rfl⟩)) ?_
    rintro t h8 ⟨rfl, rfl⟩
    refine condP_true.2 (hk' pre A1 h8 ?_ (ht.keep _ _ _ _ No hj6 k7 (fun _ _ h => h)) ?_ fun y hy => (hA1 y hy).1)
    · rw [hr0, List.append_nil] at hrem
      exact hrem
    · exact (hu'.trans hu6 fun y hy => .inr (hC4 y hy)).tr k7.wide
  · have hj6 := ht.keep _ _ _ _ _ hj' hu6 hd
    refine newPr (p := p) fun h7 b7 k7 => ?_
    have hj7 := ht.keep _ _ _ _ No hj6 k7 (fun _ _ h => h)
    have cu7 := cu6.upd k7 (fun _ h => h.elim) (fun _ _ h => h) (fun _ _ h => h) fun h => h
    have hu47 : Upd A h4 h7 := (hu'.trans hu6 fun y hy => .inr (hC4 y hy)).tr k7.wide
    have s6 := hu6.size
    have s7 := k7.size
    refine Join.intro (fun t h8 => t = false ∧ ∃ A3, J (pre ++ [p]) A3 h8 ∧ Upd A1 h7 h8 ∧ ∀ y, A3 y → A1 y ∨ h7.size ≤ y) (fun R' hR => ?_) ?_
    · refine condP_false.2 ⟨_, vc b7 0, _, vc b7 1, ?_⟩
      refine ht.step pre A1 h7 p _ hj7 ?_ fun h8 A3 hj8 hu8 hA8 => hR _ _ ⟨rfl, A3, hj8, hu8, hA8⟩
      have := congrArg List.length hrem
      rw [hr1] at this
      simp only [List.length_append, List.length_cons] at this
      omega
    · rintro t h8 ⟨rfl, A3, hj8, hu8, hA8⟩
      have hG'1 : ∀ y, G' y → ¬ A1 y := fun y hy hx => (hG' y hy).elim (hA1 y hx).2.1 fun h => by have := hlt' y hx; omega
      have hC'1 : ∀ y, C' y → ¬ A1 y := fun y hy hx => (hC' y hy).elim (hA1 y hx).2.2.1 fun h => by have := hlt' y hx; omega
      have hcb6 : cb < h6.size := by obtain ⟨s, d, hx, _⟩ := cu6.ex; exact get_lt hx
      refine condP_false.2 (hI (pre ++ [p], fs', A3, G', C') () h8 ⟨?_, hj8, ?_, fun y hy => ?_, fun y hy => ?_, ?_, by have := hu8.size; omega⟩ ?_)
      · exact cu7.upd hu8 (fun y hy => .inl (hA1W y hy)) hC'1 hG'1 fun hx => (hA1 _ hx).2.2.2 rfl
      · exact hu47.trans hu8 fun y hy => (hA1 y hy).1
      · rcases hA8 y hy with h | h
        · exact ⟨(hA1 y h).1, fun hx => hG'1 y hx h, fun hx => hC'1 y hx h, (hA1 y h).2.2.2⟩
        · exact ⟨.inr (by omega), fun hx => by have := cu6.lt y (.inr hx); omega, fun hx => by have := cu6.lt y (.inl hx); omega, by omega⟩
      · rcases hy with hy | hy
        · rcases hG' y hy with h | h
          · exact hGC1 y (.inl h)
          · omega
        · rcases hC' y hy with h | h
          · exact hGC1 y (.inr h)
          · omega
      · simp only
        rw [List.append_assoc, hr2, ← hrem, hr1]
        rfl
      · simp only
        rw [hr1, hr2]; simp
theorem walkSorted_ok {W W' : Nat → Prop} {x : Hs} {h : Heap} {m : Nat} {r : Option Addr} {l : List Pr} (t : Below W x h m r l) (hm : m ≤ 13) (hr : Rises l) (hn : l.length ≤ 100000) (hW' : ∀ y, W' y → y < h.size) {K : SliceV → Heap → Prop}
    (hk : ∀ s' h', Sl prF 2 W' h' s' l → s'.len ≤ s'.cap → Upd No h h' → K s' h') : HC PG f_walk_Sorted [.pointer r] [.c .slice] K h := by
  refine H_walk_Sorted r ?_
  unfold F_walk_Sorted
  refine walkAll_ok t hm hn fun fv h2 hg k2 => ?_
  refine collectP_ok hg (by omega) fun s3 h3 xs e ho k3 => ?_
  subst e
  have hwl := wl_len x m l
  refine sorted_ok (W' := W') (ho.sl (W := No) fun _ _ _ h => h) (fun y hy => Nat.lt_of_lt_of_le (hW' y hy) (k2.tr k3).size) (by omega) fun s4 h4 hs4 hc4 k4 => ?_
  rw [srt_wl hr] at hs4
  exact hk s4 h4 hs4 hc4 ((k2.tr k3).tr k4)
theorem tPairsC_ok {W W' : Nat → Prop} {x : Hs} {h : Heap} {t : Tr} {l : List Pr} (i : TreeIs W h 0 x t l) (hr : Rises l) (hn : l.length ≤ 60000) (hW' : ∀ y, W' y → y < h.size) {K : SliceV → Heap → Prop}
    (hk : ∀ s' h', Sl prF 2 W' h' s' l → Upd No h h' → K s' h') : HC PG f_tree_Tree_Pairs [trV t] [.c .slice] K h := by
  rcases i with ⟨_, b, rfl, t⟩ | ⟨e, _⟩
  · refine H_tree_Tree_Pairs _ ?_
    unfold F_tree_Tree_Pairs cAt
    refine at_new fun h1 b1 k1 => ⟨_, vc b1 0, condP_false.2 ⟨_, vc b1 4, ?_⟩⟩
    exact walkSorted_ok (W' := W') (.inr ⟨b, rfl, TrieAt.upd0 k1 t⟩) (Nat.le_refl _) hr (by omega) (fun y hy => Nat.lt_of_lt_of_le (hW' y hy) k1.size) fun s4 h4 hs4 _ k4 => hk s4 h4 hs4 (k1.tr k4)
  · cases e
end Go.Proofs
namespace Go.Proofs
open Go.Lift
abbrev Ch := ByteArray × ByteArray × ByteArray × Bool × Bool
abbrev chF (c : Ch) : List Value := [.string c.1, .string c.2.1, .string c.2.2.1, .bool c.2.2.2.1, .bool c.2.2.2.2]
def cOut (p : Pr) : Ch := (p.1, p.2, ⟨#[]⟩, true, false)
def cIn (p : Pr) : Ch := (p.1, ⟨#[]⟩, p.2, false, true)
def chg : List Pr → List Pr → List Ch
  | [], B => B.map cIn
  | a :: A, [] => cOut a :: chg A []
  | a :: A, b :: B => if kl a.1 b.1 then cOut a :: chg A (b :: B) else if kl b.1 a.1 then cIn b :: chg (a :: A) B else if a.2 = b.2 then chg A B else (a.1, a.2, b.2, true, true) :: chg A B
termination_by A B => A.length + B.length
theorem chg_nilA (B : List Pr) : chg [] B = B.map cIn := by unfold chg; rfl
theorem chg_nilB : ∀ A : List Pr, chg A [] = A.map cOut
  | [] => by rw [chg_nilA]; rfl
  | a :: A => by unfold chg; rw [chg_nilB A]; rfl
theorem chg_cons (a b : Pr) (A B : List Pr) : chg (a :: A) (b :: B) = if kl a.1 b.1 then cOut a :: chg A (b :: B) else if kl b.1 a.1 then cIn b :: chg (a :: A) B else if a.2 = b.2 then chg A B else (a.1, a.2, b.2, true, true) :: chg A B := by
  conv => lhs; unfold chg
theorem kl_asymm {a b : ByteArray} (h : kl a b) : ¬ kl b a := fun k => kl_irrefl _ (kl_trans h k)
theorem chg_lowA {a : Pr} {A : List Pr} : ∀ {B : List Pr}, (∀ q ∈ B, kl a.1 q.1) → chg (a :: A) B = cOut a :: chg A B
  | [], _ => by rw [chg_nilB, chg_nilB]; rfl
  | b :: B, h => by rw [chg_cons, if_pos (h b (List.mem_cons_self ..))]
theorem chg_lowB {b : Pr} {B : List Pr} : ∀ {A : List Pr}, (∀ q ∈ A, kl b.1 q.1) → chg A (b :: B) = cIn b :: chg A B
  | [], _ => by rw [chg_nilA, chg_nilA]; rfl
  | a :: A, h => by
    have h := h a (List.mem_cons_self ..)
    rw [chg_cons, if_neg (kl_asymm h), if_pos h]
theorem chg_self : ∀ A : List Pr, chg A A = []
  | [] => by rw [chg_nilA]; rfl
  | a :: A => by rw [chg_cons, if_neg (kl_irrefl _), if_neg (kl_irrefl _), if_pos rfl, chg_self A]
def cKey (a b : Pr) : List Ch := if a.2 = b.2 then [] else [(a.1, a.2, b.2, true, true)]
theorem chg_same {a b : Pr} (e : a.1 = b.1) (A B : List Pr) : chg (a :: A) (b :: B) = cKey a b ++ chg A B := by
  rw [chg_cons, e, if_neg (kl_irrefl _), if_neg (kl_irrefl _)]
  unfold cKey
  split
  · rfl
  · rw [← e]; rfl
theorem chg_mem : ∀ {A B : List Pr} {c : Ch}, c ∈ chg A B → ∃ p, p ∈ A ++ B ∧ c.1 = p.1
  | [], B, c, h => by
    rw [chg_nilA] at h
    obtain ⟨p, hp, e⟩ := List.mem_map.1 h
    exact ⟨p, hp, by rw [← e]; rfl⟩
  | a :: A, [], c, h => by
    rw [chg_nilB] at h
    obtain ⟨p, hp, e⟩ := List.mem_map.1 h
    exact ⟨p, List.mem_append_left _ hp, by rw [← e]; rfl⟩
  | a :: A, b :: B, c, h => by
    rw [chg_cons] at h
    by_cases h1 : kl a.1 b.1
    · rw [if_pos h1] at h
      rcases List.mem_cons.1 h with h | h
      · exact ⟨a, List.mem_cons_self .., by rw [h]; rfl⟩
      · obtain ⟨p, hp, e⟩ := chg_mem h
        exact ⟨p, List.mem_cons_of_mem _ hp, e⟩
    · rw [if_neg h1] at h
      by_cases h2 : kl b.1 a.1
      · rw [if_pos h2] at h
        rcases List.mem_cons.1 h with h | h
        · exact ⟨b, List.mem_append_right _ (List.mem_cons_self ..), by rw [h]; rfl⟩
        · obtain ⟨p, hp, e⟩ := chg_mem h
          refine ⟨p, ?_, e⟩
          rcases List.mem_append.1 hp with hp | hp
          · exact List.mem_append_left _ hp
          · exact List.mem_append_right _ (List.mem_cons_of_mem _ hp)
      · rw [if_neg h2] at h
        have hs : c ∈ chg A B → ∃ p, p ∈ a :: A ++ b :: B ∧ c.1 = p.1 := fun h => by
          obtain ⟨p, hp, e⟩ := chg_mem h
          refine ⟨p, ?_, e⟩
          rcases List.mem_append.1 hp with hp | hp
          · exact List.mem_append_left _ (List.mem_cons_of_mem _ hp)
          · exact List.mem_append_right _ (List.mem_cons_of_mem _ hp)
        split at h
        · exact hs h
        · rcases List.mem_cons.1 h with h | h
          · exact ⟨a, List.mem_cons_self .., by rw [h]⟩
          · exact hs h
termination_by A B => A.length + B.length
theorem rise_ind {P : List Pr → List Pr → Prop} (nil : P [] []) (lowA : ∀ a A B, Rises (a :: A) → Rises B → (∀ q ∈ B, kl a.1 q.1) → P A B → P (a :: A) B)
    (lowB : ∀ b A B, Rises A → Rises (b :: B) → (∀ q ∈ A, kl b.1 q.1) → P A B → P A (b :: B)) (same : ∀ a b A B, a.1 = b.1 → Rises (a :: A) → Rises (b :: B) → P A B → P (a :: A) (b :: B)) :
    ∀ {A B : List Pr}, Rises A → Rises B → P A B
  | [], [], _, _ => nil
  | [], b :: B, hA, hB => lowB b [] B hA hB (fun _ h => absurd h List.not_mem_nil) (rise_ind nil lowA lowB same hA (List.pairwise_cons.1 hB).2)
  | a :: A, [], hA, hB => lowA a A [] hA hB (fun _ h => absurd h List.not_mem_nil) (rise_ind nil lowA lowB same (List.pairwise_cons.1 hA).2 hB)
  | a :: A, b :: B, hA, hB => by
    have hA' := List.pairwise_cons.1 hA
    have hB' := List.pairwise_cons.1 hB
    by_cases h1 : kl a.1 b.1
    · refine lowA a A (b :: B) hA hB (fun q hq => ?_) (rise_ind nil lowA lowB same hA'.2 hB)
      rcases List.mem_cons.1 hq with hq | hq
      · rw [hq]; exact h1
      · exact kl_trans h1 (hB'.1 q hq)
    · by_cases h2 : kl b.1 a.1
      · refine lowB b (a :: A) B hA hB (fun q hq => ?_) (rise_ind nil lowA lowB same hA hB'.2)
        rcases List.mem_cons.1 hq with hq | hq
        · rw [hq]; exact h2
        · exact kl_trans h2 (hA'.1 q hq)
      · have e : a.1 = b.1 := Decidable.byContradiction fun hne => h2 (kl_tri h1 hne)
        exact same a b A B e hA hB (rise_ind nil lowA lowB same hA'.2 hB'.2)
termination_by A B => A.length + B.length
abbrev RisesC (l : List Ch) : Prop := l.Pairwise fun p q => kl p.1 q.1
theorem risesC_chg {A B : List Pr} (hA : Rises A) (hB : Rises B) : RisesC (chg A B) := by
  refine rise_ind (P := fun A B => RisesC (chg A B)) ?_ (fun a A B hA _ h i => ?_) (fun b A B _ hB h i => ?_) (fun a b A B e hA hB i => ?_) hA hB
  · rw [chg_nilA]; exact .nil
  · rw [chg_lowA h]
    refine List.pairwise_cons.2 ⟨fun c hc => ?_, i⟩
    obtain ⟨p, hp, e⟩ := chg_mem hc
    rw [e]
    rcases List.mem_append.1 hp with hp | hp
    · exact (List.pairwise_cons.1 hA).1 p hp
    · exact h p hp
  · rw [chg_lowB h]
    refine List.pairwise_cons.2 ⟨fun c hc => ?_, i⟩
    obtain ⟨p, hp, e⟩ := chg_mem hc
    rw [e]
    rcases List.mem_append.1 hp with hp | hp
    · exact h p hp
    · exact (List.pairwise_cons.1 hB).1 p hp
  · rw [chg_same e]
    unfold cKey
    split
    · exact i
    · refine List.pairwise_cons.2 ⟨fun c hc => ?_, i⟩
      obtain ⟨p, hp, e'⟩ := chg_mem hc
      rw [e']
      rcases List.mem_append.1 hp with hp | hp
      · exact (List.pairwise_cons.1 hA).1 p hp
      · rw [e]; exact (List.pairwise_cons.1 hB).1 p hp
theorem chg_filter (g : ByteArray → Bool) {A B : List Pr} (hA : Rises A) (hB : Rises B) : chg (A.filter fun p => g p.1) (B.filter fun p => g p.1) = (chg A B).filter fun c => g c.1 := by
  refine rise_ind (P := fun A B => chg (A.filter fun p => g p.1) (B.filter fun p => g p.1) = (chg A B).filter fun c => g c.1) ?_ (fun a A B hA _ h i => ?_) (fun b A B _ hB h i => ?_) (fun a b A B e hA hB i => ?_) hA hB
  · rw [List.filter_nil, chg_nilA]; rfl
  · rw [chg_lowA h, List.filter_cons, List.filter_cons, ← i]
    show chg (if g a.1 = true then _ else _) _ = if g a.1 = true then _ else _
    by_cases hg : g a.1 = true
    · rw [if_pos hg, if_pos hg, chg_lowA fun q hq => h q (List.mem_filter.1 hq).1]
    · rw [if_neg hg, if_neg hg]
  · rw [chg_lowB h, List.filter_cons, List.filter_cons, ← i]
    show chg _ (if g b.1 = true then _ else _) = if g b.1 = true then _ else _
    by_cases hg : g b.1 = true
    · rw [if_pos hg, if_pos hg, chg_lowB fun q hq => h q (List.mem_filter.1 hq).1]
    · rw [if_neg hg, if_neg hg]
  · rw [chg_same e, List.filter_append, ← i, List.filter_cons, List.filter_cons, ← e]
    unfold cKey
    by_cases hg : g a.1 = true
    · rw [if_pos hg, if_pos hg, chg_same e]
      unfold cKey
      split
      · rfl
      · rw [List.filter_cons, if_pos hg]; rfl
    · rw [if_neg hg, if_neg hg]
      split
      · rfl
      · rw [List.filter_cons, if_neg hg]; rfl
theorem chg_app {A2 B2 : List Pr} : ∀ {A1 B1 : List Pr}, Rises A1 → Rises B1 → (∀ p ∈ A1, ∀ q ∈ A2, kl p.1 q.1) → (∀ p ∈ A1, ∀ q ∈ B2, kl p.1 q.1) → (∀ p ∈ B1, ∀ q ∈ A2, kl p.1 q.1) → (∀ p ∈ B1, ∀ q ∈ B2, kl p.1 q.1) →
    chg (A1 ++ A2) (B1 ++ B2) = chg A1 B1 ++ chg A2 B2 := by
  intro A1 B1 hA hB
  refine rise_ind (P := fun A1 B1 => (∀ p ∈ A1, ∀ q ∈ A2, kl p.1 q.1) → (∀ p ∈ A1, ∀ q ∈ B2, kl p.1 q.1) → (∀ p ∈ B1, ∀ q ∈ A2, kl p.1 q.1) → (∀ p ∈ B1, ∀ q ∈ B2, kl p.1 q.1) → chg (A1 ++ A2) (B1 ++ B2) = chg A1 B1 ++ chg A2 B2) ?_ (fun a A B hA _ h i => ?_) (fun b A B _ hB h i => ?_) (fun a b A B e hA hB i => ?_) hA hB
  · intro _ _ _ _; rw [chg_nilA]; rfl
  · intro h1 h2 h3 h4
    rw [List.cons_append, chg_lowA h, chg_lowA (fun q hq => (List.mem_append.1 hq).elim (h q) (h2 a (List.mem_cons_self ..) q)), i (fun p hp => h1 p (List.mem_cons_of_mem _ hp)) (fun p hp => h2 p (List.mem_cons_of_mem _ hp)) h3 h4]; rfl
  · intro h1 h2 h3 h4
    rw [List.cons_append, chg_lowB h, chg_lowB (fun q hq => (List.mem_append.1 hq).elim (h q) (h3 b (List.mem_cons_self ..) q)), i h1 h2 (fun p hp => h3 p (List.mem_cons_of_mem _ hp)) (fun p hp => h4 p (List.mem_cons_of_mem _ hp))]; rfl
  · intro h1 h2 h3 h4
    rw [List.cons_append, List.cons_append, chg_same e, chg_same e, i (fun p hp => h1 p (List.mem_cons_of_mem _ hp)) (fun p hp => h2 p (List.mem_cons_of_mem _ hp)) (fun p hp => h3 p (List.mem_cons_of_mem _ hp)) (fun p hp => h4 p (List.mem_cons_of_mem _ hp)), List.append_assoc]
theorem chg_len {A B : List Pr} (hA : Rises A) (hB : Rises B) : (chg A B).length ≤ A.length + B.length := by
  refine rise_ind (P := fun A B => (chg A B).length ≤ A.length + B.length) ?_ (fun a A B hA _ h i => ?_) (fun b A B _ hB h i => ?_) (fun a b A B e hA hB i => ?_) hA hB
  · rw [chg_nilA]; exact Nat.le_refl _
  · rw [chg_lowA h]; simp only [List.length_cons]; omega
  · rw [chg_lowB h]; simp only [List.length_cons]; omega
  · rw [chg_same e, List.length_append, List.length_cons, List.length_cons]
    have : (cKey a b).length ≤ 1 := by unfold cKey; split <;> simp
    omega
theorem perm_filter {α : Type} (g : α → Nat) (n : Nat) : ∀ L : List α, ((L.filter fun x => decide (g x < n)) ++ L.filter fun x => decide (g x = n)).Perm (L.filter fun x => decide (g x < n + 1))
  | [] => .refl _
  | a :: L => by
    have i := perm_filter g n L
    rw [List.filter_cons, List.filter_cons, List.filter_cons]
    by_cases h1 : g a < n
    · rw [if_pos (decide_eq_true h1), if_neg (by simp; omega), if_pos (by simp; omega)]
      exact i.cons a
    · by_cases h2 : g a = n
      · rw [if_neg (by simp; omega), if_pos (by simpa using h2), if_pos (by simp; omega)]
        exact List.perm_middle.trans (i.cons a)
      · rw [if_neg (by simp; omega), if_neg (by simpa using h2), if_neg (by simp; omega)]
        exact i
end Go.Proofs
namespace Go.Proofs
open Go Go.Lift
theorem chF_ne (x : Ch) : (chF x).length = 5 ∧ 0 < 5 := ⟨rfl, by omega⟩
abbrev seC (x : Hs) (s : SliceV) : Array Value := #[.int .u64 x.k0, .int .u64 x.k1, .int .u64 x.mask, sv s]
structure SetAt (C : Nat → Prop) (h : Heap) (sb : Nat) (x : Hs) (L : List Ch) : Prop where
  ex : ∃ s, h[sb]? = some (.cells (seC x s) t_diff_set (0, 0)) ∧ OwnS chF 5 t_diff_Change C h s L
  lt : ∀ b, C b → b < h.size
  ne : ¬ C sb
theorem SetAt.upd {C M : Nat → Prop} {h h' : Heap} {sb : Nat} {x : Hs} {L : List Ch} (st : SetAt C h sb x L) (k : Upd M h h') (hC : ∀ b, C b → ¬ M b) (hs : ¬ M sb) : SetAt C h' sb x L := by
  obtain ⟨s, h1, h2⟩ := st.ex
  exact ⟨⟨s, k.get h1 hs, h2.upd k hC⟩, fun b hb => Nat.lt_of_lt_of_le (st.lt b hb) k.size, st.ne⟩
theorem SetAt.upd0 {C : Nat → Prop} {h h' : Heap} {sb : Nat} {x : Hs} {L : List Ch} (st : SetAt C h sb x L) (k : Upd No h h') : SetAt C h' sb x L := st.upd k (fun _ _ h => h) fun h => h
abbrev Told (C : Nat → Prop) (h : Heap) (sb : Nat) (x : Hs) (L : List Ch) (G : Heap → Prop) : Prop := ∀ h' C', SetAt C' h' sb x L → (∀ b, C' b → C b ∨ h.size ≤ b) → Upd (fun b => C b ∨ b = sb) h h' → G h'
theorem setChg {C : Nat → Prop} {h : Heap} {sb : Nat} {x : Hs} {L : List Ch} {s : SliceV} {c : Ch} (st : SetAt C h sb x L) (hb : h[sb]? = some (.cells (seC x s) t_diff_set (0, 0))) (ho : OwnS chF 5 t_diff_Change C h s L) (hn : L.length + 1 ≤ 100000000) {G : Heap → Prop} (hk : Told C h sb x (L ++ [c]) G) :
    At (hnew h [.string c.1, .string c.2.1, .string c.2.2.1, .bool c.2.2.2.1, .bool c.2.2.2.2] t_diff_Change) (fun h1 => hcell h1 (adr ⟨sb, 0, none⟩ 3) = some (.slice s.a s.len s.cap) ∧ ∃ xs, SRow h1 (some (newA h)) (1 * 5) xs ∧
      AppP (some [.string (⟨#[]⟩ : ByteArray), .string (⟨#[]⟩ : ByteArray), .string (⟨#[]⟩ : ByteArray), .bool false, .bool false]) 5 56 t_diff_Change s.a s.len s.cap 1 xs h1 (fun s2 h2 => ∃ a : Addr, some (⟨sb, 0, none⟩ : Addr) = some a ∧ (Wr h2 (adr a 3) ∧ At (hset h2 (adr a 3) (.slice s2.a s2.len s2.cap)) G))) := by
  refine at_new fun h1 b1 k1 => ⟨vc (k1.get0 hb) 3, ?_⟩
  have z1 := get_lt b1
  have s1 := k1.size
  have zb := get_lt hb
  have h1o : OwnS chF 5 t_diff_Change (fun _ => True) h1 ⟨some (newA h), 1, 1⟩ [c] := ⟨rfl, chF_ne, Nat.le_refl _, .inr ⟨h.size, [], rfl, trivial, b1, rfl⟩⟩
  refine ⟨_, (h1o.sl (W := No) fun _ _ _ h => h).srow, ?_⟩
  refine AppP.own (M := fun b => C b ∨ h1.size ≤ b) (ys := [c]) ((ho.upd k1 fun _ _ h => h).more fun _ h => .inl h) rfl rfl rfl rfl (by omega) (by simp only [List.length_singleton]; omega) (.inr (Nat.le_refl _)) fun s2 h2 ho2 hu2 => ?_
  have b2 := hu2.get (k1.get0 hb) fun h => h.elim st.ne fun h => by omega
  have s2z := hu2.size
  refine ⟨_, rfl, vset (c' := seC x s2) b2 (by simp) rfl fun h3 b3 hu3 => ?_⟩
  refine hk h3 (fun b => (C b ∨ h1.size ≤ b) ∧ b < h2.size) ⟨⟨s2, b3, (ho2.within).upd hu3 fun b hb e => ?_⟩, fun b hb => Nat.lt_of_lt_of_le hb.2 hu3.size, fun hb => ?_⟩ (fun b hb => hb.1.imp id fun h => by omega) ?_
  · have e : b = sb := e
    rw [e] at hb
    exact hb.1.elim st.ne fun h => by omega
  · exact hb.1.elim st.ne fun h => by omega
  · exact ((k1.wide.trans hu2 fun b hb => hb.elim (fun h => .inl (.inl h)) fun h => .inr (by omega)).trans hu3 fun b hb => .inl (.inr hb))
theorem subPr {W : Nat → Prop} {h : Heap} {s : SliceV} {p : Pr} {l : List Pr} (hs : Sl prF 2 W h s (p :: l)) (hc : s.len ≤ s.cap) : Sl prF 2 W h ⟨subAddr s.a 1 s.cap 2, s.len - 1, s.cap - 1⟩ l := by
  have hl := hs.len
  rw [List.length_cons] at hl
  have := Sl.sub hs (l := 1) (hi := s.len) (m := s.cap) (c := s.cap - 1) (by omega) (by rw [List.length_cons]; omega) hc
  rw [show ((p :: l).drop 1).take (s.len - 1) = l by rw [List.drop_succ_cons, List.drop_zero]; exact List.take_of_length_le (by omega)] at this
  exact this
theorem lists_ok {C : Nat → Prop} {h : Heap} {sb : Nat} {x : Hs} {L : List Ch} {s s' : SliceV} {A B : List Pr} (st : SetAt C h sb x L) (hs : Sl prF 2 (fun b => C b ∨ b = sb) h s A) (hs' : Sl prF 2 (fun b => C b ∨ b = sb) h s' B) (hc : s.len ≤ s.cap) (hc' : s'.len ≤ s'.cap)
    (hn : L.length + A.length + B.length ≤ 100000000) {K : Unit → Heap → Prop} (hk : Told C h sb x (L ++ chg A B) (K ())) : HC PG f_diff_set_lists [.pointer (some ⟨sb, 0, none⟩), .slice s.a s.len s.cap, .slice s'.a s'.len s'.cap] [] K h := by
  refine H_diff_set_lists (some ⟨sb, 0, none⟩) s s' ?_
  unfold F_diff_set_lists cAt iBd
  have hss := hs.less (W' := fun b => C b ∨ b = sb ∨ h.size ≤ b) fun b hb => hb.elim (fun h => .inl (.inl h)) fun h => h.elim (fun h => .inl (.inr h)) .inr
  have hss' := hs'.less (W' := fun b => C b ∨ b = sb ∨ h.size ≤ b) fun b hb => hb.elim (fun h => .inl (.inl h)) fun h => h.elim (fun h => .inl (.inr h)) .inr
  refine LoopP.ghost (fun (g : List Pr × List Pr × List Ch × (Nat → Prop)) (t : SliceV × SliceV) h' => SetAt g.2.2.2 h' sb x g.2.2.1 ∧ (∀ b, g.2.2.2 b → C b ∨ h.size ≤ b) ∧ Upd (fun b => C b ∨ b = sb) h h' ∧ Sl prF 2 (fun b => C b ∨ b = sb ∨ h.size ≤ b) h' t.1 g.1 ∧ Sl prF 2 (fun b => C b ∨ b = sb ∨ h.size ≤ b) h' t.2 g.2.1 ∧ t.1.len ≤ t.1.cap ∧ t.2.len ≤ t.2.cap ∧ g.2.2.1 ++ chg g.1 g.2.1 = L ++ chg A B ∧ g.2.2.1.length + g.1.length + g.2.1.length ≤ L.length + A.length + B.length)
    (fun g => g.1.length + g.2.1.length) (A, B, L, C) ⟨st, fun _ h => .inl h, Upd.refl _ _, hss, hss', hc, hc', rfl, Nat.le_refl _⟩ ?_
  rintro I ⟨A1, B1, L1, C1⟩ ⟨t1, t2⟩ h1 ⟨st1, hC1, hu1, hs1, hs2, hc1, hc2, he, hln⟩ hI
  simp only at st1 hC1 hs1 hs2 hc1 hc2 he hln
  have l1 : t1.len = A1.length := hs1.len
  have l2 : t2.len = B1.length := hs2.len
  obtain ⟨sl, hb1, ho1⟩ := st1.ex
  -- one step on, whatever was told
  have go : ∀ (c : List Ch) (A2 B2 : List Pr) (u1 u2 : SliceV) (h2 : Heap) (C2 : Nat → Prop), SetAt C2 h2 sb x (L1 ++ c) → (∀ b, C2 b → C1 b ∨ h1.size ≤ b) → Upd (fun b => C1 b ∨ b = sb) h1 h2 → chg A1 B1 = c ++ chg A2 B2 → Sl prF 2 (fun b => C b ∨ b = sb ∨ h.size ≤ b) h1 u1 A2 → Sl prF 2 (fun b => C b ∨ b = sb ∨ h.size ≤ b) h1 u2 B2 → u1.len ≤ u1.cap → u2.len ≤ u2.cap → c.length + A2.length + B2.length ≤ A1.length + B1.length → A2.length + B2.length < A1.length + B1.length → I (u1, u2) h2 := by
    intro c A2 B2 u1 u2 h2 C2 st2 hC2 hu2 e v1 v2 w1 w2 hl hlt
    have hm : ∀ b, C1 b ∨ b = sb → (C b ∨ b = sb ∨ h.size ≤ b) ∨ h1.size ≤ b := fun b hb => .inl (hb.elim (fun h => (hC1 b h).imp id .inr) fun h => .inr (.inl h))
    refine hI (A2, B2, L1 ++ c, C2) (u1, u2) h2 ⟨st2, fun b hb => ?_, ?_, v1.upd hu2 hm, v2.upd hu2 hm, w1, w2, ?_, ?_⟩ hlt
    · rcases hC2 b hb with h | h
      · exact hC1 b h
      · exact .inr (Nat.le_trans hu1.size h)
    · exact hu1.trans hu2 fun b hb => hb.elim (fun h => (hC1 b h).imp .inl id) fun h => .inl (.inr h)
    · show (L1 ++ c) ++ chg A2 B2 = _
      rw [List.append_assoc, ← e, he]
    · show (L1 ++ c).length + A2.length + B2.length ≤ _
      rw [List.length_append]; omega
  refine Join.intro (fun t h' => h' = h1 ∧ (t = true ↔ A1 ≠ [] ∨ B1 ≠ [])) (fun R hR => ?_) ?_
  · refine condP_dec (fun hp => hR _ _ ⟨rfl, ?_⟩) fun hp => hR _ _ ⟨rfl, ?_⟩
    · have hp : (t1.len : Int) > 0 := hp
      simp only [true_iff]
      left; intro e; rw [e] at l1; simp only [List.length_nil] at l1; omega
    · have hp : ¬ (t1.len : Int) > 0 := hp
      have e1 : A1 = [] := List.length_eq_zero_iff.1 (by omega)
      show decide ((t2.len : Int) > 0) = true ↔ _
      rw [decide_eq_true_iff]
      constructor
      · intro h; right; intro e; rw [e] at l2; simp only [List.length_nil] at l2; omega
      · intro h
        rcases h with h | h
        · exact absurd e1 h
        · have := List.length_pos_iff.2 h; omega
  rintro t h2 ⟨rfl, ht⟩
  refine CondP.intro (fun e => ?_) fun e => ?_
  rotate_left
  · have hn : A1 = [] ∧ B1 = [] := by
      rw [e] at ht
      constructor
      · exact Decidable.byContradiction fun h => absurd (ht.2 (.inl h)) (by simp)
      · exact Decidable.byContradiction fun h => absurd (ht.2 (.inr h)) (by simp)
    obtain ⟨rfl, rfl⟩ := hn
    rw [chg_nilA, List.map_nil, List.append_nil] at he
    subst he
    exact hk h2 C1 st1 hC1 hu1
  have hne := ht.1 e
  clear ht e
  refine Join.intro (fun t h' => h' = h2 ∧ ((t = true ∧ ∃ a A', A1 = a :: A' ∧ chg A1 B1 = cOut a :: chg A' B1) ∨ (t = false ∧ ∃ b B', B1 = b :: B' ∧ (A1 = [] ∨ ∃ a A', A1 = a :: A' ∧ ¬ kl a.1 b.1)))) (fun R hR => ?_) ?_
  · rcases B1 with _ | ⟨b, B'⟩
    · rcases A1 with _ | ⟨a, A'⟩
      · exact absurd hne (by simp)
      rw [show (((t2.len : Nat) : Int) == 0) = true by rw [l2]; rfl]
      refine condP_true.2 (hR _ _ ⟨rfl, .inl ⟨rfl, a, A', rfl, ?_⟩⟩)
      rw [chg_nilB, chg_nilB]; rfl
    · rw [List.length_cons] at l2
      rw [show (((t2.len : Nat) : Int) == 0) = false by rw [beq_eq_false_iff_ne]; omega]
      refine condP_false.2 ?_
      rcases A1 with _ | ⟨a, A'⟩
      · rw [List.length_nil] at l1
        rw [decide_eq_false (show ¬ ((t1.len : Int) > 0) by omega)]
        exact condP_false.2 (hR _ _ ⟨rfl, .inr ⟨rfl, b, B', rfl, .inl rfl⟩⟩)
      · rw [List.length_cons] at l1
        rw [decide_eq_true (show ((t1.len : Int) > 0) by omega)]
        refine condP_true.2 ?_
        obtain ⟨a1, ha1, _, v1⟩ := hs1.at (i := 0) (x := a) rfl
        obtain ⟨a2, ha2, _, v2⟩ := hs2.at (i := 0) (x := b) rfl
        refine ⟨⟨by first | omega | (simp only; omega), by first | omega | (simp only; omega)⟩, a1, ha1, a.1, v1 0 _ rfl, ⟨by first | omega | (simp only; omega), by first | omega | (simp only; omega)⟩, a2, ha2, b.1, v2 0 _ rfl, hR _ _ ⟨rfl, ?_⟩⟩
        by_cases hlt : kl a.1 b.1
        · exact .inl ⟨hlt, a, A', rfl, by rw [chg_cons, if_pos hlt]⟩
        · exact .inr ⟨by unfold kl at hlt; simpa using hlt, b, B', rfl, .inr ⟨a, A', rfl, hlt⟩⟩
  rintro t h3 ⟨rfl, ⟨rfl, a, A', rfl, ec⟩ | ⟨rfl, b, B', rfl, hA⟩⟩
  · refine condP_true.2 (Join.plain ?_)
    rw [List.length_cons] at l1
    obtain ⟨a1, ha1, _, v1⟩ := hs1.at (i := 0) (x := a) rfl
    refine ⟨_, rfl, sl, vc hb1 3, ⟨by first | omega | (simp only; omega), by first | omega | (simp only; omega)⟩, a1, ha1, a.1, v1 0 _ rfl, ⟨by first | omega | (simp only; omega), by first | omega | (simp only; omega)⟩, a1, ha1, a.2, v1 1 _ rfl, ?_⟩
    refine setChg (c := cOut a) st1 hb1 ho1 (by simp only [List.length_cons] at hln; omega) fun h4 C4 st4 hC4 hu4 => ?_
    refine ⟨⟨by first | omega | (simp only; omega), by first | omega | (simp only; omega)⟩, ?_⟩
    simp only [Bd]
    exact go [cOut a] A' B1 _ _ h4 C4 st4 hC4 hu4 ec (subPr hs1 hc1) hs2 (by show t1.len - 1 ≤ t1.cap - 1; omega) hc2 (by simp only [List.length_cons, List.length_nil]; omega) (by rw [List.length_cons]; omega)
  refine condP_false.2 ?_
  rw [List.length_cons] at l2
  obtain ⟨a2, ha2, _, v2⟩ := hs2.at (i := 0) (x := b) rfl
  refine Join.intro (fun t h' => h' = h3 ∧ ((t = true ∧ chg A1 (b :: B') = cIn b :: chg A1 B') ∨ (t = false ∧ ∃ a A', A1 = a :: A' ∧ chg A1 (b :: B') = cKey a b ++ chg A' B'))) (fun R hR => ?_) ?_
  · rcases hA with rfl | ⟨a, A', rfl, hna⟩
    · rw [show (((t1.len : Nat) : Int) == 0) = true by rw [l1]; rfl]
      refine condP_true.2 (hR _ _ ⟨rfl, .inl ⟨rfl, ?_⟩⟩)
      rw [chg_nilA, chg_nilA]; rfl
    · rw [List.length_cons] at l1
      rw [show (((t1.len : Nat) : Int) == 0) = false by rw [beq_eq_false_iff_ne]; omega]
      obtain ⟨a1, ha1, _, v1⟩ := hs1.at (i := 0) (x := a) rfl
      refine condP_false.2 ⟨⟨by first | omega | (simp only; omega), by first | omega | (simp only; omega)⟩, a2, ha2, b.1, v2 0 _ rfl, ⟨by first | omega | (simp only; omega), by first | omega | (simp only; omega)⟩, a1, ha1, a.1, v1 0 _ rfl, hR _ _ ⟨rfl, ?_⟩⟩
      by_cases hlt : kl b.1 a.1
      · exact .inl ⟨hlt, by rw [chg_cons, if_neg hna, if_pos hlt]⟩
      · refine .inr ⟨by unfold kl at hlt; simpa using hlt, a, A', rfl, ?_⟩
        rw [chg_cons, if_neg hna, if_neg hlt]
        unfold cKey
        split <;> rfl
  rintro t h4 ⟨rfl, ⟨rfl, ec⟩ | ⟨rfl, a, A', rfl, ec⟩⟩
  · refine condP_true.2 (Join.plain ?_)
    refine ⟨_, rfl, sl, vc hb1 3, ⟨by first | omega | (simp only; omega), by first | omega | (simp only; omega)⟩, a2, ha2, b.1, v2 0 _ rfl, ⟨by first | omega | (simp only; omega), by first | omega | (simp only; omega)⟩, a2, ha2, b.2, v2 1 _ rfl, ?_⟩
    refine setChg (c := cIn b) st1 hb1 ho1 (by simp only [List.length_cons] at hln; omega) fun h5 C5 st5 hC5 hu5 => ?_
    refine ⟨⟨by first | omega | (simp only; omega), by first | omega | (simp only; omega)⟩, ?_⟩
    simp only [Bd]
    exact go [cIn b] A1 B' _ _ h5 C5 st5 hC5 hu5 ec hs1 (subPr hs2 hc2) hc1 (by show t2.len - 1 ≤ t2.cap - 1; omega) (by simp only [List.length_cons, List.length_nil]; omega) (by rw [List.length_cons]; omega)
  rw [List.length_cons] at l1
  obtain ⟨a1, ha1, _, v1⟩ := hs1.at (i := 0) (x := a) rfl
  have hcl : (cKey a b).length ≤ 1 := by unfold cKey; split <;> simp
  refine condP_false.2 (Join.intro (fun _ h5 => ∃ C5, SetAt C5 h5 sb x (L1 ++ cKey a b) ∧ (∀ b, C5 b → C1 b ∨ h4.size ≤ b) ∧ Upd (fun b => C1 b ∨ b = sb) h4 h5) (fun R hR => ?_) ?_)
  · refine ⟨⟨by first | omega | (simp only; omega), by first | omega | (simp only; omega)⟩, a1, ha1, a.2, v1 1 _ rfl, ⟨by first | omega | (simp only; omega), by first | omega | (simp only; omega)⟩, a2, ha2, b.2, v2 1 _ rfl, ?_⟩
    have eb : (a.2.toList == b.2.toList) = decide (a.2 = b.2) := beq_list
    rw [eb]
    by_cases e : a.2 = b.2
    · rw [decide_eq_true e]
      refine condP_false.2 (hR _ _ ⟨C1, ?_, fun _ h => .inl h, Upd.refl _ _⟩)
      unfold cKey
      rw [if_pos e, List.append_nil]; exact st1
    · rw [decide_eq_false e]
      refine condP_true.2 ⟨_, rfl, sl, vc hb1 3, ⟨by first | omega | (simp only; omega), by first | omega | (simp only; omega)⟩, a1, ha1, a.1, v1 0 _ rfl, ⟨by first | omega | (simp only; omega), by first | omega | (simp only; omega)⟩, a1, ha1, a.2, v1 1 _ rfl, ⟨by first | omega | (simp only; omega), by first | omega | (simp only; omega)⟩, a2, ha2, b.2, v2 1 _ rfl, ?_⟩
      refine setChg (c := (a.1, a.2, b.2, true, true)) st1 hb1 ho1 (by simp only [List.length_cons] at hln; omega) fun h5 C5 st5 hC5 hu5 => hR _ _ ⟨C5, ?_, hC5, hu5⟩
      unfold cKey
      rw [if_neg e]; exact st5
  · rintro _ h5 ⟨C5, st5, hC5, hu5⟩
    refine ⟨⟨by first | omega | (simp only; omega), by first | omega | (simp only; omega)⟩, ?_⟩
    simp only [Bd]
    refine ⟨⟨by first | omega | (simp only; omega), by first | omega | (simp only; omega)⟩, ?_⟩
    exact go (cKey a b) A' B' _ _ h5 C5 st5 hC5 hu5 ec (subPr hs1 hc1) (subPr hs2 hc2) (by show t1.len - 1 ≤ t1.cap - 1; omega) (by show t2.len - 1 ≤ t2.cap - 1; omega) (by rw [List.length_cons, List.length_cons]; omega) (by rw [List.length_cons, List.length_cons]; omega)
end Go.Proofs
namespace Go.Proofs
open Go Go.Lift
theorem tKind_ok {t : Tr} {h : Heap} {K : Int → Heap → Prop} (hk : ∀ h', Upd No h h' → K t.1 h') : HC PG f_tree_Tree_Kind [trV t] [.c (.int .i64)] K h := by
  refine H_tree_Tree_Kind t ?_
  unfold F_tree_Tree_Kind cAt
  exact at_new fun h1 b1 k1 => ⟨_, vc b1 0, hk h1 k1⟩
end Go.Proofs
namespace Go.Proofs
open Go Go.Lift
end Go.Proofs
namespace Go.Proofs
open Go Go.Lift
def hx (kind v : Int) : Int := if kind = 0 then v else 0
end Go.Proofs
namespace Go.Proofs
open Go Go.Lift
end Go.Proofs
namespace Go.Proofs
open Go Go.Lift
theorem Sl.det {α : Type} {f : α → List Value} {sz : Nat} {W W' : Nat → Prop} {h : Heap} {s : SliceV} {xs ys : List α} (hi : ∀ x y, f x = f y → x = y) (a : Sl f sz W h s xs) (b : Sl f sz W' h s ys) : xs = ys := by
  apply List.ext_getElem
  · rw [← a.len, ← b.len]
  · intro i h1 h2
    refine hi _ _ (List.ext_getElem? fun j => ?_)
    obtain ⟨p, hp, _, hv⟩ := a.at (List.getElem?_eq_getElem h1)
    obtain ⟨q, hq, _, hw⟩ := b.at (List.getElem?_eq_getElem h2)
    rw [hp] at hq; cases hq
    have l1 := (a.ne xs[i]).1
    have l2 := (b.ne ys[i]).1
    by_cases hj : j < sz
    · have e1 := hv j _ (List.getElem?_eq_getElem (by omega))
      have e2 := hw j _ (List.getElem?_eq_getElem (by omega))
      rw [e1] at e2
      rw [List.getElem?_eq_getElem (by omega), List.getElem?_eq_getElem (by omega)]
      exact e2
    · rw [List.getElem?_eq_none (by omega), List.getElem?_eq_none (by omega)]
theorem prF_inj (x y : Pr) (h : prF x = prF y) : x = y := by
  simp only [prF, List.cons.injEq, Value.string.injEq, and_true] at h
  exact Prod.ext h.1 h.2
theorem ndF_inj (x y : Option Addr) (h : ndF x = ndF y) : x = y := by
  simpa [ndF] using h
theorem rxF_inj (x y : Option Addr) (h : rxF x = rxF y) : x = y := by
  simpa [rxF] using h
theorem nodeC_inj {d d' n n' : Nat} {sp sk sp' sk' : SliceV} {bu bu' : Bool} {ow ow' : Option Addr} (h : nodeC d n sp sk bu ow = nodeC d' n' sp' sk' bu' ow') : d = d' ∧ n = n' ∧ sp = sp' ∧ sk = sk' := by
  simp only [nodeC, Array.mk.injEq, List.cons.injEq, Value.int.injEq, true_and, sv, Value.slice.injEq, Value.bool.injEq, Value.pointer.injEq, and_true] at h
  obtain ⟨h1, h2, ⟨h3, h4, h5⟩, ⟨h6, h7, h8⟩, _⟩ := h
  refine ⟨by omega, by omega, ?_, ?_⟩
  · cases sp; cases sp'; simp only at h3 h4 h5; subst h3 h4 h5; rfl
  · cases sk; cases sk'; simp only at h6 h7 h8; subst h6 h7 h8; rfl
theorem trie_det {W W' : Nat → Prop} {x : Hs} {h : Heap} : ∀ {m b : Nat} {l l' : List Pr}, TrieAt W x h m b l → TrieAt W' x h m b l' → Rises l → Rises l' → l = l'
  | 0, b, l, l', t, t', _, _ => by
    obtain ⟨sp, sk, ow, hb, hs, _⟩ := t.ex
    obtain ⟨sp', sk', ow', hb', hs', _⟩ := t'.ex
    rw [hb] at hb'
    simp only [Option.some.injEq, Obj.cells.injEq, and_true] at hb'
    obtain ⟨_, _, rfl, _⟩ := nodeC_inj hb'
    exact Sl.det prF_inj hs hs'
  | m + 1, b, l, l', ⟨s, nd, hc⟩, ⟨s', nd', hc'⟩, hr, hr' => by
    obtain ⟨d, n, sp, sk, ow, hb, bits, hs, hk, _⟩ := nd.ex
    obtain ⟨d', n', sp', sk', ow', hb', bits', hs', hk', _⟩ := nd'.ex
    rw [hb] at hb'
    simp only [Option.some.injEq, Obj.cells.injEq, and_true] at hb'
    obtain ⟨rfl, rfl, rfl, rfl⟩ := nodeC_inj hb'
    have e1 := fm_inj 32 (fun c hc => by rw [← bits.dp c hc, bits'.dp c hc]) (Sl.det prF_inj hs hs')
    have e2 := fm_inj 32 (fun c hc => by rw [← bits.nk c hc, bits'.nk c hc]) (Sl.det ndF_inj hk hk')
    refine part_ext (x := x) (lev := 12 - m) hr hr' fun c hlt => ?_
    have t1 := hc c hlt
    have t2 := hc' c hlt
    rw [← e1 c hlt, ← e2 c hlt] at t2
    rcases t1 with ⟨h1, h2, h3⟩ | ⟨p, h1, h2, h3⟩ | ⟨h1, h2, kb, h3, h4⟩ <;> rcases t2 with ⟨g1, g2, g3⟩ | ⟨q, g1, g2, g3⟩ | ⟨g1, g2, kb', g3, g4⟩ <;> simp_all
    exact trie_det h4 g4 (rises_part hr) (rises_part hr')
theorem rxC_inj {sl sl' v v' : ByteArray} {b b' : Bool} {s s' : SliceV} {ow ow' : Option Addr} (h : rxC sl b v s ow = rxC sl' b' v' s' ow') : sl = sl' ∧ b = b' ∧ v = v' ∧ s = s' := by
  simp only [rxC, Array.mk.injEq, List.cons.injEq, Value.string.injEq, sv, Value.slice.injEq, Value.bool.injEq, Value.pointer.injEq, and_true] at h
  obtain ⟨h1, h2, h3, ⟨h6, h7, h8⟩, _⟩ := h
  refine ⟨h1, h2, h3, ?_⟩
  cases s; cases s'; simp only at h6 h7 h8; subst h6 h7 h8; rfl
theorem opt_det {w w' : Option ByteArray} {v : ByteArray} (h : w.isSome = w'.isSome) (h1 : ∀ u, w = some u → v = u) (h2 : ∀ u, w' = some u → v = u) : w = w' := by
  cases w <;> cases w' <;> simp_all
theorem rx_det {W W' : Nat → Prop} {h : Heap} : ∀ {F F' : Fo} {ks : List (Option Addr)}, RxF W h F ks → RxF W' h F' ks → F = F'
  | .nil, .nil, _, _, _ => rfl
  | .nil, .cons .., ks, h1, h2 => by
    obtain ⟨b, sl, val, s, ow, ks1, ks', e0, _⟩ := h2
    have h1 : ks = [] := h1
    rw [h1] at e0; cases e0
  | .cons .., .nil, ks, h1, h2 => by
    obtain ⟨b, sl, val, s, ow, ks1, ks', e0, _⟩ := h1
    have h2 : ks = [] := h2
    rw [h2] at e0; cases e0
  | .cons lab w kids rest, .cons lab' w' kids' rest', ks, ⟨b, sl, val, s, ow, ks1, ks', e0, e1, e2, e3, e4, e5, e6, e7⟩, ⟨b', sl', val', s', ow', ks1', ks'', f0, f1, f2, f3, f4, f5, f6, f7⟩ => by
    rw [e0] at f0
    simp only [List.cons.injEq, Option.some.injEq, Addr.mk.injEq, and_true] at f0
    obtain ⟨rfl, rfl⟩ := f0
    rw [e2] at f2
    simp only [Option.some.injEq, Obj.cells.injEq, and_true] at f2
    obtain ⟨rfl, g2, rfl, rfl⟩ := rxC_inj f2
    have := Sl.det rxF_inj e4 f4
    subst this
    rw [rx_det e6 f6, rx_det e7 f7, ← e1, ← f1, opt_det g2 e3 f3]
end Go.Proofs
namespace Go.Proofs
open Go Go.Lift
theorem plainB {h : Heap} {b : Nat} {c : Array Value} {t : TypeId} (hb : h[b]? = some (.cells c t (0, 0))) (hc : 0 < c.size) : plainPtr h ⟨b, 0, none⟩ := ⟨c, t, hb, hc⟩
theorem TrieAt.plain {W : Nat → Prop} {x : Hs} {h : Heap} : ∀ {m b : Nat} {l : List Pr}, TrieAt W x h m b l → plainPtr h ⟨b, 0, none⟩
  | 0, _, _, t => by obtain ⟨_, _, _, hb, _⟩ := BuckAt.ex t; exact plainB hb (by simp [nodeC])
  | m + 1, _, _, ⟨s, nd, _⟩ => by obtain ⟨_, _, _, _, _, hb, _⟩ := nd.ex; exact plainB hb (by simp [nodeC])
theorem slot_ok {W Wx : Nat → Prop} {x : Hs} {h : Heap} {m b : Nat} {s : Slots} {c : Nat} {l : List Pr} (nd : NodeAt W h b s) (hc : c < 32) (sl : SlotIs W x h m s c l) (hm : m ≤ 13) (hr : Rises l) (hn : l.length ≤ 100000) (hWx : ∀ y, Wx y → y < h.size) {K : SliceV → Heap → Prop}
    (hk : ∀ s' h', Sl prF 2 Wx h' s' l → s'.len ≤ s'.cap → Upd No h h' → K s' h') : HC PG f_diff_slot [.pointer (some ⟨b, 0, none⟩), .int .i64 c] [.c .slice] K h := by
  refine H_diff_slot _ c ?_
  unfold F_diff_slot cAt
  refine nPair_ok nd hc fun h1 k1 => ?_
  refine newPr fun h2 b2 k2 => ?_
  have k12 := k1.tr k2
  have hkid : s.p c = none → Below W x h m ((s.k c).getD none) l := fun hp => by
    rcases sl with ⟨rfl, _, e⟩ | ⟨p, _, e, _⟩ | ⟨_, _, kb, e, t⟩
    · rw [e]; exact .inl ⟨rfl, rfl⟩
    · rw [hp] at e; cases e
    · rw [e]; exact .inr ⟨kb, rfl, t⟩
  rcases hp : s.p c with _ | p
  · refine condP_false.2 (nKid_ok (nd.upd k12 fun _ h => h.elim) hc ?_)
    exact walkSorted_ok (W' := Wx) ((hkid hp).upd0 k12) hm hr hn (fun y hy => Nat.lt_of_lt_of_le (hWx y hy) k12.size) fun s3 h3 hs3 hc3 k3 => hk s3 h3 hs3 hc3 (k12.tr k3)
  · have el : l = [p] := by
      rcases sl with ⟨_, e, _⟩ | ⟨q, e, e', _⟩ | ⟨_, e, _⟩
      · rw [hp] at e; cases e
      · rw [hp] at e'; cases e'; exact e
      · rw [hp] at e; cases e
    subst el
    rw [hp] at b2
    refine condP_true.2 ⟨p.1, vc b2 0, p.2, vc b2 1, at_new fun h3 b3 k3 => ?_⟩
    have ho : OwnS prF 2 t_pair_Pair (fun y => h.size ≤ y) h3 ⟨some (newA h2), 1, 1⟩ [p] := ⟨rfl, prF_ne, Nat.le_refl _, .inr ⟨h2.size, [], rfl, k12.size, b3, rfl⟩⟩
    exact hk _ h3 (ho.sl fun y hy _ hw => by have := hWx y hw; omega) (Nat.le_refl _) (k12.tr k3)
theorem tries_ok {W : Nat → Prop} {x z : Hs} {sb : Nat} : ∀ (m : Nat), m ≤ 13 → ∀ {b b' : Nat} {l l' : List Pr} {C : Nat → Prop} {h : Heap} {L : List Ch}, TrieAt W x h m b l → TrieAt W x h m b' l' → SetAt C h sb z L → (∀ y, C y ∨ y = sb → W y) → (∀ y, h.size ≤ y → W y) → Rises l → Rises l' → l.length ≤ 100000 → l'.length ≤ 100000 → L.length + (m + 1) * 200000 ≤ 10000000 →
    ∀ {K : Unit → Heap → Prop}, (∀ ys, ys.Perm (chg l l') → Told C h sb z (L ++ ys) (K ())) → HC PG f_diff_set_tries [.pointer (some ⟨sb, 0, none⟩), .pointer (some ⟨b, 0, none⟩), .pointer (some ⟨b', 0, none⟩)] [] K h := by
  intro m
  induction m with
  | zero =>
    intro hm b b' l l' C h L t t' st hCW hWn hr hr' hn hn' hL K hk
    refine H_diff_set_tries _ _ _ ?_
    unfold F_diff_set_tries
    refine ⟨trivial, fun a a' e e' => by cases e; cases e'; exact ⟨t.plain, t'.plain⟩, CondP.intro (fun e => ?_) fun e => ?_⟩
    · obtain rfl : b = b' := by simpa using e
      obtain rfl := trie_det t t' hr hr'
      refine hk [] (by rw [chg_self]) h C (by rw [List.append_nil]; exact st) (fun _ h => .inl h) (Upd.refl _ _)
    · obtain ⟨sp, sk, ow, hb, hsp, _⟩ := BuckAt.ex t
      obtain ⟨sp', sk', ow', hb', hsp', _⟩ := BuckAt.ex t'
      refine isBucket_ok hb (condP_true.2 ?_)
      refine pairs_ok hb hsp (by omega) fun s1 h1 ho1 k1 => ?_
      refine pairs_ok (k1.get0 hb') (hsp'.upd k1 fun _ h => h.elim) (by omega) fun s2 h2 ho2 k2 => ?_
      have s1z := k1.size
      obtain ⟨_, hsb, _⟩ := st.ex
      have zsb := get_lt hsb
      have ho1' := ho1.upd k2 fun _ _ h => h
      refine lists_ok (st.upd0 (k1.tr k2)) (ho1'.sl fun y hy _ hw => ?_) (ho2.sl fun y hy _ hw => ?_) ho1.cap ho2.cap (by omega) fun h3 C3 st3 hC3 hu3 => ?_
      · rcases hw with h | h
        · have := st.lt y h; omega
        · omega
      · rcases hw with h | h
        · have := st.lt y h; omega
        · omega
      · have s2z := k2.size
        exact hk (chg l l') (.refl _) h3 C3 st3 (fun y hy => (hC3 y hy).imp id fun h => by omega) ((k1.tr k2).wide.tr hu3)
  | succ m ih =>
    intro hm b b' l l' C h L t t' st hCW hWn hr hr' hn hn' hL K hk
    refine H_diff_set_tries _ _ _ ?_
    unfold F_diff_set_tries
    refine ⟨trivial, fun a a' e e' => by cases e; cases e'; exact ⟨t.plain, t'.plain⟩, CondP.intro (fun e => ?_) fun e => ?_⟩
    · obtain rfl : b = b' := by simpa using e
      obtain rfl := trie_det t t' hr hr'
      exact hk [] (by rw [chg_self]) h C (by rw [List.append_nil]; exact st) (fun _ h => .inl h) (Upd.refl _ _)
    have hcl := chg_len hr hr'
    obtain ⟨s, nd, hs⟩ := t
    obtain ⟨s', nd', hs'⟩ := t'
    have hs : ∀ c, c < 32 → SlotIs W x h m s c (part x (12 - m) c l) := hs
    have hs' : ∀ c, c < 32 → SlotIs W x h m s' c (part x (12 - m) c l') := hs'
    obtain ⟨d, n, sp, sk, ow, hb, _⟩ := nd.ex
    refine isBucket_ok hb (condP_false.2 ?_)
    refine LoopP.ghost (fun (g : Nat × List Ch × (Nat → Prop)) (t : Int) h' => t = (g.1 : Int) ∧ g.1 ≤ 32 ∧ SetAt g.2.2 h' sb z (L ++ g.2.1) ∧ (∀ y, g.2.2 y → C y ∨ h.size ≤ y) ∧ Upd (fun y => C y ∨ y = sb) h h' ∧ g.2.1.Perm ((chg l l').filter fun c => decide (ck x (12 - m) c.1 < g.1))) (fun g => 32 - g.1) (0, [], C)
      ⟨rfl, by omega, by rw [List.append_nil]; exact st, fun _ h => .inl h, Upd.refl _ _, by simp⟩ ?_
    rintro I ⟨i, ys, C1⟩ t h1 ⟨rfl, hi, st1, hC1, hu1, hp⟩ hI
    simp only at hi st1 hC1 hp
    have hCW1 : ∀ y, C1 y ∨ y = sb → W y := fun y hy => hy.elim (fun h => (hC1 y h).elim (fun h => hCW y (.inl h)) (hWn y)) fun h => hCW y (.inr h)
    have hm1 : ∀ y, C y ∨ y = sb → W y ∨ h.size ≤ y := fun y hy => .inl (hCW y hy)
    refine condP_dec (fun hlt => ?_) fun hge => ?_
    rotate_left
    · have hi32 : i = 32 := by omega
      subst hi32
      refine hk ys (hp.trans ?_) h1 C1 st1 hC1 hu1
      rw [List.filter_eq_self.2 fun c _ => decide_eq_true (ck_lt x (12 - m) c.1)]
    have hlt : i < 32 := by omega
    -- the part of this chunk
    have hpart : (chg l l').filter (fun c => decide (ck x (12 - m) c.1 = i)) = chg (part x (12 - m) i l) (part x (12 - m) i l') := (chg_filter (fun k => decide (ck x (12 - m) k = i)) hr hr').symm
    have hyl : ys.length ≤ 200000 := by
      have := hp.length_eq
      have := List.length_filter_le (fun c : Ch => decide (ck x (12 - m) c.1 < i)) (chg l l')
      omega
    have hpl := part_len (x := x) (lev := 12 - m) (c := i) (l := l)
    have hpl' := part_len (x := x) (lev := 12 - m) (c := i) (l := l')
    have step : ∀ zs : List Ch, zs.Perm (chg (part x (12 - m) i l) (part x (12 - m) i l')) → ∀ h2 C2, SetAt C2 h2 sb z ((L ++ ys) ++ zs) → (∀ y, C2 y → C1 y ∨ h1.size ≤ y) → Upd (fun y => C1 y ∨ y = sb) h1 h2 → I (IntKind.wrap .i64 ((i : Int) + 1)) h2 := by
      intro zs hz h2 C2 st2 hC2 hu2
      rw [wrap_succB hlt (by omega)]
      refine hI (i + 1, ys ++ zs, C2) _ h2 ⟨rfl, hlt, by rw [← List.append_assoc]; exact st2, fun y hy => ?_, ?_, ?_⟩ (by show 32 - (i + 1) < 32 - i; omega)
      · rcases hC2 y hy with h | h
        · exact hC1 y h
        · exact .inr (Nat.le_trans hu1.size h)
      · exact hu1.trans hu2 fun y hy => hy.elim (fun h => (hC1 y h).imp .inl id) fun h => .inl (.inr h)
      · rw [← hpart] at hz
        exact (hp.append hz).trans (perm_filter (fun c : Ch => ck x (12 - m) c.1) i (chg l l'))
    have nd1 := nd.upd hu1 hm1
    have nd1' := nd'.upd hu1 hm1
    have up : ∀ {s : Slots} {l : List Pr}, SlotIs W x h m s i l → SlotIs W x h1 m s i l := fun o => o.imp id fun o => o.imp id fun ⟨h1, h2, kb, h3, h4⟩ => ⟨h1, h2, kb, h3, TrieAt.updM hu1 hm1 h4⟩
    have sl := up (hs i hlt)
    have sl' := up (hs' i hlt)
    have hWn1 : ∀ y, h1.size ≤ y → W y := fun y hy => hWn y (Nat.le_trans hu1.size hy)
    refine Join.plain (nKid_ok nd1 hlt (nKid_ok nd1' hlt ?_))
    refine Join.intro (fun t h' => h' = h1 ∧ (t = true → (s.k i).isSome = true ∧ (s'.k i).isSome = true)) (fun R hR => ?_) ?_
    · refine CondP.intro (fun e => hR _ _ ⟨rfl, fun e' => ⟨e, e'⟩⟩) fun e => hR _ _ ⟨rfl, fun e => by cases e⟩
    rintro t h2 ⟨rfl, ht⟩
    refine CondP.intro (fun e => ?_) fun e => ?_
    · obtain ⟨e1, e2⟩ := ht e
      rcases sl with ⟨_, _, e3⟩ | ⟨p, _, _, e3⟩ | ⟨_, _, kb, e3, tk⟩
      · rw [e3] at e1; cases e1
      · rw [e3] at e1; cases e1
      rcases sl' with ⟨_, _, e4⟩ | ⟨p, _, _, e4⟩ | ⟨_, _, kb', e4, tk'⟩
      · rw [e4] at e2; cases e2
      · rw [e4] at e2; cases e2
      rw [e3, e4]
      refine ih (by omega) tk tk' st1 hCW1 hWn1 (rises_part hr) (rises_part hr') (by omega) (by omega) (by rw [List.length_append]; omega) fun zs hz h3 C3 st3 hC3 hu3 => ?_
      exact step zs hz h3 C3 st3 hC3 hu3
    · obtain ⟨_, hsb, _⟩ := st1.ex
      have zsb := get_lt hsb
      have hWx : ∀ y, C1 y ∨ y = sb → y < h2.size := fun y hy => hy.elim (st1.lt y) fun h => by omega
      refine slot_ok (Wx := fun y => C1 y ∨ y = sb) nd1 hlt sl (by omega) (rises_part hr) (by omega) hWx fun s3 h3 hs3 hc3 k3 => ?_
      refine slot_ok (Wx := fun y => C1 y ∨ y = sb) (nd1'.upd k3 fun _ h => h.elim) hlt (sl'.upd0 k3) (by omega) (rises_part hr') (by omega) (fun y hy => Nat.lt_of_lt_of_le (hWx y hy) k3.size) fun s4 h4 hs4 hc4 k4 => ?_
      refine lists_ok (st1.upd0 (k3.tr k4)) (hs3.upd k4 fun _ h => h.elim) hs4 hc3 hc4 (by rw [List.length_append]; omega) fun h5 C5 st5 hC5 hu5 => ?_
      have s34 := (k3.tr k4).size
      exact step _ (.refl _) h5 C5 st5 (fun y hy => (hC5 y hy).imp id fun h => by omega) ((k3.tr k4).wide.tr hu5)
end Go.Proofs
namespace Go.Proofs
open Go Go.Lift
def mkK (pre : List UInt8) : ByteArray := ⟨pre.toArray⟩
theorem mkK_list (pre : List UInt8) : (mkK pre).data.toList = pre := by unfold mkK; simp
theorem mkK_of (k : ByteArray) : mkK k.data.toList = k := by cases k; rfl
def fromU (pre : List UInt8) (p : List UInt8 × ByteArray) : Pr := (mkK (pre ++ p.1), p.2)
def pp (pre : List UInt8) (n : Bn) : List Pr := (prsR n.2.1 n.2.2).map (fromU (pre ++ n.1))
def ownP (key : List UInt8) (w : Option ByteArray) : List Pr := (w.map fun v => (mkK key, v)).toList
theorem kl_mk {x y : List UInt8} : kl (mkK x) (mkK y) ↔ x < y := by rw [kl_iff, ByteArray.toList_eq, ByteArray.toList_eq, mkK_list, mkK_list]
theorem fromU_app (a b : List UInt8) (p : List UInt8 × ByteArray) : fromU a (b ++ p.1, p.2) = fromU (a ++ b) p := by unfold fromU; rw [List.append_assoc]
theorem prsF_pp (pre : List UInt8) : ∀ F : Fo, (prsF F).map (fromU pre) = F.toL.flatMap (pp pre)
  | .nil => rfl
  | .cons lab w kids rest => by
    rw [prsF_cons, Fo.toL_cons, List.flatMap_cons, List.map_append, prsF_pp pre rest, List.map_map]
    congr 1
    unfold pp prsR
    exact List.map_congr_left fun p _ => fromU_app pre lab p
theorem pp_eq (pre lab : List UInt8) (w : Option ByteArray) (F : Fo) : pp pre (lab, w, F) = ownP (pre ++ lab) w ++ F.toL.flatMap (pp (pre ++ lab)) := by
  unfold pp
  rw [show prsR w F = (w.map fun v => (([] : List UInt8), v)).toList ++ prsF F from rfl, List.map_append, prsF_pp]
  congr 1
  cases w with
  | none => rfl
  | some v => show [fromU (pre ++ lab) ([], v)] = _; unfold fromU ownP; rw [List.append_nil]; rfl
theorem rises_pp {pre : List UInt8} {n : Bn} (hc : CanF n.2.2) : Rises (pp pre n) := by
  unfold pp
  rw [Rises, List.pairwise_map]
  exact (prsR_up (w := n.2.1) hc).imp fun {p q} h => kl_mk.2 (app_lt h)
structure NodeK (n : Bn) (pre : List UInt8) : Prop where
  can : CanF n.2.2
  len : pre.length + n.1.length ≤ 10000
  all : ∀ p ∈ prsR n.2.1 n.2.2, pre.length + n.1.length + p.1.length ≤ 10000
theorem NodeK.kid {n m : Bn} {pre : List UInt8} (k : NodeK n pre) (hm : m ∈ n.2.2.toL) : NodeK m (pre ++ n.1) := by
  have hcn := (canF_iff.1 k.can).2 _ hm
  have hall : ∀ p ∈ prsR m.2.1 m.2.2, (pre ++ n.1).length + m.1.length + p.1.length ≤ 10000 := fun p hp => by
    have hin : InF n.2.2 (m.1 ++ p.1) p.2 := inF_iff.2 ⟨_, hm, p.1, rfl, mem_prsR.1 (show (p.1, p.2) ∈ _ from hp)⟩
    have := k.all (m.1 ++ p.1, p.2) (mem_prsR.2 (.inr hin))
    simp only [List.length_append] at this ⊢
    omega
  obtain ⟨r, v, hr⟩ := inF_some k.can _ hm
  have := hall (r, v) (mem_prsR.2 hr)
  exact ⟨hcn.2.2, by simp only at this; omega, hall⟩
theorem pp_hd {pre : List UInt8} {m n : Bn} (hm : m.1 ≠ []) (hn : n.1 ≠ []) (h : hd m.1 < hd n.1) : ∀ p ∈ pp pre m, ∀ q ∈ pp pre n, kl p.1 q.1 := by
  intro p hp q hq
  unfold pp at hp hq
  obtain ⟨a, _, rfl⟩ := List.mem_map.1 hp
  obtain ⟨b, _, rfl⟩ := List.mem_map.1 hq
  refine kl_mk.2 ?_
  rw [List.append_assoc, List.append_assoc]
  refine app_lt (hd_lt_of (by simp [hn]) ?_)
  rw [hd_app hm, hd_app hn]; exact h
theorem pp_own {key : List UInt8} {w : Option ByteArray} {n : Bn} (hn : n.1 ≠ []) : ∀ p ∈ ownP key w, ∀ q ∈ pp key n, kl p.1 q.1 := by
  intro p hp q hq
  unfold ownP at hp
  rw [Option.mem_toList, Option.map_eq_some_iff] at hp
  obtain ⟨v, _, rfl⟩ := hp
  unfold pp at hq
  obtain ⟨b, _, rfl⟩ := List.mem_map.1 hq
  refine kl_mk.2 ?_
  rw [List.append_assoc]
  conv => lhs; rw [← List.append_nil key]
  refine app_lt ?_
  match n.1, hn with
  | c :: l, _ => exact List.Lex.nil
theorem flat_lenL {f : Bn → List Pr} (L : List Bn) (i : Nat) : ((L.take i).flatMap f).length ≤ (L.flatMap f).length := by
  conv => rhs; rw [← List.take_append_drop i L, List.flatMap_append, List.length_append]
  omega
theorem strE {a b : ByteArray} : a.data.toList ++ b.data.toList = (a ++ b).data.toList := by
  rw [ByteArray.data_append, Array.toList_append]
theorem RxL.updN {W M : Nat → Prop} {h h' : Heap} (k : Upd M h h') (hm : ∀ b, M b → W b ∨ h.size ≤ b) {ks : List (Option Addr)} {L : List Bn} (r : RxL W h ks L) : RxL W h' ks L :=
  ⟨r.1, fun p hp => let ⟨b, sl, e1, e2, e3⟩ := r.2 p hp; ⟨b, sl, e1, e2, e3.updM k hm⟩⟩
def SomeN (n : Bn) : Prop := ∀ {W : Nat → Prop} {h : Heap} {b : Nat} {sl : ByteArray} {ahead : ByteArray}, RxN W h b sl n.2.1 n.2.2 → sl.data.toList = n.1 → NodeK n ahead.data.toList → (pp ahead.data.toList n).length ≤ 1000000 → ∀ {K : SliceV → Heap → Prop}, (∀ s' h', OwnS prF 2 t_pair_Pair (fun y => h.size ≤ y) h' s' (pp ahead.data.toList n) → Upd No h h' → K s' h') → HC PG f_diff_some [.pointer (some ⟨b, 0, none⟩), .string ahead] [.c .slice] K h
theorem someN_of {lab : List UInt8} {w : Option ByteArray} {F : Fo} (ih : ∀ n ∈ F.toL, SomeN n) : SomeN (lab, w, F) := by
  intro W h b sl ahead r hlab nk hl K hk
  simp only at r hlab
  have r := r.less (W' := fun y => h.size ≤ y) fun _ h => .inr h
  refine H_diff_some (some ⟨b, 0, none⟩) ahead ?_
  unfold F_diff_some cAt iBd
  refine condP_false.2 (rxLabel_ok r ?_)
  have hkl := nk.len
  simp only at hkl
  have esz : ∀ k : ByteArray, k.size = k.data.toList.length := fun k => by rw [Array.length_toList]; rfl
  have e1 := esz ahead
  have e2 := esz sl
  rw [hlab] at e2
  refine ⟨by omega, ?_⟩
  have ekey : (ahead ++ sl).data.toList = ahead.data.toList ++ lab := by rw [← strE, hlab]
  have emk : mkK (ahead.data.toList ++ lab) = ahead ++ sl := by rw [← ekey, mkK_of]
  rw [pp_eq] at hl hk
  refine Join.intro (fun t h' => OwnS prF 2 t_pair_Pair (fun y => h.size ≤ y) h' t (ownP (ahead.data.toList ++ lab) w) ∧ Upd No h h') (fun R hR => ?_) ?_
  · refine rxValue_ok r fun v hv => ?_
    cases w with
    | none => exact condP_false.2 (hR _ _ ⟨OwnS.nil prF_ne, Upd.refl _ _⟩)
    | some u =>
      refine condP_true.2 ?_
      have := hv u rfl
      subst this
      refine at_intro ?_
      refine append1p (p := (ahead ++ sl, v)) (M := fun y => h.size ≤ y) (out := []) (so := ⟨none, 0, 0⟩) (OwnS.nil prF_ne) (fun _ h => h) (by simp) fun s1 h1 ho1 k1 => hR _ _ ⟨?_, k1.mono fun y hy => .inr hy⟩
      rw [show ownP (ahead.data.toList ++ lab) (some v) = [] ++ [(ahead ++ sl, v)] by unfold ownP; rw [emk]; rfl]
      exact ho1
  rintro t h1 ⟨ho1, k1⟩
  refine rxKids_ok (r.upd0 k1) (can_len nk.can) fun s2 h2 ks ho2 hL2 k2 => ?_
  have hs2 : Sl rxF 1 No h2 s2 ks := ho2.sl fun _ _ _ h => h
  have hlen := hs2.len
  rw [hL2.1] at hlen
  have h256 := can_len nk.can
  simp only at h256
  have z1 := k1.size
  have z2 := k2.size
  have hs2 : Sl rxF 1 (fun y => h.size ≤ y ∧ (y < h1.size ∨ h2.size ≤ y)) h2 s2 ks := ho2.sl fun y hy hl hw => by omega
  refine LoopP.ghost (fun (i : Nat) (t : SliceV × Int) h3 => OwnS prF 2 t_pair_Pair (fun y => h.size ≤ y ∧ (y < h1.size ∨ h2.size ≤ y)) h3 t.1 (ownP (ahead.data.toList ++ lab) w ++ (F.toL.take i).flatMap (pp (ahead.data.toList ++ lab))) ∧ t.2 = (i : Int) ∧ i ≤ F.toL.length ∧ Upd (fun y => h.size ≤ y ∧ (y < h1.size ∨ h2.size ≤ y)) h2 h3) (fun i => F.toL.length - i) 0 ⟨?_, rfl, Nat.zero_le _, Upd.refl _ _⟩ ?_
  · rw [List.take_zero, List.flatMap_nil, List.append_nil]
    exact (ho1.within.more fun y hy => ⟨hy.1, .inl hy.2⟩).upd k2 fun _ _ h => h
  rintro I i ⟨ta, ti⟩ h3 ⟨ho3, e3, hi, hu⟩ hI
  simp only at ho3 e3
  subst e3
  have hle : ((F.toL.take (i + 1)).flatMap (pp (ahead.data.toList ++ lab))).length ≤ (F.toL.flatMap (pp (ahead.data.toList ++ lab))).length := flat_lenL _ _
  rw [List.length_append] at hl
  refine condP_dec (fun hlt => ?_) fun hge => ?_
  · have hlt : i < F.toL.length := by have : (i : Int) < (s2.len : Int) := hlt; omega
    have hL3 := hL2.updN hu fun y hy => .inl hy.1
    obtain ⟨kb, ksl, hki, hkl, hkn⟩ := hL3.at hlt
    obtain ⟨a, ha, _, hv⟩ := (hs2.upd hu fun _ h => .inl h).at0 hki
    refine Join.plain ⟨⟨by simp only; omega, by simp only; omega⟩, a, ha, some ⟨kb, 0, none⟩, hv, ?_⟩
    have hst : (F.toL.take (i + 1)).flatMap (pp (ahead.data.toList ++ lab)) = (F.toL.take i).flatMap (pp (ahead.data.toList ++ lab)) ++ pp (ahead.data.toList ++ lab) F.toL[i] := by
      rw [List.take_succ_eq_append_getElem hlt, List.flatMap_append]; simp
    rw [hst, List.length_append] at hle
    have hmem := List.getElem_mem hlt
    generalize F.toL[i] = m at hkl hkn hst hle hmem
    refine ih m hmem hkn hkl (by rw [ekey]; exact nk.kid hmem) (by rw [ekey]; omega) fun s4 h4 ho4 hu4 => ?_
    rw [ekey] at ho4
    refine ⟨_, (ho4.sl (W := No) fun _ _ _ h => h).srow, ?_⟩
    have z3 := hu.size
    have z4 := hu4.size
    refine AppP.own (ys := pp (ahead.data.toList ++ lab) m) (ho3.upd hu4 fun _ _ h => h) ho4.len rfl (one_prF _) rfl (by omega) (by rw [List.length_append]; omega) ⟨by omega, .inr (by omega)⟩ fun s5 h5 ho5 hu5 => ?_
    rw [wrap_succ hlt (by omega)]
    refine hI (i + 1) _ _ ⟨?_, rfl, hlt, (hu.tr hu4.wide).tr hu5⟩ (by omega)
    rw [hst, ← List.append_assoc]; exact ho5
  · have hil : i = F.toL.length := by have : ¬ (i : Int) < (s2.len : Int) := hge; omega
    subst hil
    rw [List.take_length] at ho3
    exact hk _ h3 (ho3.more fun y hy => hy.1) ((k1.tr k2).trans hu fun y hy => .inr hy.1)
theorem someN_all : ∀ {F : Fo}, CanF F → ∀ n ∈ F.toL, SomeN n
  | .nil, _, n, hn => by simp [Fo.toL] at hn
  | .cons lab w kids rest, h, n, hn => by
    rcases List.mem_cons.1 hn with rfl | hn
    · exact someN_of (someN_all h.2.2.1)
    · exact someN_all h.2.2.2.2 n hn
theorem someD_ok {n : Bn} {W : Nat → Prop} {h : Heap} {b : Nat} {sl : ByteArray} {ahead : ByteArray} (r : RxN W h b sl n.2.1 n.2.2) (e : sl.data.toList = n.1) (nk : NodeK n ahead.data.toList) (hl : (pp ahead.data.toList n).length ≤ 1000000) {K : SliceV → Heap → Prop} (hk : ∀ s' h', OwnS prF 2 t_pair_Pair (fun y => h.size ≤ y) h' s' (pp ahead.data.toList n) → Upd No h h' → K s' h') : HC PG f_diff_some [.pointer (some ⟨b, 0, none⟩), .string ahead] [.c .slice] K h :=
  someN_of (someN_all nk.can) r e nk hl hk
theorem own_diff_ok {W : Nat → Prop} {h : Heap} {b : Nat} {sl key : ByteArray} {w : Option ByteArray} {F : Fo} (r : RxN W h b sl w F) {K : SliceV → Heap → Prop} (hk : ∀ s' h', OwnS prF 2 t_pair_Pair (fun y => h.size ≤ y) h' s' (ownP key.data.toList w) → Upd No h h' → K s' h') : HC PG f_diff_own [.pointer (some ⟨b, 0, none⟩), .string key] [.c .slice] K h := by
  refine H_diff_own _ key ?_
  unfold F_diff_own
  refine rxValue_ok r fun v hv => ?_
  cases w with
  | none => exact condP_true.2 (hk _ h (OwnS.nil prF_ne) (Upd.refl _ _))
  | some u =>
    have := hv u rfl
    subst this
    refine condP_false.2 (at_new fun h1 b1 k1 => ?_)
    refine hk _ h1 ⟨rfl, prF_ne, Nat.le_refl _, .inr ⟨h.size, [], rfl, Nat.le_refl _, ?_, rfl⟩⟩ k1
    rw [b1]
    unfold ownP
    rw [mkK_of]; rfl
end Go.Proofs
