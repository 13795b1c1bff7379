/- A part of the proof that the named laws of this program answer true, whatever the input. -/
import Derived.Test.YtfbbjmjfkopdnaaGreatLift2
import Derived.ProofKit
import Derived.SizedLaws
/-
  From a function's contract to the row that says 'whatever the input: true; the input reads as it did'.
-/
namespace Go.Lift
open Go Go.ChangeShapes Go.WideShapes Go.ChangeAt Go.RowKit
section
variable {H : Type} {enc : TypeId × Value → H} {P : Program} {w : World} {base : Nat} {sp : Nat → Bool} {held : Bool}
theorem trodAll_stays {P : Program} (hl : laidOutB P = true) {W W' : World} (hb : Below W.heap.size W W') : ∀ {ts : List TypeId} {vs : List Value} {ds : List (DataW H)} {ps : List MemPlace}, (∀ t ∈ ts, P.readableRec t = true ∧ t < P.types.size) →
    DataW.TrodAll enc P W 0 (fun _ => true) true ts vs ds ps → (∀ x ∈ ps, x.block < W.heap.size) → DataW.TrodAll enc P W' 0 (fun b => decide (b < W.heap.size)) true ts vs ds ps
  | [], [], [], _, _, h, _ => h
  | t :: ts, v :: vs, d :: ds, ps, hr, h, hlt => by
    obtain ⟨p, q, h1, h2, rfl⟩ := h
    exact ⟨p, q, Below.trod hl (hr t (List.mem_cons_self ..)).1 (hr t (List.mem_cons_self ..)).2 h1 hb fun x hx => hlt x (List.mem_append_left _ hx),
      trodAll_stays hl hb (fun t ht => hr t (List.mem_cons_of_mem _ ht)) h2 fun x hx => hlt x (List.mem_append_right _ hx), rfl⟩
  | [], _ :: _, _, _, _, h, _ => h.elim
  | [], [], _ :: _, _, _, h, _ => h.elim
  | _ :: _, [], _, _, _, h, _ => h.elim
  | _ :: _, _ :: _, [], _, _, h, _ => h.elim
theorem trodAll_len : ∀ {ts : List TypeId} {vs : List Value} {ds : List (DataW H)} {ps : List MemPlace}, DataW.TrodAll enc P w base sp held ts vs ds ps → ds.length = ts.length
  | [], [], [], _, _ => rfl
  | t :: ts, v :: vs, d :: ds, ps, h => by
    obtain ⟨p, q, h1, h2, rfl⟩ := h
    rw [List.length_cons, List.length_cons, trodAll_len h2]
  | [], _ :: _, _, _, h => h.elim
  | [], [], _ :: _, _, h => h.elim
  | _ :: _, [], _, _, h => h.elim
  | _ :: _, _ :: _, [], _, h => h.elim
theorem trod_cons {t : TypeId} {ts : List TypeId} {vs : List Value} {ds : List (DataW H)} {ps : List MemPlace} (h : DataW.TrodAll enc P w base sp held (t :: ts) vs ds ps) :
    ∃ v vs' d ds' p q, vs = v :: vs' ∧ ds = d :: ds' ∧ DataW.Trod enc P w base sp held t v d p ∧ DataW.TrodAll enc P w base sp held ts vs' ds' q := by
  cases vs with
  | nil => exact h.elim
  | cons v vs => cases ds with
    | nil => exact h.elim
    | cons d ds =>
      obtain ⟨p, q, h1, h2, _⟩ := h
      exact ⟨v, vs, d, ds, p, q, rfl, rfl, h1, h2⟩
theorem trod_nil {vs : List Value} {ds : List (DataW H)} {ps : List MemPlace} (h : DataW.TrodAll enc P w base sp held [] vs ds ps) : vs = [] := by
  cases vs with
  | nil => rfl
  | cons v vs => exact h.elim
theorem law_lifted {C : Checked} {os : Os} {f : FuncId} {fn : Func} {s : ChangeSpec} {ts : List TypeId} {tb : TypeId} (hts : fn.params.toList = ts) (hres : fn.resultTypes.toList = [tb]) (hbool : C.prog.underlying tb = some .bool) (hv : s.vars = [])
    (hspec : ∀ (ds : List (DataW H)), ds.length = ts.length → (s.fn H ds).results = [.lit (.bool true)] ∧ (s.fn H ds).args = ds ∧ (s.fn H ds).vars = [])
    (own : ownKnob C.prog.godebug = none) (laid : laidOutB C.prog = true) (hread : ∀ t ∈ ts, C.prog.readableRec t = true ∧ t < C.prog.types.size) (started : os.Started) (noInit : C.prog.inits.idxOf? f = none) (hfn : C.prog.funcs[f]? = some fn)
    (witness : ∃ (w : World) (tape : Tape) (i : Input), w.os = os ∧ (w.forCall tape i).Shaped C.prog ∧ i.vars = [] ∧ Input.okWide C.prog (w.forCall tape i) .any w.heap.size f i ∧
      s.pre6 enc C.prog fn [] false (w.forCall tape i).memory i.args ∧ ({} : Assume).holds C.prog (lone (Frame.enter C.prog f i.args .normal) [] (w.forCall tape i)))
    (hcall : ∀ (args : Array Value) (w : World), (callFunc f args).run C.prog w = .ok (.enter f args) w)
    (hc : ∀ (W : World) (b0 : Nat) (args : List Value) (ds : List (DataW H)) (p : List MemPlace), (∀ (j : Nat) t v, ts[j]? = some t → args[j]? = some v → Value.okWide C.prog W .any b0 t v) → DataW.TrodAll enc C.prog W 0 (fun _ => true) true ts args ds p →
      HC C.prog f args [.c .bool] (fun b h' => b = true ∧ Upd No W.heap h') W.heap) :
    ReturnsInHanded {} C os f .any (s.pre6 enc C.prog fn [] false) (s.post enc C.prog fn false true false false) := by
  refine returnsInHanded_of_change own started noInit hfn witness ?_
  intro W b0 args ds gs before hval hW _ _
  have hW' := hW
  obtain ⟨p, q, hA, hV, rfl, hfz, hnd⟩ := hW
  rw [hts] at hA
  rw [hv] at hV
  obtain ⟨rfl, rfl⟩ := trodVars_none hV
  have hlen : ds.length = ts.length := trodAll_len hA
  have hlt : ∀ x ∈ p, x.block < W.heap.size := fun x hx => hW'.lt x (List.mem_append_left _ hx)
  obtain ⟨hr, ha, hvv⟩ := hspec ds hlen
  have hh := hc W b0 args.toList ds p (fun j t v ht hv' => hval j t v (by rw [← Array.getElem?_toList, hts]; exact ht) (by rw [← Array.getElem?_toList]; exact hv')) hA
  rcases hh.run W rfl with ⟨_, h2⟩ | ⟨v, w', h1, _⟩
  · have e : args.toList.toArray = args := by simp
    rw [e] at h2
    refine h2.mono ?_
    rintro e w' ⟨ht, t, rfl, hb, hu⟩
    have hbool' : t = true := hb
    subst hbool'
    refine ⟨.bool true, rfl, ds, [], p ++ [], [], p, [], hW', ?_, ?_, ?_, ?_, fun h => by cases h⟩
    · rw [hres, List.append_nil, hr]
      have : fn.resultTypes.size = 1 := by have := congrArg List.length hres; simpa using this
      rw [this]
      refine ⟨[], [], ⟨1, ?_⟩, rfl, rfl⟩
      simp [DataW.trod, hbool, Value.cells]
    · rw [hts, List.append_nil, ha]
      exact trodAll_stays laid ⟨ht.os, ht.tape, ht.output, hu.size, fun k hk => hu.same k hk id⟩ hread hA hlt
    · rw [hv, List.append_nil, hvv]; rfl
    · exact Below.frame ⟨ht.os, ht.tape, ht.output, hu.size, fun k hk => hu.same k hk id⟩ _
  · rw [hcall] at h1; cases h1
end
end Go.Lift
