/- A part of the proof that the named laws of this program answer true, whatever the input. -/
import Derived.OrdersIn
import Derived.Below
import Derived.WalkKit
import Derived.RangeFuncRecord
/-
  Predicates on heaps for the translated Go code: what each operation, each piece of code asks of the heap, said with typed values. No program is named here.
-/
namespace Go.Lift
abbrev Heap := Array Obj
def hcell (h : Heap) (a : Addr) : Option Value :=
  match h[a.block]? with
  | some (.cells c _ _) => if a.spot.isSome then none else c[a.off]?
  | _ => none
def hfrozen (h : Heap) (a : Addr) : Bool :=
  match h[a.block]? with
  | some (.cells _ _ (lo, hi)) => lo ≤ a.off && a.off < hi
  | _ => false
def hset (h : Heap) (a : Addr) (v : Value) : Heap :=
  h.modify a.block fun
    | .cells c elem frozen => .cells (if a.spot.isSome then c else c.setIfInBounds a.off v) elem frozen
    | o => o
noncomputable def adr (a : Addr) (n : Nat) : Addr := Nat.rec (motive := fun _ => Addr) a (fun n _ => ⟨a.block, a.off + Nat.succ n, none⟩) n
def Wr (h : Heap) (a : Addr) : Prop := (∃ v, hcell h a = some v) ∧ hfrozen h a = false
structure Tame (w w' : World) : Prop where
  os : w'.os = w.os
  tape : w'.tape = w.tape
  output : w'.output = w.output
structure SliceV where
  a : Option Addr
  len : Nat
  cap : Nat
def ikEq : IntKind → IntKind → Bool
  | .i8, .i8 => true | .i16, .i16 => true | .i32, .i32 => true | .i64, .i64 => true
  | .u8, .u8 => true | .u16, .u16 => true | .u32, .u32 => true | .u64, .u64 => true
  | _, _ => false
inductive CK where
  | int (k : IntKind) | bool | str | ptr | slice | map | chan | raw
def CK.den : CK → Type
  | .int _ => Int | .bool => Bool | .str => ByteArray | .ptr => Option Addr | .slice => SliceV | .map => Option Nat | .chan => Option Nat | .raw => Value
def CK.enc : (c : CK) → c.den → Value
  | .int k, n => .int k n
  | .bool, b => .bool b
  | .str, s => .string s
  | .ptr, p => .pointer p
  | .slice, s => .slice s.a s.len s.cap
  | .map, r => .map r
  | .chan, r => .chan r
  | .raw, v => v
def CK.dec : (c : CK) → Value → (c.den → Prop) → Prop
  | .int k, .int k' n, f => bif ikEq k' k then f n else False
  | .bool, .bool b, f => f b
  | .str, .string s, f => f s
  | .ptr, .pointer p, f => f p
  | .slice, .slice a l c, f => f ⟨a, l, c⟩
  | .map, .map r, f => f r
  | .chan, .chan r, f => f r
  | .raw, v, f => f v
  | _, _, _ => False
def CTup : List CK → Type
  | [] => Unit
  | [c] => c.den
  | c :: d :: cs => c.den × CTup (d :: cs)
def cEncs : (cs : List CK) → CTup cs → List Value
  | [], _ => []
  | [c], x => [c.enc x]
  | c :: d :: cs, (x, t) => c.enc x :: cEncs (d :: cs) t
def cDecs : (cs : List CK) → List Value → (CTup cs → Prop) → Prop
  | [], [], f => f ()
  | [c], [v], f => c.dec v f
  | c :: d :: cs, v :: u :: vs, f => c.dec v fun x => cDecs (d :: cs) (u :: vs) fun t => f (x, t)
  | _, _, _ => False
inductive Kind where
  | c (k : CK)
  | agg (cs : List CK)
def Kind.den : Kind → Type
  | .c k => k.den
  | .agg cs => CTup cs
def Kind.enc : (k : Kind) → k.den → Value
  | .c k, x => k.enc x
  | .agg cs, t => .agg (cEncs cs t).toArray
def Kind.dec : (k : Kind) → Value → (k.den → Prop) → Prop
  | .c k, v, f => k.dec v f
  | .agg cs, .agg vs, f => cDecs cs vs.toList f
  | _, _, _ => False
def Tup : List Kind → Type
  | [] => Unit
  | [k] => k.den
  | k :: l :: ks => k.den × Tup (l :: ks)
def encs : (ks : List Kind) → Tup ks → List Value
  | [], _ => []
  | [k], x => [k.enc x]
  | k :: l :: ks, (x, t) => k.enc x :: encs (l :: ks) t
def decs : (ks : List Kind) → List Value → (Tup ks → Prop) → Prop
  | [], [], f => f ()
  | [k], [v], f => k.dec v f
  | k :: l :: ks, v :: u :: vs, f => k.dec v fun x => decs (l :: ks) (u :: vs) fun t => f (x, t)
  | _, _, _ => False
def retV (ks : List Kind) (vs : List Value) : Value :=
  match ks, vs with
  | [_], [v] => v
  | _, vs => .tuple vs.toArray
def ckOf : Value → Option CK
  | .int k _ => some (.int k)
  | .bool _ => some .bool
  | .string _ => some .str
  | .pointer _ => some .ptr
  | .slice .. => some .slice
  | .map _ => some .map
  | .chan _ => some .chan
  | .nilFunc => some .raw
  | .nilIface => some .raw
  | _ => none
def cksOf : List Value → Option (List CK)
  | [] => some []
  | v :: vs => match ckOf v, cksOf vs with
    | some c, some cs => some (c :: cs)
    | _, _ => none
def aggT (P : Program) (t : TypeId) : Bool :=
  match P.underlying t with
  | some (.struct _) | some (.array _ _) => true
  | _ => false
def sizeT (P : Program) (t : TypeId) : Nat := match P.info? t with | some i => i.size | none => 0
def bytesT (P : Program) (t : TypeId) : Nat := match P.info? t with | some i => i.bytes | none => 0
def zeroT (P : Program) (t : TypeId) : Option Value := match P.info? t with | some i => i.zero | none => none
def kindZ (P : Program) (t : TypeId) : Option Kind :=
  match zeroT P t with
  | some (.agg vs) => bif aggT P t && Nat.beq vs.toList.length (sizeT P t) then (match cksOf vs.toList with | some cs => some (.agg cs) | none => none) else none
  | some v => bif aggT P t then none else (match ckOf v with | some c => some (.c c) | none => none)
  | none => none
def kindT (P : Program) (t : TypeId) : Option Kind :=
  match P.underlying t with
  | none => none
  | some _ => kindZ P t
structure HC (P : Program) (f : FuncId) (args : List Value) (ks : List Kind) (K : Tup ks → Heap → Prop) (h : Heap) : Prop where
  run : ∀ w : World, w.heap = h →
    ((callFunc f args.toArray).run P w = .ok (.enter f args.toArray) w ∧
      Calls P f args.toArray w fun e w' => Tame w w' ∧ ∃ t : Tup ks, e = .returned (retV ks (encs ks t)) ∧ K t w'.heap) ∨
    (∃ v w', (callFunc f args.toArray).run P w = .ok (.value v) w' ∧ Tame w w' ∧ ∃ t : Tup ks, v = retV ks (encs ks t) ∧ K t w'.heap)
structure HE (P : Program) (f : FuncId) (args : List Value) (ks : List Kind) (K : Tup ks → Heap → Prop) (h : Heap) : Prop where
  run : ∀ w : World, w.heap = h → (∀ (args : Array Value) (w : World), (callFunc f args).run P w = .ok (.enter f args) w) ∧
      Calls P f args.toArray w fun e w' => Tame w w' ∧ ∃ t : Tup ks, e = .returned (retV ks (encs ks t)) ∧ K t w'.heap
theorem HE.hc {P : Program} {f : FuncId} {args : List Value} {ks : List Kind} {K : Tup ks → Heap → Prop} {h : Heap} (e : HE P f args ks K h) : HC P f args ks K h :=
  ⟨fun w hw => .inl ⟨(e.run w hw).1 _ w, (e.run w hw).2⟩⟩
structure HY (P : Program) (l : Nat) (args : List Value) (K : Bool → Heap → Prop) (h : Heap) : Prop where
  run : ∀ w : World, w.heap = h → ∃ fn tmps assign body, (Instr.yield l args.toArray).run P w = .ok (.round l fn tmps assign body) w ∧
    ∀ (c : Frame) (cs : List Frame), ∃ b w', Tame w w' ∧ K b w'.heap ∧ Steps P (lone (Frame.round l fn tmps assign body .normal) (c :: cs) w) (lone (c.finish (.bool b)) cs w')
structure HV (P : Program) (fv : Value) (args : List Value) (ks : List Kind) (K : Tup ks → Heap → Prop) (h : Heap) : Prop where
  run : (∃ f first cap, fv = .func (.func f) first cap ∧ HC P f (first.toList ++ args ++ cap.toList) ks K h) ∨
    (∃ l, fv = .func (.yield l) #[] #[] ∧ HY P l args (fun b h' => decs ks [.bool b] fun t => K t h') h)
noncomputable def CondP (b : Bool) (t e : Prop) : Prop := Bool.rec (motive := fun _ => Prop) e t b
theorem CondP.yes {b : Bool} {t e : Prop} (h : CondP b t e) (hb : b = true) : t := by subst hb; exact h
theorem CondP.no {b : Bool} {t e : Prop} (h : CondP b t e) (hb : b = false) : e := by subst hb; exact h
theorem CondP.intro {b : Bool} {t e : Prop} (h1 : b = true → t) (h2 : b = false → e) : CondP b t e := by cases b; exact h2 rfl; exact h1 rfl
theorem condP_true {t e : Prop} : CondP true t e ↔ t := Iff.rfl
theorem condP_false {t e : Prop} : CondP false t e ↔ e := Iff.rfl
attribute [irreducible] CondP
def At (h : Heap) (k : Heap → Prop) : Prop := k h
def Bd {T : Type} (x : T) (k : T → Prop) : Prop := k x
structure Join {T : Type} (rest : T → Heap → Prop) (k : (T → Heap → Prop) → Prop) : Prop where
  run : k rest
structure LoopP {T : Type} (F : (T → Heap → Prop) → T → Heap → Prop) (t : T) (h : Heap) : Prop where
  run : ∀ I : T → Heap → Prop, (∀ t h, F I t h → I t h) → I t h
abbrev Regs := List (Nat × Value)
noncomputable def rlook (r : Regs) (t : Nat) : Option Value :=
  List.rec (motive := fun _ => Option Value) none (fun kv _ ih => bif Nat.beq kv.1 t then some kv.2 else ih) r
theorem rlook_cons (k : Nat) (v : Value) (r : Regs) (t : Nat) : rlook ((k, v) :: r) t = bif Nat.beq k t then some v else rlook r t := rfl
noncomputable def reval (r : Regs) : Operand → Option Value
  | .tmp t => rlook r t
  | .const v => some v
  | .global g => some (.pointer (some ⟨g, 0, none⟩))
  | .func f => some (.func (.func f) #[] #[])
noncomputable def revals (r : Regs) : List Operand → Option (List Value)
  | [] => some []
  | o :: os => match reval r o, revals r os with
    | some v, some vs => some (v :: vs)
    | _, _ => none
noncomputable def exCells : List CK → Nat → Addr → Heap → (List Value → Prop) → Prop
  | [], _, _, _, k => k []
  | c :: cs, i, a, h, k => ∃ x : c.den, hcell h (adr a i) = some (c.enc x) ∧ exCells cs (i + 1) a h fun vs => k (c.enc x :: vs)
noncomputable def cellsAt : List Value → Nat → Addr → Heap → Prop
  | [], _, _, _ => True
  | [v], i, a, h => hcell h (adr a i) = some v
  | v :: u :: vs, i, a, h => hcell h (adr a i) = some v ∧ cellsAt (u :: vs) (i + 1) a h
abbrev RK := Value → Option (Heap → Prop) → Prop
noncomputable def rLoad (P : Program) (t : TypeId) (v : Value) (K : RK) (h : Heap) : Prop :=
  match v with
  | .pointer (some a) =>
    match kindT P t with
    | some (.c c) => ∃ x : c.den, hcell h a = some (c.enc x) ∧ K (c.enc x) (some fun h' => hcell h' a = some (c.enc x))
    | some (.agg cs) => exCells cs 0 a h fun vs => K (.agg vs.toArray) (some fun h' => cellsAt vs 0 a h')
    | none => False
  | _ => False
def fieldOff (P : Program) (t : TypeId) (f : Nat) : Option (TypeId × Nat) :=
  match P.underlying t with
  | some (.struct fs) => match fs.toList[f]? with
    | some g => some (g.type, g.offset)
    | none => none
  | _ => none
def elemT (P : Program) (t : TypeId) : Option TypeId :=
  match P.underlying t with
  | some (.slice e) => some e
  | _ => none
def shiftV (op : BinOp) (k : IntKind) (a b : Int) (K : RK) : Prop :=
  match op with
  | .shl => 0 ≤ b ∧ K (.int k (k.wrap (a * 2 ^ (min b.toNat k.bits)))) none
  | .shr => 0 ≤ b ∧ K (.int k (a.fdiv (2 ^ (min b.toNat k.bits)))) none
  | _ => False
def intV (op : BinOp) (k : IntKind) (a b : Int) (K : RK) : Prop :=
  match op with
  | .add => K (.int k (k.wrap (a + b))) none
  | .sub => K (.int k (k.wrap (a - b))) none
  | .mul => K (.int k (k.wrap (a * b))) none
  | .quo => b ≠ 0 ∧ K (.int k (k.wrap (a.tdiv b))) none
  | .rem => b ≠ 0 ∧ K (.int k (a.tmod b)) none
  | .and => K (.int k (k.wrap (BitVec.ofInt k.bits a &&& BitVec.ofInt k.bits b).toNat)) none
  | .or => K (.int k (k.wrap (BitVec.ofInt k.bits a ||| BitVec.ofInt k.bits b).toNat)) none
  | .xor => K (.int k (k.wrap (BitVec.ofInt k.bits a ^^^ BitVec.ofInt k.bits b).toNat)) none
  | .andNot => K (.int k (k.wrap (BitVec.ofInt k.bits a &&& ~~~ BitVec.ofInt k.bits b).toNat)) none
  | .eql => K (.bool (a == b)) none
  | .neq => K (.bool (a != b)) none
  | .lss => K (.bool (decide (a < b))) none
  | .leq => K (.bool (decide (a ≤ b))) none
  | .gtr => K (.bool (decide (a > b))) none
  | .geq => K (.bool (decide (a ≥ b))) none
  | _ => False
def strV (op : BinOp) (a b : ByteArray) (K : RK) : Prop :=
  match op with
  | .add => ((a.size + b.size : Nat) : Int) ≤ 9223372036854775807 ∧ K (.string (a ++ b)) none
  | .eql => K (.bool (a.toList == b.toList)) none
  | .neq => K (.bool (!(a.toList == b.toList))) none
  | .lss => K (.bool (Op.bytesLess a.toList b.toList)) none
  | .leq => K (.bool (Op.bytesLess a.toList b.toList || a.toList == b.toList)) none
  | .gtr => K (.bool (!(Op.bytesLess a.toList b.toList || a.toList == b.toList))) none
  | .geq => K (.bool (!(Op.bytesLess a.toList b.toList))) none
  | _ => False
def plainPtr (h : Heap) (a : Addr) : Prop := (∃ c e, h[a.block]? = some (.cells c e (0, 0)) ∧ 0 < c.size)
def nilV (P : Program) (t : TypeId) (neg : Bool) (x y : Value) (K : RK) : Prop :=
  match P.underlying t, x, y with
  | some (.pointer _), .pointer a, .pointer none => K (.bool (bif neg then !a.isNone else a.isNone)) none
  | some (.map _ _), .map a, .map none => K (.bool (bif neg then !a.isNone else a.isNone)) none
  | some (.slice _), .slice a _ _, .slice none _ _ => K (.bool (bif neg then !a.isNone else a.isNone)) none
  | _, _, _ => False
def isNilC : Operand → Bool
  | .const (.pointer none) => true
  | .const (.map none) => true
  | .const (.slice none 0 0) => true
  | _ => false
def eqV (P : Program) (t : TypeId) (neg : Bool) (x y : Value) (K : RK) (h : Heap) : Prop :=
  match P.underlying t, x, y with
  | some .bool, .bool a, .bool b => K (.bool (bif neg then !(a == b) else a == b)) none
  | some (.pointer e), .pointer a, .pointer b =>
      (bif Nat.beq (sizeT P e) 0 then False else True) ∧
      (∀ x y, a = some x → b = some y → plainPtr h x ∧ plainPtr h y) ∧
      K (.bool (bif neg then !(a == b) else a == b)) (some fun h' => ∀ x y, a = some x → b = some y → plainPtr h' x ∧ plainPtr h' y)
  | _, _, _ => False
def rBin (P : Program) (op : BinOp) (t : TypeId) (x y : Value) (K : RK) (h : Heap) : Prop :=
  match x, y with
  | .int k a, .int k' b =>
    match op with
    | .shl => shiftV .shl k a b K
    | .shr => shiftV .shr k a b K
    | op => bif ikEq k' k then intV op k a b K else False
  | .string a, .string b => strV op a b K
  | x, y => match op with
    | .eql => eqV P t false x y K h
    | .neq => eqV P t true x y K h
    | _ => False
def plainL (h : Heap) : List (Option Addr × Option Addr) → Prop
  | [] => True
  | (a, b) :: l => (∀ x y, a = some x → b = some y → plainPtr h x ∧ plainPtr h y) ∧ plainL h l
def eqOne (P : Program) (t : TypeId) (x y : Value) : Option (Bool × List (Option Addr × Option Addr)) :=
  match P.underlying t, x, y with
  | some (.int _), .int k a, .int k' b => bif ikEq k' k then some (a == b, []) else none
  | some .bool, .bool a, .bool b => some (a == b, [])
  | some .string, .string a, .string b => some (a.toList == b.toList, [])
  | some (.pointer e), .pointer a, .pointer b => bif Nat.beq (sizeT P e) 0 then none else some (a == b, [(a, b)])
  | _, _, _ => none
def eqFs (P : Program) (rec : TypeId → List Value → List Value → Option (Bool × List (Option Addr × Option Addr))) (xs ys : List Value) : List Field → Option (Bool × List (Option Addr × Option Addr))
  | [] => some (true, [])
  | f :: fs =>
    if f.name = "_" then none else
    bif (P.underlying f.type).isSome && (P.info? f.type).isSome then
      match (bif aggT P f.type then rec f.type ((xs.drop f.offset).take (sizeT P f.type)) ((ys.drop f.offset).take (sizeT P f.type))
          else match xs[f.offset]?, ys[f.offset]? with | some x, some y => eqOne P f.type x y | _, _ => none), eqFs P rec xs ys fs with
      | some (b, l), some (c, m) => some (b && c, l ++ m)
      | _, _ => none
    else none
def eqLs (P : Program) : Nat → TypeId → List Value → List Value → Option (Bool × List (Option Addr × Option Addr))
  | 0, _, _, _ => none
  | d + 1, t, xs, ys => match P.underlying t with
    | some (.struct fs) => bif P.stoodInHeld t then none else eqFs P (eqLs P d) xs ys fs.toList
    | _ => none
def eqK (neg b : Bool) (K : RK) (h : Heap) : List (Option Addr × Option Addr) → Prop
  | [] => K (.bool (bif neg then !b else b)) none
  | p :: l => plainL h (p :: l) ∧ K (.bool (bif neg then !b else b)) (some fun h' => plainL h' (p :: l))
def rAgg (P : Program) (op : BinOp) (t : TypeId) (xs ys : List Value) (K : RK) (h : Heap) : Prop :=
  bif P.eqGuardType P.depth t then False else
  match op with
  | .eql => (match eqLs P 10 t xs ys with | some (b, l) => eqK false b K h l | none => False)
  | .neq => (match eqLs P 10 t xs ys with | some (b, l) => eqK true b K h l | none => False)
  | _ => False
def rUn (op : UnOp) (x : Value) (K : RK) : Prop :=
  match op, x with
  | .neg, .int k n => K (.int k (k.wrap (0 - n))) none
  | .xor, .int k n => K (.int k (k.wrap (BitVec.ofInt k.bits (if k.signed then -1 else k.max) ^^^ BitVec.ofInt k.bits n).toNat)) none
  | .not, .bool b => K (.bool (!b)) none
  | _, _ => False
def byteVals (s : ByteArray) : List Value := s.data.toList.map fun b => .int .u8 b.toNat
noncomputable def Row (h : Heap) (a : Addr) (vs : List Value) : Prop := ∀ i v, vs[i]? = some v → hcell h (adr a i) = some v
noncomputable def SRow (h : Heap) (a : Option Addr) (n : Nat) (vs : List Value) : Prop := vs.length = n ∧ (vs = [] ∨ ∃ b, a = some b ∧ Row h b vs)
def isU8 (P : Program) (e : TypeId) : Bool := match P.underlying e with | some (.int .u8) => true | _ => false
noncomputable def rConv (P : Program) (src dst : TypeId) (x : Value) (K : RK) (h : Heap) : Prop :=
  match P.underlying src, P.underlying dst, x with
  | some (.int _), some (.int k), .int _ n => K (.int k (k.wrap n)) none
  | some .string, some .string, .string s => K (.string s) none
  | some (.slice e), some .string, .slice a n _ => bif isU8 P e then ∃ s : ByteArray, SRow h a n (byteVals s) ∧ K (.string s) (some fun h' => SRow h' a n (byteVals s)) else False
  | _, _, _ => False
def bnd (v : Option Value) (d y : Nat) (K : Nat → Prop) : Prop :=
  match v with
  | none => K d
  | some (.int _ i) => (0 ≤ i ∧ i ≤ y) ∧ K i.toNat
  | _ => False
noncomputable def subAddr (a : Option Addr) (l m size : Nat) : Option Addr := if m = l then a else a.map (adr · (l * size))
def okT (P : Program) (t : TypeId) (K : Prop) : Prop := match P.info? t with | some _ => K | none => False
noncomputable def rSlice (P : Program) (t : TypeId) (x : Value) (lo hi mx : Option Value) (K : RK) : Prop :=
  match P.underlying t, x with
  | some .string, .string s => match mx with
    | some _ => False
    | none => bnd hi s.size s.size fun h => bnd lo 0 h fun l => K (.string (s.extract l h)) none
  | some (.slice e), .slice a len cap => okT P e (
    match mx with
    | none => bnd hi len cap fun h => bnd lo 0 h fun l => K (.slice (subAddr a l cap (sizeT P e)) (h - l) (cap - l)) none
    | some m => match hi with
      | none => False
      | some hi => bnd (some m) 0 cap fun m => bnd (some hi) 0 m fun h => bnd lo 0 h fun l => K (.slice (subAddr a l m (sizeT P e)) (h - l) (m - l)) none)
  | some (.array n e), .pointer (some a) => okT P e (
    match mx with
    | none => bnd hi n n fun h => bnd lo 0 h fun l => K (.slice (subAddr (some a) l n (sizeT P e)) (h - l) (n - l)) none
    | some _ => False)
  | _, _ => False
noncomputable def ovals (r : Regs) : Option Operand → Option (Option Value)
  | none => some none
  | some o => match reval r o with
    | some v => some (some v)
    | none => none
noncomputable def rIndexAddr (P : Program) (t : TypeId) (x i : Value) (K : RK) : Prop :=
  match P.underlying t, x, i with
  | some (.array n e), .pointer (some a), .int _ i => okT P e ((0 ≤ i ∧ i < n) ∧ K (.pointer (some (adr a (i.toNat * sizeT P e)))) none)
  | some (.slice e), .slice b len _, .int _ i => okT P e ((0 ≤ i ∧ i < len) ∧ ∃ a, b = some a ∧ K (.pointer (some (adr a (i.toNat * sizeT P e)))) none)
  | _, _, _ => False
def rIndex (P : Program) (t : TypeId) (x i : Value) (K : RK) : Prop :=
  match P.underlying t, x, i with
  | some .string, .string s, .int _ i => ∃ b : UInt8, 0 ≤ i ∧ s[i.toNat]? = some b ∧ K (.int .u8 b.toNat) none
  | _, _, _ => False
noncomputable def rField (P : Program) (t : TypeId) (x : Value) (f : Nat) (K : RK) : Prop :=
  match fieldOff P t f, x with
  | some (u, off), .agg cs => bif (P.underlying u).isSome && (P.info? u).isSome then (bif aggT P u then K (.agg ((cs.toList.drop off).take (sizeT P u)).toArray) none
      else (match cs.toList[off]? with | some v => K v none | none => False)) else False
  | _, _ => False
def rPick (c a b : Value) (K : RK) : Prop :=
  match c with
  | .bool c => (match a, b with
    | .bool x, .bool y => K (.bool (bif c then x else y)) none
    | _, _ => (match c with | true => K a none | false => K b none))
  | _ => False
def sameKey : Value → Value → Bool
  | .int _ a, .int _ b => a == b
  | .string a, .string b => a == b
  | .bool a, .bool b => a == b
  | _, _ => false
def findE (k : Value) : List MapEntry → Option Value
  | [] => none
  | e :: es => if sameKey k e.key then some e.val else findE k es
def keysOf (c : CK) (es : List MapEntry) : Prop := ∀ e ∈ es, ∃ x : c.den, e.key = c.enc x
def MapGet (c : CK) (z : Value) (h : Heap) (m : Option Nat) (k v : Value) (ok : Bool) : Prop :=
  match m with
  | none => v = z ∧ ok = false
  | some r => ∃ es clock, h[r]? = some (.map es clock) ∧ keysOf c es.toList ∧
      (match findE k es.toList with | some u => v = u ∧ ok = true | none => v = z ∧ ok = false)
def keyCK (P : Program) (t : TypeId) : Option (CK × TypeId) :=
  match P.underlying t with
  | some (.map k e) => match P.underlying k with
    | some (.int i) => some (.int i, e)
    | some .string => some (.str, e)
    | some .bool => some (.bool, e)
    | _ => none
  | _ => none
def rLookup (P : Program) (t : TypeId) (x k : Value) (ok : Bool) (K : RK) (h : Heap) : Prop :=
  match keyCK P t, x with
  | some (c, e), .map m => c.dec k fun _ =>
    (match kindT P e, zeroT P e with
     | some ek, some z => ∃ (y : ek.den) (b : Bool), MapGet c z h m k (ek.enc y) b ∧
        K (bif ok then .tuple #[ek.enc y, .bool b] else ek.enc y) (some fun h' => MapGet c z h' m k (ek.enc y) b)
     | _, _ => False)
  | _, _ => False
def MapLen (h : Heap) (m : Option Nat) (n : Nat) : Prop :=
  match m with
  | none => n = 0
  | some r => ∃ es clock, h[r]? = some (.map es clock) ∧ n = es.size
def rLen (P : Program) (t : TypeId) (x : Value) (K : RK) (h : Heap) : Prop :=
  match P.underlying t, x with
  | some .string, .string s => K (.int .i64 s.size) none
  | some (.array n _), _ => K (.int .i64 n) none
  | some (.slice _), .slice _ n _ => K (.int .i64 n) none
  | some (.map _ _), .map m => ∃ n : Nat, MapLen h m n ∧ K (.int .i64 n) (some fun h' => MapLen h' m n)
  | _, _ => False
def rCap (P : Program) (t : TypeId) (x : Value) (K : RK) : Prop :=
  match P.underlying t, x with
  | some (.slice _), .slice _ _ n => K (.int .i64 n) none
  | _, _ => False
def minInt (mx : Bool) (k : IntKind) : Int → List Value → (Value → Prop) → Prop
  | a, [], f => f (.int k a)
  | a, .int k' b :: vs, f => bif ikEq k' k then minInt mx k (bif mx then (if b > a then b else a) else (if b < a then b else a)) vs f else False
  | _, _, _ => False
def minFold (mx : Bool) (vs : List Value) (f : Value → Prop) : Prop :=
  match vs with
  | .int k a :: vs => minInt mx k a vs f
  | _ => False
def IterAt (h : Heap) (i : Nat) (e : MapEntry) : Prop :=
  ∃ m since seen last stamp es, h[i]? = some (.mapIter (some m) since seen last) ∧ seen.back? = some stamp ∧ h[m]? = some (.map es last) ∧ es.find? (fun e => e.born == stamp) = some e
def notIface (P : Program) (t : TypeId) : Bool := match P.underlying t with | some (.interface _) => false | some _ => true | none => false
def rAssert (P : Program) (t : TypeId) (x : Value) (K : RK) : Prop :=
  bif notIface P t then (match kindT P t with
    | some k => ∃ y : k.den, x = .iface t (k.enc y) ∧ K (k.enc y) none
    | none => False) else False
def putAt (cs : List Value) (off : Nat) (vs : List Value) : List Value := cs.take off ++ vs ++ cs.drop (off + vs.length)
def fillL (place : Nat → Option (Nat × Nat)) : List Value → List (Nat × Value) → Option (List Value)
  | cs, [] => some cs
  | cs, (i, v) :: rest => match place i with
    | none => none
    | some (off, size) => bif Nat.beq v.cells.toList.length size && Nat.ble (off + v.cells.toList.length) cs.length then fillL place (putAt cs off v.cells.toList) rest else none
noncomputable def partVals (r : Regs) : List (Nat × Operand) → Option (List (Nat × Value))
  | [] => some []
  | (i, o) :: ps => match reval r o, partVals r ps with
    | some v, some vs => some ((i, v) :: vs)
    | _, _ => none
def zcells (P : Program) (t : TypeId) : Option (List Value) := match zeroT P t with | some z => some z.cells.toList | none => none
def zrow (n : Nat) (z : List Value) : List Value := (List.replicate n z).flatten
def hasInfo (P : Program) (t : TypeId) : Bool := match P.info? t with | some _ => true | none => false
def allInfo (P : Program) : List Field → Bool
  | [] => true
  | f :: fs => bif hasInfo P f.type then allInfo P fs else false
def placeS (P : Program) (fs : List Field) (i : Nat) : Option (Nat × Nat) := match fs[i]? with | some f => some (f.offset, sizeT P f.type) | none => none
def buildL (P : Program) (t : TypeId) (parts : List (Nat × Value)) : Option (List Value) :=
  match P.underlying t, zcells P t with
  | some (.struct fs), some z => bif allInfo P fs.toList then fillL (placeS P fs.toList) z parts else none
  | some (.array _ e), some z => bif hasInfo P e then fillL (fun i => some (i * sizeT P e, sizeT P e)) z parts else none
  | _, _ => none
noncomputable def rOp (P : Program) (ek : Option (Kind × Kind)) (o : Op) (r : Regs) (K : RK) (h : Heap) : Prop :=
  match o with
  | .entry it => match reval r it, ek with
    | some (.pointer (some a)), some (kk, vk) => a.off = 0 ∧ ∃ (e : MapEntry) (x : kk.den) (y : vk.den), IterAt h a.block e ∧ e.key = kk.enc x ∧ e.val = vk.enc y ∧
        K (.tuple #[kk.enc x, vk.enc y]) (some fun h' => IterAt h' a.block e)
    | _, _ => False
  | .move x | .assign x => match reval r x with | some v => K v none | none => False
  | .load t a => match reval r a with | some v => rLoad P t v K h | none => False
  | .nilCheck x => match reval r x with | some (.pointer p) => ∃ a, p = some a ∧ K (.pointer (some a)) none | _ => False
  | .binOp op t x y _ => match reval r x, reval r y with
    | some (.agg v), some (.agg u) => rAgg P op t v.toList u.toList K h
    | some v, some u => (match op, isNilC y with
      | .eql, true => nilV P t false v u K
      | .neq, true => nilV P t true v u K
      | op, _ => rBin P op t v u K h)
    | _, _ => False
  | .unOp op _ x => match reval r x with | some v => rUn op v K | none => False
  | .convert s d x => match reval r x with | some v => rConv P s d v K h | none => False
  | .pick c a b => match reval r c, reval r a, reval r b with | some c, some a, some b => rPick c a b K | _, _, _ => False
  | .extract x i => match reval r x with
    | some (.tuple vs) => (match vs.toList[i]? with | some v => K v none | none => False)
    | _ => False
  | .fieldAddr t x f => match reval r x, fieldOff P t f with
    | some (.pointer (some a)), some (u, off) => bif Nat.beq (sizeT P u) 0 then False else K (.pointer (some (adr a off))) none
    | _, _ => False
  | .field t x f => match reval r x with | some v => rField P t v f K | none => False
  | .indexAddr t x i => match reval r x, reval r i with | some v, some u => rIndexAddr P t v u K | _, _ => False
  | .index t x i => match reval r x, reval r i with | some v, some u => rIndex P t v u K | _, _ => False
  | .slice t x lo hi mx => match reval r x, ovals r lo, ovals r hi, ovals r mx with
    | some v, some l, some h', some m => rSlice P t v l h' m K
    | _, _, _, _ => False
  | .lookup t x k ok => match reval r x, reval r k with | some v, some u => rLookup P t v u ok K h | _, _ => False
  | .makeInterface t x => match reval r x with | some v => bif notIface P t then K (.iface t v) none else False | none => False
  | .typeAssert x _ t ok => match reval r x with | some v => bif ok then False else rAssert P t v K | none => False
  | .build t ps => match partVals r ps.toList with
    | some vs => (match buildL P t vs with | some cs => K (.agg cs.toArray) none | none => False)
    | none => False
  | .makeFunc fn first cap => match revals r first.toList, revals r cap.toList with
    | some vs, some us => K (.func fn vs.toArray us.toArray) none
    | _, _ => False
  | .call c => match c.callee, revals r c.args.toList, c.argTypes.toList with
    | .builtin .len, some [v], [t] => rLen P t v K h
    | .builtin .cap, some [v], [t] => rCap P t v K
    | .builtin .min, some vs, _ => minFold false vs fun v => K v none
    | .builtin .max, some vs, _ => minFold true vs fun v => K v none
    | _, _, _ => False
  | _ => False
abbrev WK := Value → Heap → Prop
def newA (h : Heap) : Addr := ⟨h.size, 0, none⟩
def hnew (h : Heap) (cs : List Value) (t : TypeId) : Heap := h.push (.cells cs.toArray t (0, 0))
def oneCell : List Value → Bool
  | [] => true
  | v :: vs => (match v with | .agg _ => false | .tuple _ => false | _ => true) && oneCell vs
noncomputable def hsetL (h : Heap) (a : Addr) : Nat → List Value → Heap
  | _, [] => h
  | i, v :: vs => hsetL (hset h (adr a i) v) a (i + 1) vs
noncomputable def hsetS (h : Heap) (a : Option Addr) (i : Nat) (vs : List Value) : Heap := match a with | some a => hsetL h a i vs | none => h
noncomputable def WrS (h : Heap) (a : Option Addr) (i : Nat) (vs : List Value) : Prop := vs = [] ∨ ∃ b, a = some b ∧ ∀ j, j < vs.length → Wr h (adr b (i + j))
noncomputable def wStore (P : Program) (t : TypeId) (a v : Value) (K : WK) (h : Heap) : Prop :=
  match a with
  | .pointer (some a) => bif Nat.beq v.cells.toList.length (sizeT P t) && oneCell v.cells.toList then okT P t
      (match v.cells.toList with
       | [v] => Wr h a ∧ K undef (hset h a v)
       | vs => WrS h (some a) 0 vs ∧ K undef (hsetL h a 0 vs))
    else False
  | _ => False
noncomputable def appK (P : Program) (e : TypeId) (base : Option Addr) (sl sc xl : Nat) (xs : List Value) (K : WK) (h : Heap) : Prop :=
  (sl + xl ≤ sc → WrS h base (sl * sizeT P e) xs ∧ oneCell xs = true ∧ K (.slice base (sl + xl) sc) (hsetS h base (sl * sizeT P e) xs)) ∧
  (sc < sl + xl → ∃ old z, SRow h base (sl * sizeT P e) old ∧ zcells P e = some z ∧ 0 < bytesT P e ∧ Builtin.nextslicecap (sl + xl) sc * bytesT P e ≤ 2 ^ 48 ∧
    ∀ nc, sl + xl ≤ nc → K (.slice (some (newA h)) (sl + xl) nc) (hnew h (old ++ xs ++ zrow (nc - (sl + xl)) z) e))
noncomputable def wAppend (P : Program) (t : TypeId) (s x : Value) (K : WK) (h : Heap) : Prop :=
  match elemT P t, s, x with
  | some e, .slice b sl sc, .slice a xl _ => okT P e (∃ xs, SRow h a (xl * sizeT P e) xs ∧ appK P e b sl sc xl xs K h)
  | some e, .slice b sl sc, .string x => bif Nat.beq (sizeT P e) 1 then appK P e b sl sc x.size (byteVals x) K h else False
  | _, _, _ => False
noncomputable def wAppendZ (P : Program) (t : TypeId) (s x : Value) (K : WK) (h : Heap) : Prop :=
  match elemT P t, s, x with
  | some e, .slice b sl sc, .int _ l => (match zcells P e with
    | some z => bif Nat.beq z.length (sizeT P e) then (0 ≤ l ∧ l * bytesT P e ≤ 2 ^ 48 ∧ l ≤ 9223372036854775807 ∧ ((sl + l.toNat : Nat) : Int) ≤ 9223372036854775807) ∧ appK P e b sl sc l.toNat (zrow l.toNat z) K h else False
    | none => False)
  | _, _, _ => False
noncomputable def wClear (P : Program) (t : TypeId) (x : Value) (K : WK) (h : Heap) : Prop :=
  match elemT P t, x with
  | some e, .slice a n _ => (match zcells P e with
    | some z => bif oneCell z then WrS h a 0 (zrow n z) ∧ K (.tuple #[]) (hsetS h a 0 (zrow n z)) else False
    | none => False)
  | _, _ => False
noncomputable def wCopy (P : Program) (t : TypeId) (d s : Value) (K : WK) (h : Heap) : Prop :=
  match elemT P t, d, s with
  | some e, .slice b dl _, .slice a sl _ => okT P e (∃ xs, SRow h a (Nat.min sl dl * sizeT P e) xs ∧ WrS h b 0 xs ∧ oneCell xs = true ∧ K (.int .i64 (Nat.min sl dl)) (hsetS h b 0 xs))
  | some e, .slice b dl _, .string x => bif Nat.beq (sizeT P e) 1 then WrS h b 0 ((byteVals x).take dl) ∧ K (.int .i64 (Nat.min x.size dl)) (hsetS h b 0 ((byteVals x).take dl)) else False
  | _, _, _ => False
def putE (k v : Value) (clock : Nat) : List MapEntry → List MapEntry × Nat
  | [] => ([{ key := k, val := v, born := clock }], clock + 1)
  | e :: es => if sameKey k e.key then ({ e with key := k, val := v } :: es, clock) else let r := putE k v clock es; (e :: r.1, r.2)
def dropE (k : Value) : List MapEntry → List MapEntry
  | [] => []
  | e :: es => if sameKey k e.key then es else e :: dropE k es
def IsMap (c : CK) (h : Heap) (r : Nat) : Prop := ∃ es clock, h[r]? = some (.map es clock) ∧ keysOf c es.toList
def mput (h : Heap) (r : Nat) (k v : Value) : Heap :=
  match h[r]? with
  | some (.map es clock) => h.setIfInBounds r (.map (putE k v clock es.toList).1.toArray (putE k v clock es.toList).2)
  | _ => h
def mdrop (h : Heap) (r : Nat) (k : Value) : Heap :=
  match h[r]? with
  | some (.map es clock) => h.setIfInBounds r (.map (dropE k es.toList).toArray clock)
  | _ => h
def wMapPut (P : Program) (t : TypeId) (m k v : Value) (K : WK) (h : Heap) : Prop :=
  match keyCK P t, m with
  | some (c, _), .map m => c.dec k fun _ => ∃ r, m = some r ∧ IsMap c h r ∧ K undef (mput h r k v)
  | _, _ => False
def wMapDrop (P : Program) (t : TypeId) (m k : Value) (K : WK) (h : Heap) : Prop :=
  match keyCK P t, m with
  | some (c, _), .map m => c.dec k fun _ => (m = none ∧ K (.tuple #[]) h) ∨ (∃ r, m = some r ∧ IsMap c h r ∧ K (.tuple #[]) (mdrop h r k))
  | _, _ => False
def resKs (P : Program) : List TypeId → Option (List Kind)
  | [] => some []
  | t :: ts => match kindT P t, resKs P ts with
    | some k, some ks => some (k :: ks)
    | _, _ => none
def resKinds (P : Program) (t : TypeId) : Option (List Kind) :=
  match P.underlying t with
  | some (.tuple ts) => resKs P ts.toList
  | _ => resKs P [t]
noncomputable def wCall (P : Program) (f : Operand) (r : Regs) (args : List Value) (t : TypeId) (K : WK) (h : Heap) : Prop :=
  match resKinds P t with
  | none => False
  | some ks => match f with
    | .func f => HC P f args ks (fun x h' => K (retV ks (encs ks x)) h') h
    | f => match reval r f with
      | some fv => HV P fv args ks (fun x h' => K (retV ks (encs ks x)) h') h
      | none => False
def wNext (it : Value) (K : WK) (h : Heap) : Prop :=
  match it with
  | .pointer (some a) => a.off = 0 ∧
    ∃ m since seen last, h[a.block]? = some (.mapIter m since seen last) ∧
      ((m = none ∧ K (.tuple #[.bool false]) h) ∨
       (∃ r es clock, m = some r ∧ h[r]? = some (.map es clock) ∧ (seen.isEmpty = true ∨ es.isEmpty = true ∨ es.all (fun e => decide (e.born ≥ last)) = false) ∧
         ((∀ e ∈ es.toList, e.born < since → seen.contains e.born = true) → K (.tuple #[.bool false]) h) ∧
         (∀ e ∈ es.toList, seen.contains e.born = false → K (.tuple #[.bool true, e.key, e.val]) (h.setIfInBounds a.block (.mapIter (some r) since (seen.push e.born) clock)))))
  | _ => False
noncomputable def wOp (P : Program) (o : Oper) (r : Regs) (K : WK) (h : Heap) : Prop :=
  match o.op with
  | .alloc t => (match zcells P t with | some z => K (.pointer (some (newA h))) (hnew h z t) | none => False)
  | .box t x => (match reval r x with | some v => K (.pointer (some (newA h))) (hnew h v.cells.toList t) | none => False)
  | .build t ps => (match partVals r ps.toList with
    | some vs => (match buildL P t vs with | some cs => K (.agg cs.toArray) h | none => False)
    | none => False)
  | .buildSlice t n ps => (match elemT P t, partVals r ps.toList with
    | some e, some vs => (match zcells P e with
      | some z => bif Nat.ble (n * sizeT P e) 16777216 && Nat.beq z.length (sizeT P e) then
          (match fillL (fun i => some (i * sizeT P e, sizeT P e)) (zrow n z) vs with | some cs => K (.slice (some (newA h)) n n) (hnew h cs e) | none => False)
        else False
      | none => False)
    | _, _ => False)
  | .store t a x => (match reval r a, reval r x with | some a, some v => wStore P t a v K h | _, _ => False)
  | .mapUpdate t m k x => (match reval r m, reval r k, reval r x with | some m, some k, some v => wMapPut P t m k v K h | _, _, _ => False)
  | .insert t m k x => (match reval r m, reval r k, reval r x with | some m, some k, some v => wMapPut P t m k v K h | _, _, _ => False)
  | .makeMap t n => (match n with
    | none => K (.map (some h.size)) (h.push (.map #[] 0))
    | some n => (match reval r n, P.underlying t with | some (.int _ _), some (.map _ _) => K (.map (some h.size)) (h.push (.map #[] 0)) | _, _ => False))
  | .makeSlice t l c => (match elemT P t, reval r l, reval r c with
    | some e, some (.int _ l), some (.int _ c) => (match zcells P e with
      | some z => bif Nat.beq z.length (sizeT P e) then (0 ≤ l ∧ l ≤ c ∧ c ≤ 9223372036854775807 ∧ bytesT P e * c ≤ 2 ^ 48) ∧ K (.slice (some (newA h)) l.toNat c.toNat) (hnew h (zrow c.toNat z) e) else False
      | none => False)
    | _, _, _ => False)
  | .range t x => (match P.underlying t, reval r x with
    | some (.map _ _), some (.map m) => ∃ clock, (m = none ∧ clock = 0 ∨ ∃ r es, m = some r ∧ h[r]? = some (.map es clock)) ∧ K (.pointer (some (newA h))) (h.push (.mapIter m clock #[] clock))
    | _, _ => False)
  | .next it false => (match reval r it with | some it => wNext it K h | none => False)
  | .call c => (match c.callee, revals r c.args.toList with
    | .builtin .append, some [s, x] => (match c.argTypes.toList with | [t, u] => (match P.underlying u with | some (.slice _) => wAppend P t s x K h | some .string => wAppend P t s x K h | some (.int _) => wAppendZ P t s x K h | _ => False) | _ => False)
    | .builtin .clear, some [x] => (match c.argTypes.toList with | [t] => wClear P t x K h | _ => False)
    | .builtin .copy, some [d, s] => (match c.argTypes.toList with | [t, _] => wCopy P t d s K h | _ => False)
    | .builtin .delete, some [m, k] => (match c.argTypes.toList with | [t, _] => wMapDrop P t m k K h | _ => False)
    | .value f, some args => wCall P f r args o.type K h
    | _, _ => False)
  | _ => False
def Quiet : Op → Bool
  | .alloc _ | .box .. | .buildSlice .. | .store .. | .mapUpdate .. | .insert .. | .makeMap .. | .makeSlice .. | .range .. | .next .. => false
  | .call c => match c.callee with
    | .builtin .len | .builtin .cap | .builtin .min | .builtin .max => true
    | _ => false
  | _ => true
def dstK (N : Nat) (o : Oper) (v : Value) (r : Regs) (K : Regs → Prop) : Prop :=
  match o.dst with
  | none => K r
  | some d => bif Nat.blt d N then K ((d, v) :: r) else False
noncomputable def sOp (P : Program) (N : Nat) (ek : Option (Kind × Kind)) (o : Oper) (r : Regs) (K : Regs → Heap → Prop) (h : Heap) : Prop :=
  bif Quiet o.op then rOp P ek o.op r (fun v _ => dstK N o v r fun r' => K r' h) h
  else wOp P o r (fun v h' => dstK N o v r fun r' => K r' h') h
inductive DV where
  | f | t | u | x
abbrev Dec := List (Nat × DV)
noncomputable def dlook (d : Dec) (t : Nat) : DV :=
  List.rec (motive := fun _ => DV) .x (fun kv _ ih => bif Nat.beq kv.1 t then kv.2 else ih) d
noncomputable def dOpnd (d : Dec) : Operand → DV
  | .tmp t => dlook d t
  | .const (.bool true) => .t
  | .const (.bool false) => .f
  | _ => .x
noncomputable def dOf (d : Dec) : Op → DV
  | .move x => dOpnd d x
  | .assign x => dOpnd d x
  | .pick c a b => match dOpnd d c with
    | .t => dOpnd d a
    | .f => dOpnd d b
    | _ => .x
  | .unOp .not _ x => match dOpnd d x with
    | .t => .f
    | .f => .t
    | _ => .x
  | _ => .x
def dPut (d : Dec) (o : Oper) (v : DV) : Dec := match o.dst with | some t => (t, v) :: d | none => d
noncomputable def wantedL (ops : List Oper) (d : Dec) (o : Oper) : Option Bool :=
  match o.guard with
  | none => some true
  | some (j, want) => match ops[j]? with
    | none => none
    | some oj => match oj.dst with
      | none => none
      | some t => match dlook d t with
        | .t => some want
        | .f => some (!want)
        | .u => some false
        | .x => none
def guardReg (ops : List Oper) (o : Oper) : Option Nat :=
  match o.guard with
  | none => none
  | some (j, _) => match ops[j]? with
    | none => none
    | some oj => oj.dst
noncomputable def sStep (P : Program) (N : Nat) (ek : Option (Kind × Kind)) (ops : List Oper) (o : Oper) (d : Dec) (r : Regs) (h : Heap) (K : Dec → Regs → Heap → Prop) : Prop :=
  match wantedL ops d o with
  | some true => sOp P N ek o r (K (dPut d o (dOf d o.op))) h
  | some false => dstK N o undef r fun r' => K (dPut d o .u) r' h
  | none => False
noncomputable def sOps (P : Program) (N : Nat) (ek : Option (Kind × Kind)) (ops : List Oper) (l : List Oper) : Dec → (Regs → Heap → Prop) → Regs → Heap → Prop :=
  List.rec (motive := fun _ => Dec → (Regs → Heap → Prop) → Regs → Heap → Prop) (fun _ K r h => K r h)
    (fun o _ ih d K r h =>
    match wantedL ops d o with
    | some true => sOp P N ek o r (fun r' h' => ih (dPut d o (dOf d o.op)) K r' h') h
    | some false => dstK N o undef r fun r' => ih (dPut d o .u) K r' h
    | none => match guardReg ops o with
      | none => False
      | some t => match rlook r t with
        | some (.bool b) => CondP b
            (sStep P N ek ops o ((t, .t) :: d) ((t, .bool true) :: r) h fun d' r' h' => ih d' K r' h')
            (sStep P N ek ops o ((t, .f) :: d) ((t, .bool false) :: r) h fun d' r' h' => ih d' K r' h')
        | _ => False) l
inductive DA where
  | done
  | take (i : Nat) (rest : DA)
  | all (l : DA)
  | pick (i : Nat) (rest more : DA)
  | last (i : Nat) (rest : DA)
  | lastT (i : Nat) (rest : DA)
  | split (t : Nat) (yes no : DA)
abbrev Held := List (Nat × (Heap → Prop))
def tb (m i : Nat) : Bool := Nat.beq (Nat.land (Nat.shiftRight m i) 1) 1
def bitOf (i : Nat) : Nat := Nat.pow 2 i
inductive DM where
  | mk (am fr lk ds : Nat)
def DM.am : DM → Nat | .mk a _ _ _ => a
def DM.fr : DM → Nat | .mk _ f _ _ => f
def DM.lk : DM → Nat | .mk _ _ l _ => l
def DM.ds : DM → Nat | .mk _ _ _ d => d
def isAfter (o : Oper) (i : Nat) : Bool := o.after.toList.any fun e => Nat.beq e.on i && Region.binds .any e
noncomputable def afterMask (l : List Edge) : Nat :=
  List.rec (motive := fun _ => Nat) 0 (fun e _ ih => bif Region.binds .any e then Nat.lor (bitOf e.on) ih else ih) l
noncomputable def tmpsMask (l : List Operand) : Nat :=
  List.rec (motive := fun _ => Nat) 0 (fun o _ ih => match o with | .tmp t => Nat.lor (bitOf t) ih | _ => ih) l
def dstMask (o : Oper) : Nat := match o.dst with | some d => bitOf d | none => 0
noncomputable def looksMask (ops : List Oper) (o : Oper) : Nat :=
  Nat.lor (tmpsMask o.op.operands.toList) (match o.guard with
    | some (g, _) => (match ops[g]? with | some og => dstMask og | none => 0)
    | none => 0)
noncomputable def masksAre (ops : List Oper) (l : List Oper) : List DM → Bool :=
  List.rec (motive := fun _ => List DM → Bool) (fun ms => match ms with | [] => true | _ => false)
    (fun o _ ih ms => match ms with
      | m :: ms => Nat.beq (afterMask o.after.toList) m.am && Nat.beq (looksMask ops o) m.lk && Nat.beq (dstMask o) m.ds && ih ms
      | [] => false) l
def apartM (x y : DM) : Bool := Nat.beq (Nat.land x.ds (Nat.lor y.lk y.ds)) 0 && Nat.beq (Nat.land y.ds x.lk) 0
noncomputable def freeM (i : Nat) (m : DM) (l : List DM) : Nat → Bool :=
  List.rec (motive := fun _ => Nat → Bool) (fun _ => true)
    (fun n _ ih j => (!(tb m.fr j) || Nat.beq j i || tb n.am i || apartM m n) && ih (Nat.succ j)) l
noncomputable def freeAll (all : List DM) (l : List DM) : Nat → Bool :=
  List.rec (motive := fun _ => Nat → Bool) (fun _ => true) (fun m _ ih i => freeM i m all 0 && ih (Nat.succ i)) l
def noSel : List Oper → Bool
  | [] => true
  | o :: os => (match o.op with | .select .. => false | .defer _ => false | _ => true) && noSel os
noncomputable def masksOk (ops : List Oper) (ms : List DM) : Bool := masksAre ops ops ms && freeAll ms ms 0 && noSel ops
def relHeld (o : Oper) : Held → Held
  | [] => []
  | (k, S) :: l => bif isAfter o k then relHeld o l else (k, S) :: relHeld o l
def holdHeld : Held → Heap → Prop → Prop
  | [], _, R => R
  | (_, S) :: l, h, R => S h ∧ holdHeld l h R
def rdy (m : DM) (ls : Nat) : Bool := Nat.beq (Nat.land m.am ls) m.am
noncomputable def readyL (ls : Nat) (l : List DM) : Nat → List Nat :=
  List.rec (motive := fun _ => Nat → List Nat) (fun _ => []) (fun m _ ih j => bif !(tb ls j) && rdy m ls then j :: ih (Nat.succ j) else ih (Nat.succ j)) l
def takeOk (m : DM) (i ls n : Nat) : Bool := !(tb ls i) && rdy m ls && Nat.beq (Nat.land (Nat.lor ls m.fr) (Nat.pred (bitOf n))) (Nat.pred (bitOf n))
def natsEq : List Nat → List Nat → Bool
  | [], [] => true
  | a :: as, b :: bs => Nat.beq a b && natsEq as bs
  | _, _ => false
def firsts : DA → List Nat
  | .pick i _ l => i :: firsts l
  | .last i _ => [i]
  | .lastT i _ => [i]
  | _ => []
noncomputable def sOne (P : Program) (N : Nat) (ops : List Oper) (i : Nat) (L : Held) (d : Dec) (r : Regs) (h : Heap) (K : Held → Dec → Regs → Heap → Prop) : Prop :=
  match ops[i]? with
  | none => False
  | some o => match wantedL ops d o with
    | some true => bif Quiet o.op then False else wOp P o r (fun v h' => dstK N o v r fun r' => holdHeld (relHeld o L) h' (K (relHeld o L) (dPut d o .x) r' h')) h
    | _ => False
noncomputable def upM (m : Nat) (l : List DM) : Nat → Nat :=
  List.rec (motive := fun _ => Nat → Nat) (fun _ => m) (fun n _ ih j => bif tb m j then Nat.lor n.am (ih (Nat.succ j)) else ih (Nat.succ j)) l
noncomputable def closM (ms : List DM) (m : Nat) : Nat := upM (upM (upM (upM m ms 0) ms 0) ms 0) ms 0
def amAt (ms : List DM) (i : Nat) : Nat := match ms[i]? with | some m => m.am | none => 0
def relBy (m : Nat) : Held → Held
  | [] => []
  | (k, S) :: l => bif tb m k then relBy m l else (k, S) :: relBy m l
noncomputable def sOneT (P : Program) (N : Nat) (ops : List Oper) (ms : List DM) (i : Nat) (L : Held) (d : Dec) (r : Regs) (h : Heap) (K : Held → Dec → Regs → Heap → Prop) : Prop :=
  match ops[i]? with
  | none => False
  | some o => match wantedL ops d o with
    | some true => bif Quiet o.op then False else wOp P o r (fun v h' => dstK N o v r fun r' => holdHeld (relBy (closM ms (amAt ms i)) L) h' (K (relBy (closM ms (amAt ms i)) L) (dPut d o .x) r' h')) h
    | _ => False
noncomputable def sDraw (P : Program) (N : Nat) (ops : List Oper) (ms : List DM) (da : DA) : Bool → Nat → Held → Dec → (Regs → Heap → Prop) → Regs → Heap → Prop :=
  DA.rec (motive := fun _ => Bool → Nat → Held → Dec → (Regs → Heap → Prop) → Regs → Heap → Prop)
    (fun m ls _ _ K r h => bif !m && natsEq (readyL ls ms 0) [] then K r h else False)
    (fun i _ ih m ls L d K r h =>
      match ops[i]?, ms[i]? with
      | some o, some mi => bif !m && takeOk mi i ls ops.length then
          (match wantedL ops d o with
           | none => False
           | some false => dstK N o undef r fun r' => ih false (Nat.lor ls (bitOf i)) L (dPut d o .u) K r' h
           | some true => bif Quiet o.op then
               rOp P none o.op r (fun v S => dstK N o v r fun r' => match S with
                 | none => ih false (Nat.lor ls (bitOf i)) L (dPut d o (dOf d o.op)) K r' h
                 | some S => ih false (Nat.lor ls (bitOf i)) ((i, S) :: L) (dPut d o (dOf d o.op)) K r' h) h
               else False)
        else False
      | _, _ => False)
    (fun l ih m ls L d K r h => bif !m && natsEq (readyL ls ms 0) (firsts l) then ih true ls L d K r h else False)
    (fun i _ _ ih1 ih2 m ls L d K r h => bif m then sOne P N ops i L d r h (fun L' d' r' h' => ih1 false (Nat.lor ls (bitOf i)) L' d' K r' h') ∧ ih2 true ls L d K r h else False)
    (fun i _ ih m ls L d K r h => bif m then sOne P N ops i L d r h (fun L' d' r' h' => ih false (Nat.lor ls (bitOf i)) L' d' K r' h') else False)
    (fun i _ ih m ls L d K r h => bif m then sOneT P N ops ms i L d r h (fun L' d' r' h' => ih false (Nat.lor ls (bitOf i)) L' d' K r' h') else False)
    (fun t _ _ ih1 ih2 m ls L d K r h =>
      bif m then False else match rlook r t with
      | some (.bool b) => CondP b (ih1 false ls L ((t, .t) :: d) K ((t, .bool true) :: r) h) (ih2 false ls L ((t, .f) :: d) K ((t, .bool false) :: r) h)
      | _ => False)
    da
inductive Ex where
  | exit (id : Nat)
  | ret
abbrev St := List (Nat × Kind)
def stKs : St → List Kind
  | [] => []
  | (_, k) :: l => k :: stKs l
noncomputable def stVals (r : Regs) : St → Option (List Value)
  | [] => some []
  | (i, _) :: l => match rlook r i, stVals r l with
    | some v, some vs => some (v :: vs)
    | _, _ => none
noncomputable def stDec (st : St) (r : Regs) (f : Tup (stKs st) → Prop) : Prop :=
  match stVals r st with
  | some vs => decs (stKs st) vs f
  | none => False
def zipRegs : St → List Value → Regs → Regs
  | (i, _) :: l, v :: vs, r => (i, v) :: zipRegs l vs r
  | _, _, r => r
noncomputable def keepR (r : Regs) (l : List Nat) : Option Regs :=
  List.rec (motive := fun _ => Option Regs) (some []) (fun t _ ih => match rlook r t, ih with
    | some v, some l => some ((t, v) :: l)
    | _, _ => none) l
noncomputable def writesOp (t : Nat) (l : List Oper) : Bool :=
  List.rec (motive := fun _ => Bool) false (fun o _ ih => match o.dst with | some d => bif Nat.beq d t then true else ih | none => ih) l
noncomputable def writes (t : Nat) (c : Code) : Bool :=
  Code.rec (motive := fun _ => Bool) false (fun _ ops _ => writesOp t ops.toList) (fun _ _ a b => bif a then true else b) (fun _ _ _ a b => bif a then true else b)
    (fun _ _ b => b) (fun _ b => b) (fun _ _ _ _ _ _ => true) (fun _ => false) (fun _ b => b) (fun _ => false) (fun _ => false) false (fun _ => false) c
inductive Ann where
  | nil
  | node (a b : Ann)
  | join (keep : List Nat) (st : St) (a b : Ann)
  | loop (keep : List Nat) (st : St) (b : Ann)
  | draw (ms : List DM) (d : DA)
  | kinds (k v : Kind)
  | reg (keep : List Nat) (inner : Ann)
  | rf (ks : List Kind) (a b : Ann)
def Ann.l : Ann → Ann
  | .node a _ => a
  | .join _ _ a _ => a
  | .loop _ _ b => b
  | .rf _ a _ => a
  | _ => .nil
def Ann.r : Ann → Ann
  | .node _ b => b
  | .join _ _ _ b => b
  | .rf _ _ b => b
  | _ => .nil
noncomputable def noneWritten (c : Code) (l : List Nat) : Bool :=
  List.rec (motive := fun _ => Bool) true (fun t _ ih => bif writes t c then false else ih) l
noncomputable def sReg (P : Program) (N : Nat) (ops : List Oper) (dr : Bool) (an : Ann) (Kn : Regs → Heap → Prop) (r : Regs) (h : Heap) : Prop :=
  match dr with
  | false => (match an with
    | .kinds kk vk => sOps P N (some (kk, vk)) ops ops [] Kn r h
    | _ => sOps P N none ops ops [] Kn r h)
  | true => (match an with
    | .draw ms da => bif masksOk ops ms then sDraw P N ops ms da false 0 [] [] Kn r h else False
    | _ => False)
noncomputable def sCode (P : Program) (N : Nat) (c : Code) : Ann → (Regs → Heap → Prop) → (Ex → Regs → Heap → Prop) → Regs → Heap → Prop :=
  Code.rec (motive := fun _ => Ann → (Regs → Heap → Prop) → (Ex → Regs → Heap → Prop) → Regs → Heap → Prop)
    (fun _ Kn _ r h => Kn r h)
    (fun _ ops dr an Kn _ r h => match an with
      | .reg keep an => sReg P N ops.toList dr an (fun r' h' => match keepR r' keep with | some r0 => Kn r0 h' | none => False) r h
      | _ => False)
    (fun a _ iha ihb an Kn Kx r h => match an with
      | .join keep st aa ab => bif noneWritten a keep then
          (match keepR r keep with
           | none => False
           | some r0 => Join (T := Tup (stKs st)) (fun t h' => ihb ab Kn Kx (zipRegs st (encs (stKs st) t) r0) h')
              fun J => iha aa (fun r' h' => stDec st r' fun t => J t h') Kx r h)
        else False
      | an => iha an.l (fun r' h' => ihb an.r Kn Kx r' h') Kx r h)
    (fun c _ _ iha ihb an Kn Kx r h => match reval r c with
      | some (.bool t) => CondP t (iha an.l Kn Kx r h) (ihb an.r Kn Kx r h)
      | _ => False)
    (fun id _ ih an Kn Kx r h => ih an Kn (fun e r' h' => match e with
        | .exit i => bif Nat.beq i id then Kn r' h' else Kx (.exit i) r' h'
        | .ret => Kx .ret r' h') r h)
    (fun b ih an _ Kx r h => match an with
      | .loop keep st ab => bif noneWritten b keep then
          (match keepR r keep with
           | none => False
           | some r0 => stDec st r fun t0 => LoopP (T := Tup (stKs st)) (fun self t h' => ih ab (fun r' h'' => stDec st r' fun t' => self t' h'') Kx (zipRegs st (encs (stKs st) t) r0) h') t0 h)
        else False
      | _ => False)
    (fun _ _ _ _ _ _ _ _ _ _ _ => False)
    (fun id _ _ Kx r h => Kx (.exit id) r h)
    (fun _ _ _ _ _ _ _ => False)
    (fun _ _ Kn _ r h => Kn r h)
    (fun _ _ _ _ _ _ => False)
    (fun _ _ Kx r h => Kx .ret r h)
    (fun _ _ _ _ _ _ => False)
    c
noncomputable def resVals (P : Program) (r : Regs) (h : Heap) : List ResultVar → (List Value → Prop) → Prop
  | [], K => K []
  | .tmp t :: l, K => (match rlook r t with | some v => resVals P r h l fun vs => K (v :: vs) | none => False)
  | .cell a t :: l, K => (match rlook r a with
    | some v => rLoad P t v (fun x _ => resVals P r h l fun vs => K (x :: vs)) h
    | none => False)
def argRegs : Nat → List Value → Regs
  | _, [] => []
  | i, v :: vs => (i, v) :: argRegs (i + 1) vs
noncomputable def sBody (P : Program) (fn : Func) (c : Code) (an : Ann) (args : List Value) (ks : List Kind) (K : Tup ks → Heap → Prop) (h : Heap) : Prop :=
  sCode P fn.ntmps c an
    (fun r h' => resVals P r h' fn.results.toList fun vs => decs ks vs fun t => K t h')
    (fun e r h' => match e with
      | .ret => resVals P r h' fn.results.toList fun vs => decs ks vs fun t => K t h'
      | .exit _ => False)
    (argRegs 0 args) h
noncomputable def hasRF (c : Code) : Bool :=
  Code.rec (motive := fun _ => Bool) false (fun _ _ _ => false) (fun _ _ a b => bif a then true else b) (fun _ _ _ a b => bif a then true else b)
    (fun _ _ b => b) (fun _ b => b) (fun _ _ _ _ _ _ => true) (fun _ => false) (fun _ b => b) (fun _ => false) (fun _ => false) false (fun _ => false) c
def exCode : Option Ex → Option Code
  | none => none
  | some (.exit i) => some (.exit i)
  | some .ret => some .ret
def finJ (N : Heap → Prop) (X : Nat → Heap → Prop) (R : Heap → Prop) : Option Ex → Heap → Prop
  | none => N
  | some (.exit i) => X i
  | some .ret => R
structure RangeP (P : Program) (fv : Value) (ks : List Kind) (h : Heap) (RT : Obj → Obj → Tup ks → (Option Ex → Heap → Prop) → Heap → Prop) (N : Heap → Prop) (X : Nat → Heap → Prop) (R : Heap → Prop) : Prop where
  run : ∀ lo : LoopState → Option Ex → Obj, (∀ s j, ∃ r, lo s j = .loop r) →
    (∀ x h' K, h'[h.size + 1]? = some (lo .ready none) →
      RT (lo .ready none) (lo .busy none) x (fun j h2 => h2[h.size + 1]? = some (lo .busy none) ∧ K j.isNone (h2.setIfInBounds (h.size + 1) (lo (if j.isNone then .ready else .done) j))) h' →
      HV P (.func (.yield (h.size + 1)) #[] #[]) (encs ks x) [.c .bool] K h') →
    ∃ f first cap, fv = .func (.func f) first cap ∧ HE P f (first.toList ++ [.func (.yield (h.size + 1)) #[] #[]] ++ cap.toList) []
      (fun _ h2 => ∃ s j, s ≠ .busy ∧ h2[h.size + 1]? = some (lo s j) ∧ finJ N X R j (h2.setIfInBounds (h.size + 1) (lo .exhausted j))) ((h.push (.deferred (some []))).push (lo .ready none))
def zipP : List Nat → List Value → Regs → Regs
  | i :: l, v :: vs, r => zipP l vs ((i, v) :: r)
  | _, _, r => r
noncomputable def sRound (P : Program) (N : Nat) (ps : List Nat) (ks : List Kind) (assign body : Code) (an : Ann) (r : Regs) (l : Nat) (rdy bz : Obj) (x : Tup ks) (k : Option Ex → Heap → Prop) (h : Heap) : Prop :=
  sCode P N assign an.l (fun r1 h1 => h1[l]? = some rdy ∧ sCode P N body an.r (fun _ h2 => k none h2) (fun e _ h2 => k (some e) h2) r1 (h1.setIfInBounds l bz)) (fun _ _ _ => False) (zipP ps (encs ks x) r) h
def natsLt (N : Nat) : List Nat → Bool
  | [] => true
  | n :: l => Nat.blt n N && natsLt N l
noncomputable def sSpine (P : Program) (N : Nat) (c : Code) : Ann → (List Nat → Regs → Heap → Prop) → (Ex → List Nat → Regs → Heap → Prop) → List Nat → Regs → Heap → Prop :=
  Code.rec (motive := fun _ => Ann → (List Nat → Regs → Heap → Prop) → (Ex → List Nat → Regs → Heap → Prop) → List Nat → Regs → Heap → Prop)
    (fun an Kn Kx ms r h => sCode P N .skip an (Kn ms) (fun e => Kx e ms) r h)
    (fun id ops dr an Kn Kx ms r h => sCode P N (.region id ops dr) an (Kn ms) (fun e => Kx e ms) r h)
    (fun a b iha ihb an Kn Kx ms r h => bif (bif hasRF a then true else hasRF b) then iha an.l (fun ms r' h' => ihb an.r Kn Kx ms r' h') Kx ms r h
      else sCode P N (.seq a b) an (Kn ms) (fun e => Kx e ms) r h)
    (fun c a b iha ihb an Kn Kx ms r h => bif (bif hasRF a then true else hasRF b) then
        (match reval r c with
         | some (.bool t) => CondP t (iha an.l Kn Kx ms r h) (ihb an.r Kn Kx ms r h)
         | _ => False)
      else sCode P N (.cond c a b) an (Kn ms) (fun e => Kx e ms) r h)
    (fun id b ih an Kn Kx ms r h => bif hasRF b then ih an Kn (fun e ms r' h' => match e with
        | .exit i => bif Nat.beq i id then Kn ms r' h' else Kx (.exit i) ms r' h'
        | .ret => Kx .ret ms r' h') ms r h
      else sCode P N (.block id b) an (Kn ms) (fun e => Kx e ms) r h)
    (fun b _ an Kn Kx ms r h => sCode P N (.loop b) an (Kn ms) (fun e => Kx e ms) r h)
    (fun g ps assign body _ _ an Kn Kx ms r h => match an with
      | .rf ks aa ab => bif natsLt N ps.toList && Nat.beq ps.toList.length ks.length then
        (match reval r g with
         | some fv => RangeP P fv ks h (fun rdy bz x k h' => sRound P N ps.toList ks assign body (.node aa ab) r (h.size + 1) rdy bz x k h')
            (fun h' => Kn (h.size :: ms) r h') (fun i h' => Kx (.exit i) (h.size :: ms) r h') (fun h' => Kx .ret (h.size :: ms) r h')
         | none => False) else False
      | _ => False)
    (fun id an Kn Kx ms r h => sCode P N (.exit id) an (Kn ms) (fun e => Kx e ms) r h)
    (fun _ _ _ _ _ _ _ _ => False)
    (fun l an Kn Kx ms r h => sCode P N (.label l) an (Kn ms) (fun e => Kx e ms) r h)
    (fun _ _ _ _ _ _ _ => False)
    (fun an Kn Kx ms r h => sCode P N .ret an (Kn ms) (fun e => Kx e ms) r h)
    (fun _ _ _ _ _ _ _ => False)
    c
def sShut : List Nat → (Heap → Prop) → Heap → Prop
  | [], K, h => K h
  | D :: ms, K, h => h[D]? = some (.deferred (some [])) ∧ sShut ms K (h.setIfInBounds D (.deferred none))
noncomputable def sBodyM (P : Program) (fn : Func) (c : Code) (an : Ann) (args : List Value) (ks : List Kind) (K : Tup ks → Heap → Prop) (h : Heap) : Prop :=
  sSpine P fn.ntmps c an
    (fun ms r h' => sShut ms (fun h' => resVals P r h' fn.results.toList fun vs => decs ks vs fun t => K t h') h')
    (fun e ms r h' => match e with
      | .ret => sShut ms (fun h' => resVals P r h' fn.results.toList fun vs => decs ks vs fun t => K t h') h'
      | .exit _ => False)
    [] (argRegs 0 args) h
end Go.Lift
/-
  What the predicates of LiftDefs come to in the model: kinds, registers, the operations that only read or reckon.
-/
namespace Go.Lift
open Go
theorem adr_zero (a : Addr) : adr a 0 = a := rfl
theorem adr_succ (a : Addr) (n : Nat) : adr a (n + 1) = ⟨a.block, a.off + (n + 1), none⟩ := rfl
theorem adr_eq (a : Addr) (n : Nat) : adr a n = a.add n := by
  cases n with
  | zero => simp [adr_zero, Addr.add]
  | succ n => simp [adr_succ, Addr.add]
theorem adr_adr (a : Addr) (m n : Nat) : adr (adr a m) n = adr a (m + n) := by
  cases n with
  | zero => rfl
  | succ n => cases m with
    | zero => simp [adr_zero]
    | succ m => rw [adr_succ, adr_succ, show m + 1 + (n + 1) = (m + 1 + n) + 1 from rfl, adr_succ]; simp; omega
theorem Tame.refl (w : World) : Tame w w := ⟨rfl, rfl, rfl⟩
theorem Tame.trans {a b c : World} (h : Tame a b) (k : Tame b c) : Tame a c := ⟨k.os.trans h.os, k.tape.trans h.tape, k.output.trans h.output⟩
theorem ikEq_iff {a b : IntKind} (h : ikEq a b = true) : a = b := by cases a <;> cases b <;> first | rfl | cases h
theorem CK.dec_sound {c : CK} {v : Value} {f : c.den → Prop} (h : c.dec v f) : ∃ x, v = c.enc x ∧ f x := by
  cases c <;> cases v <;> simp only [CK.dec] at h
  case int.int k k' n =>
    cases hk : ikEq k' k with
    | false => rw [hk] at h; exact h.elim
    | true => rw [hk] at h; have := ikEq_iff hk; subst this; exact ⟨n, rfl, h⟩
  all_goals first | exact h.elim | exact ⟨_, rfl, h⟩
theorem cDecs_sound : ∀ {cs : List CK} {vs : List Value} {f : CTup cs → Prop}, cDecs cs vs f → ∃ t, vs = cEncs cs t ∧ f t
  | [], [], f, h => ⟨(), rfl, h⟩
  | [], _ :: _, f, h => h.elim
  | [c], [v], f, h => by obtain ⟨x, rfl, hf⟩ := CK.dec_sound h; exact ⟨x, rfl, hf⟩
  | [c], [], f, h => h.elim
  | [c], _ :: _ :: _, f, h => h.elim
  | c :: d :: cs, [], f, h => h.elim
  | c :: d :: cs, [_], f, h => h.elim
  | c :: d :: cs, v :: u :: vs, f, h => by
    have h0 : c.dec v fun x => cDecs (d :: cs) (u :: vs) fun t => f (x, t) := h
    obtain ⟨x, hx, h1⟩ := CK.dec_sound h0
    obtain ⟨t, ht, h2⟩ := cDecs_sound (cs := d :: cs) (vs := u :: vs) h1
    exact ⟨(x, t), by rw [ht, hx]; rfl, h2⟩
theorem Kind.dec_sound {k : Kind} {v : Value} {f : k.den → Prop} (h : k.dec v f) : ∃ x, v = k.enc x ∧ f x := by
  cases k with
  | c k => exact CK.dec_sound h
  | agg cs =>
    cases v <;> simp only [Kind.dec] at h
    case agg vs =>
      obtain ⟨t, ht, hf⟩ := cDecs_sound h
      exact ⟨t, by simp only [Kind.enc, ← ht], hf⟩
theorem decs_sound : ∀ {ks : List Kind} {vs : List Value} {f : Tup ks → Prop}, decs ks vs f → ∃ t, vs = encs ks t ∧ f t
  | [], [], f, h => ⟨(), rfl, h⟩
  | [], _ :: _, f, h => h.elim
  | [c], [v], f, h => by obtain ⟨x, rfl, hf⟩ := Kind.dec_sound h; exact ⟨x, rfl, hf⟩
  | [c], [], f, h => h.elim
  | [c], _ :: _ :: _, f, h => h.elim
  | c :: d :: cs, [], f, h => h.elim
  | c :: d :: cs, [_], f, h => h.elim
  | c :: d :: cs, v :: u :: vs, f, h => by
    have h0 : c.dec v fun x => decs (d :: cs) (u :: vs) fun t => f (x, t) := h
    obtain ⟨x, hx, h1⟩ := Kind.dec_sound h0
    obtain ⟨t, ht, h2⟩ := decs_sound (ks := d :: cs) (vs := u :: vs) h1
    exact ⟨(x, t), by rw [ht, hx]; rfl, h2⟩
theorem encs_length : ∀ (ks : List Kind) (t : Tup ks), (encs ks t).length = ks.length
  | [], _ => rfl
  | [_], _ => rfl
  | _ :: l :: ks, (_, t) => by simp only [encs, List.length_cons, encs_length (l :: ks) t]
structure Agree (N : Nat) (r : Regs) (a : Act) : Prop where
  size : a.tmps.size = N
  look : ∀ t v, rlook r t = some v → a.tmps.getD t undef = v
theorem rlook_cons_eq (k : Nat) (v : Value) (r : Regs) : rlook ((k, v) :: r) k = some v := by rw [rlook_cons, show Nat.beq k k = true from Nat.beq_refl k]; rfl
theorem rlook_cons_ne {k t : Nat} (v : Value) (r : Regs) (h : k ≠ t) : rlook ((k, v) :: r) t = rlook r t := by
  rw [rlook_cons]; have : Nat.beq k t = false := Bool.eq_false_iff.2 fun e => h (Nat.eq_of_beq_eq_true e)
  rw [this]; rfl
theorem Agree.put {N : Nat} {r : Regs} {a : Act} (h : Agree N r a) (d : Nat) (v : Value) (hd : d < N) : Agree N ((d, v) :: r) (a.put (some d) v) := by
  refine ⟨by simp [Act.put, h.size], fun t u hu => ?_⟩
  by_cases e : d = t
  · subst e
    rw [rlook_cons_eq] at hu; cases hu
    simp [Act.put, h.size, hd]
  · rw [rlook_cons_ne v r e] at hu
    have := h.look t u hu
    simpa [Act.put, Array.getElem?_setIfInBounds_ne e] using this
theorem Agree.known {N : Nat} {r : Regs} {a : Act} (h : Agree N r a) {t : Nat} {v : Value} (hv : rlook r t = some v) : Agree N ((t, v) :: r) a := by
  refine ⟨h.size, fun s u hu => ?_⟩
  by_cases e : t = s
  · subst e; rw [rlook_cons_eq] at hu; cases hu; exact h.look t v hv
  · rw [rlook_cons_ne v r e] at hu; exact h.look s u hu
theorem reval_sound {N : Nat} {r : Regs} {a : Act} (h : Agree N r a) {o : Operand} {v : Value} (hv : reval r o = some v) : a.eval o = v := by
  cases o with
  | tmp t => exact h.look t v hv
  | const c => simp [reval] at hv; subst hv; rfl
  | global g => simp [reval] at hv; subst hv; rfl
  | func f => simp [reval] at hv; subst hv; rfl
theorem revals_sound {N : Nat} {r : Regs} {a : Act} (h : Agree N r a) : ∀ {os : List Operand} {vs : List Value}, revals r os = some vs → os.map a.eval = vs
  | [], vs, hv => by simp [revals] at hv; subst hv; rfl
  | o :: os, vs, hv => by
    simp only [revals] at hv
    cases ho : reval r o with
    | none => simp [ho] at hv
    | some v => cases hos : revals r os with
      | none => simp [ho, hos] at hv
      | some us => simp [ho, hos] at hv; subst hv; simp [reval_sound h ho, revals_sound h hos]
theorem run_underlying {P : Program} {t : TypeId} {d : TypeDesc} (h : P.underlying t = some d) (w : World) : (underlying t).run P w = .ok d w := by
  simp only [underlying, program, bind, Sem.bind, Sem.run, h, pure]
theorem run_typeInfo {P : Program} {t : TypeId} {i : TypeInfo} (h : P.info? t = some i) (w : World) : (typeInfo t).run P w = .ok i w := by
  simp only [typeInfo, program, bind, Sem.bind, Sem.run, h, pure]
theorem run_value {P : Program} {s : Sem Value} {v : Value} {w w' : World} (h : s.run P w = .ok v w') : (do pure (Next.value (← s)) : Sem Next).run P w = .ok (.value v) w' := by
  simp [h]
theorem run_skip {P : Program} {s : Sem Unit} {w w' : World} (h : s.run P w = .ok () w') : (do s; pure Next.skip : Sem Next).run P w = .ok .skip w' := by
  simp [h]
theorem run_loadCell {P : Program} {w : World} {a : Addr} {v : Value} (h : hcell w.heap a = some v) : (load a).run P w = .ok v w := by
  have h' : w.cell? a = some v := h
  simp [h']
theorem cellsAt_cons {v : Value} {vs : List Value} {i : Nat} {a : Addr} {h : Heap} : cellsAt (v :: vs) i a h ↔ hcell h (adr a i) = some v ∧ cellsAt vs (i + 1) a h := by
  cases vs with
  | nil => simp [cellsAt]
  | cons u us => rfl
theorem run_loadCellsFrom {P : Program} {w : World} {a : Addr} : ∀ (vs : List Value) (i : Nat) (acc : Array Value), cellsAt vs i a w.heap →
    (loadCellsFrom a i vs.length acc).run P w = .ok (acc ++ vs.toArray) w
  | [], i, acc, _ => by simp [loadCellsFrom]
  | v :: vs, i, acc, h => by
    obtain ⟨h1, h2⟩ := cellsAt_cons.1 h
    rw [adr_eq] at h1
    have := run_loadCellsFrom (P := P) (w := w) (a := a) vs (i + 1) (acc.push v) h2
    simp only [List.length_cons, loadCellsFrom, Sem.run_bind, run_loadCell h1, Result.andThen_ok, this]
    simp
theorem run_loadCells {P : Program} {w : World} {a : Addr} {vs : List Value} (h : cellsAt vs 0 a w.heap) : (loadCells a vs.length).run P w = .ok vs.toArray w := by
  have := run_loadCellsFrom (P := P) (w := w) (a := a) vs 0 #[] h
  simpa [loadCells] using this
theorem exCells_sound : ∀ (cs : List CK) (i : Nat) (a : Addr) (h : Heap) (k : List Value → Prop), exCells cs i a h k → ∃ vs, vs.length = cs.length ∧ cellsAt vs i a h ∧ k vs
  | [], i, a, h, k, hk => ⟨[], rfl, trivial, hk⟩
  | c :: cs, i, a, h, k, hk => by
    obtain ⟨x, hx, hk⟩ := hk
    obtain ⟨vs, hl, hc, hk⟩ := exCells_sound cs (i + 1) a h _ hk
    exact ⟨c.enc x :: vs, by simp [hl], cellsAt_cons.2 ⟨hx, hc⟩, hk⟩
theorem cksOf_length : ∀ {vs : List Value} {cs : List CK}, cksOf vs = some cs → cs.length = vs.length
  | [], cs, h => by simp [cksOf] at h; subst h; rfl
  | v :: vs, cs, h => by
    simp only [cksOf] at h
    cases h1 : ckOf v with
    | none => simp [h1] at h
    | some c => cases h2 : cksOf vs with
      | none => simp [h1, h2] at h
      | some ds => simp [h1, h2] at h; subst h; simp [cksOf_length h2]
def KindFits (P : Program) (t : TypeId) (i : TypeInfo) : Kind → Prop
  | .c _ => aggT P t = false
  | .agg cs => aggT P t = true ∧ i.size = cs.length
theorem kindZ_some {P : Program} {t : TypeId} {k : Kind} (h : kindZ P t = some k) : ∃ i, P.info? t = some i ∧ KindFits P t i k := by
  unfold kindZ zeroT at h
  cases hi : P.info? t with
  | none => simp [hi] at h
  | some i =>
    refine ⟨i, rfl, ?_⟩
    cases hz : i.zero with
    | none => simp [hi, hz] at h
    | some z =>
      rw [hi] at h
      simp only [hz] at h
      cases z
      case agg vs =>
        simp only at h
        cases hb : (aggT P t && Nat.beq vs.toList.length (sizeT P t)) with
        | false => rw [hb] at h; simp at h
        | true =>
          rw [hb] at h
          simp only [cond_true] at h
          simp only [Bool.and_eq_true] at hb
          have hs := Nat.eq_of_beq_eq_true hb.2
          cases hd : cksOf vs.toList with
          | none => rw [hd] at h; simp at h
          | some ds =>
            rw [hd] at h
            simp only [Option.some.injEq] at h
            subst h
            exact ⟨hb.1, by rw [cksOf_length hd, hs]; simp [sizeT, hi]⟩
      all_goals
        simp only at h
        cases ha : aggT P t
        · rw [ha] at h
          simp only [cond_false] at h
          split at h
          · simp only [Option.some.injEq] at h; subst h; exact ha
          · simp at h
        · rw [ha] at h; simp at h
theorem kindT_some {P : Program} {t : TypeId} {k : Kind} (h : kindT P t = some k) : (∀ w, (isAgg t).run P w = .ok (aggT P t) w) ∧ kindZ P t = some k := by
  unfold kindT at h
  cases hu : P.underlying t with
  | none => simp [hu] at h
  | some d =>
    simp only [hu] at h
    refine ⟨fun w => ?_, h⟩
    simp only [isAgg, Sem.run_bind, run_underlying hu, Result.andThen_ok]
    unfold aggT; rw [hu]
    cases d <;> rfl
theorem rLoad_sound {P : Program} {t : TypeId} {v : Value} {K : RK} {h : Heap} (hl : rLoad P t v K h) :
    ∃ u S, K u (some S) ∧ S h ∧ ∀ w : World, S w.heap → (Instr.loadAt t v).run P w = .ok u w := by
  unfold rLoad at hl
  cases v with
  | pointer p =>
    cases p with
    | none => exact hl.elim
    | some a =>
      simp only at hl
      cases hk : kindT P t with
      | none => simp [hk] at hl
      | some k =>
        obtain ⟨hagg, hz⟩ := kindT_some hk
        obtain ⟨i, hi, hc⟩ := kindZ_some hz
        rw [hk] at hl
        cases k with
        | c c =>
          obtain ⟨x, hx, hK⟩ := hl
          refine ⟨_, _, hK, hx, fun w hw => ?_⟩
          have hc : aggT P t = false := hc
          simp only [Instr.loadAt, Instr.sureAddr, loadVar, Sem.run_bind, Sem.run_pure, Result.andThen_ok, hagg, hc]
          simp [run_loadCell hw]
        | agg cs =>
          obtain ⟨vs, hlen, hcs, hK⟩ := exCells_sound cs 0 a h _ hl
          obtain ⟨h1, h2⟩ : aggT P t = true ∧ i.size = cs.length := hc
          refine ⟨_, _, hK, hcs, fun w hw => ?_⟩
          have hz : (sizeOf t).run P w = .ok vs.length w := by simp [sizeOf, run_typeInfo hi, h2, hlen]
          simp only [Instr.loadAt, Instr.sureAddr, loadVar, Sem.run_bind, Sem.run_pure, Result.andThen_ok, hagg, h1]
          simp [hz, run_loadCells hw]
  | _ => exact hl.elim
end Go.Lift
