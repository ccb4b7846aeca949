/- What each kind of operation does, over known slots. Holds for every program. -/
import Derived.Test.YtfjjocopmknhgaaSteps
import Derived.Laws.Bits
namespace Go.Sep
open Go
set_option linter.unusedSimpArgs false
set_option linter.unusedVariables false

abbrev K := World → Prop
def callable (P : Program) (f : FuncId) : Bool := match P.funcs[f]? with
  | some fn => fn.name != "runtime.NumGoroutine" && fn.body.isSome
  | none => false

/-! ### words of a function's plain form -/
/-- A step of the model that may read and write; its value is of the form c. -/
def Do {α β : Type} (P : Program) (s : Sem β) (c : α → β) (k : α → K) : K := fun w => ∃ x w', s.run P w = .ok (c x) w' ∧ k x w'
def Ld {α : Type} (a : Addr) (c : α → Value) (k : α → K) : K := fun w => ∃ x, w.cell? a = some (c x) ∧ k x w
def RdN (w : World) (a : Addr) (cs : Array Value) : Prop := ∀ i, i < cs.size → w.cell? (a.add i) = cs[i]?
def LdN (a : Addr) (n : Nat) (k : Array Value → K) : K := fun w => ∃ cs : Array Value, cs.size = n ∧ RdN w a cs ∧ k cs w
def flatV : Value → Bool
  | .agg _ | .tuple _ => false
  | _ => true
def St (a : Addr) (v : Value) (k : K) : K := fun w => ∃ w', w' = w.setCell a v ∧ (∃ u, w.cell? a = some u) ∧ w.frozen? a = false ∧ flatV v = true ∧ k w'
def setCells (a : Addr) : List Value → Nat → World → World
  | [], _, w => w
  | v :: vs, i, w => setCells a vs (i + 1) (w.setCell (a.add i) v)
def StN (a : Addr) (n : Nat) (cs : Array Value) (k : K) : K := fun w => ∃ w', w' = setCells a cs.toList 0 w ∧ cs.size = n ∧
  (∀ i, i < cs.size → (∃ u, w.cell? (a.add i) = some u) ∧ w.frozen? (a.add i) = false) ∧ (∀ v ∈ cs.toList, flatV v = true) ∧ k w'
def New (T : TypeId) (cs : Array Value) (k : Addr → K) : K := fun w => ∃ a w', a = ⟨w.heap.size, 0, none⟩ ∧ w' = { w with heap := w.heap.push (.cells cs T) } ∧ k a w'
def CallF (P : Program) (f : FuncId) (args : Array Value) (k : Value → K) : K := fun w => Calls P f args w (Ret k)
/-- A number that is reckoned. -/
def Ar (e : Int) (k : Int → K) : K := fun w => ∃ t, t = e ∧ k t w
def Do2 {α β γ : Type} (P : Program) (s : Sem γ) (c : α → β → γ) (k : α → β → K) : K := fun w => ∃ x y w', s.run P w = .ok (c x y) w' ∧ k x y w'
def DoU (P : Program) (s : Sem Unit) (k : K) : K := fun w => ∃ u w', s.run P w = .ok u w' ∧ k w'
/-- A step that leaves the world. -/
def Rd {α : Type} (P : Program) (s : Sem Value) (c : α → Value) (k : α → K) : K := fun w => ∃ x, s.run P w = .ok (c x) w ∧ k x w
def Rd2 {α β : Type} (P : Program) (s : Sem Value) (c : α → β → Value) (k : α → β → K) : K := fun w => ∃ x y, s.run P w = .ok (c x y) w ∧ k x y w
/-- A step that looks at no world. -/
def Pu {α : Type} (P : Program) (s : Sem Value) (c : α → Value) (k : α → K) : K := fun w => ∃ x, (∀ w, s.run P w = .ok (c x) w) ∧ k x w
def Cd (p : Prop) (k : K) : K := fun w => p ∧ k w
def Ite (b : Bool) (x y : K) : K := fun w => (b = true → x w) ∧ (b = false → y w)
def Fv (P : Program) (f : Value) (k : FuncId → Array Value → Array Value → K) : K := fun w => ∃ g fs cs, f = .func (.func g) fs cs ∧ callable P g = true ∧ k g fs cs w
/-- A call of a function value. -/
def CallV (P : Program) (f : Value) (args : List Value) (k : Value → K) : K := fun w =>
  ∃ g fs cs, f = .func (.func g) fs cs ∧ callable P g = true ∧ Calls P g (fs ++ args.toArray ++ cs) w (Ret k)
def Ans0 (v0 : Value) (k : K) : Value → K := fun v w => v = v0 ∧ k w
def Ans1 {α : Type} (c : α → Value) (k : α → K) : Value → K := fun v w => ∃ x, v = c x ∧ k x w
def Ans2 {α β : Type} (c : α → β → Value) (k : α → β → K) : Value → K := fun v w => ∃ x y, v = c x y ∧ k x y w
def Ans3 {α β γ : Type} (c : α → β → γ → Value) (k : α → β → γ → K) : Value → K := fun v w => ∃ x y z, v = c x y z ∧ k x y z w
def Ext {α : Type} (t : Value) (i : Nat) (c : α → Value) (k : α → K) : K := fun w => ∃ vs x, t = .tuple vs ∧ vs[i]? = some (c x) ∧ k x w
def Dead : K := fun _ => False
/-- The order of what follows is drawn. -/
def Dr (k : K) : K := fun w => ∃ w', w' = { w with drawn := w.drawn + 1 } ∧ k w'
def WithS (k : (World → Prop) → K) : K := fun w => ∃ S : World → Prop, S w ∧ k S w
def Sv (S : World → Prop) (k : K) : K := fun w => S w ∧ k w
def LdS {α : Type} (S : World → Prop) (a : Addr) (c : α → Value) (k : α → K) : K := fun w => ∃ x, (∀ w, S w → w.cell? a = some (c x)) ∧ k x w
def LdNS (S : World → Prop) (a : Addr) (n : Nat) (k : Array Value → K) : K := fun w => ∃ cs : Array Value, cs.size = n ∧ (∀ w, S w → RdN w a cs) ∧ k cs w
def RdS {α : Type} (P : Program) (S : World → Prop) (s : Sem Value) (c : α → Value) (k : α → K) : K := fun w => ∃ x, (∀ w, S w → s.run P w = .ok (c x) w) ∧ k x w
def Rd2S {α β : Type} (P : Program) (S : World → Prop) (s : Sem Value) (c : α → β → Value) (k : α → β → K) : K := fun w => ∃ x y, (∀ w, S w → s.run P w = .ok (c x y) w) ∧ k x y w
def Nn (p : Option Addr) (k : Addr → K) : K := fun w => ∃ a, p = some a ∧ k a w
def Idx (s : Sl) (i : Int) (esz : Nat) (k : Addr → K) : K := fun w => ∃ a t, s.a = some a ∧ 0 ≤ i ∧ i < s.n ∧ t = a.add (i.toNat * esz) ∧ k t w
def IdxA (a : Addr) (len : Nat) (i : Int) (esz : Nat) (k : Addr → K) : K := fun w => ∃ t, 0 ≤ i ∧ i < len ∧ t = a.add (i.toNat * esz) ∧ k t w
def IdxS (s : ByteArray) (i : Int) (k : Int → K) : K := fun w => ∃ (t : Int) (b : UInt8), 0 ≤ i ∧ s[i.toNat]? = some b ∧ t = (b.toNat : Int) ∧ k t w
def Fld {α : Type} (cs : Array Value) (off : Nat) (c : α → Value) (k : α → K) : K := fun w => ∃ x, cs[off]? = some (c x) ∧ k x w
def Bld (zero : Array Value) (place : Nat → Option (Nat × Nat)) (parts : List (Nat × Value)) (k : Array Value → K) : K := fun w =>
  ∃ cs, Instr.fill place zero parts = some cs ∧ k cs w
def cutA (a : Option Addr) (l m esz : Nat) : Option Addr := if m = l then a else a.map (·.add (l * esz))
/-- s[lo:hi:mx] of a slice. -/
def Slc (s : Sl) (lo hi mx : Int) (esz : Nat) (k : Sl → K) : K := fun w =>
  ∃ t, 0 ≤ lo ∧ lo ≤ hi ∧ hi ≤ mx ∧ mx ≤ s.c ∧ t = ⟨cutA s.a lo.toNat mx.toNat esz, hi.toNat - lo.toNat, mx.toNat - lo.toNat⟩ ∧ k t w
def SlcS (s : ByteArray) (lo hi : Int) (k : ByteArray → K) : K := fun w =>
  ∃ t, 0 ≤ lo ∧ lo ≤ hi ∧ hi ≤ s.size ∧ t = s.extract lo.toNat hi.toNat ∧ k t w
def Cat (a b : ByteArray) (k : ByteArray → K) : K := fun w => ∃ t, ((a.size + b.size : Nat) : Int) ≤ 9223372036854775807 ∧ t = a ++ b ∧ k t w
/-- Each of several goes. -/
def All (l : List (World → Prop)) : K := fun w => ∀ (i : Nat) (x : World → Prop), l[i]? = some x → x w

/-! ### facts of a program's tables, as Bools -/
def cellT (P : Program) (T : TypeId) : Bool := match P.underlying T with
  | some (.struct _) | some (.array _ _) | none => false
  | some _ => true
def aggT (P : Program) (T : TypeId) (n : Nat) : Bool := match P.underlying T with
  | some (.struct _) | some (.array _ _) => (P.info? T).map (·.size) == some n
  | _ => false
def sizeT (P : Program) (T : TypeId) (n : Nat) : Bool := (P.info? T).map (·.size) == some n
def sliceT (P : Program) (T E : TypeId) (esz : Nat) : Bool := match P.underlying T with
  | some (.slice e) => e == E && (P.info? E).map (·.size) == some esz
  | _ => false
def arrayT (P : Program) (T E : TypeId) (len esz : Nat) : Bool := match P.underlying T with
  | some (.array n e) => n == len && e == E && (P.info? E).map (·.size) == some esz
  | _ => false
def stringT (P : Program) (T : TypeId) : Bool := match P.underlying T with | some .string => true | _ => false
def intT (P : Program) (T : TypeId) (k : IntKind) : Bool := match P.underlying T with | some (.int k') => k == k' | _ => false
def fieldT (P : Program) (S i off n : Nat) : Bool := match P.underlying S with
  | some (.struct fs) => match fs[i]? with
    | some f => f.offset == off && n != 0 && (P.info? f.type).map (·.size) == some n
    | none => false
  | _ => false
/-- Field i of the struct S is one cell at off. -/
def fieldC (P : Program) (S i off : Nat) : Bool := match P.underlying S with
  | some (.struct fs) => match fs[i]? with
    | some f => f.offset == off && cellT P f.type
    | none => false
  | _ => false
/-- Field i of the struct S are n cells from off on. -/
def fieldN (P : Program) (S i off n : Nat) : Bool := match P.underlying S with
  | some (.struct fs) => match fs[i]? with
    | some f => f.offset == off && aggT P f.type n
    | none => false
  | _ => false

section
variable {P : Program} {w : World}
theorem cellT_spec {T : TypeId} (h : cellT P T = true) : (isAgg T).run P w = .ok false w := by
  unfold cellT at h
  unfold isAgg underlying program
  cases hu : P.underlying T with
  | none => simp [hu] at h
  | some d => cases d <;> simp [hu, Sem.run, Sem.run_bind'] at h ⊢ <;> simp_all [bind, Sem.bind, Sem.run, pure]
theorem aggT_spec {T n : Nat} (h : aggT P T n = true) : (isAgg T).run P w = .ok true w ∧ (sizeOf T).run P w = .ok n w := by
  unfold aggT at h
  unfold isAgg sizeOf typeInfo underlying program
  cases hi : P.info? T with
  | none => cases hu : P.underlying T with
    | none => simp [hu] at h
    | some d => cases d <;> simp [hu, hi] at h
  | some i => cases hu : P.underlying T with
    | none => simp [hu] at h
    | some d => cases d <;> simp [hu, hi] at h ⊢ <;> simp_all [bind, Sem.bind, Sem.run, pure]
theorem sizeT_spec {T n : Nat} (h : sizeT P T n = true) : (sizeOf T).run P w = .ok n w := by
  unfold sizeT at h
  unfold sizeOf typeInfo program
  cases hi : P.info? T with
  | none => simp [hi] at h
  | some i => simp [hi] at h ⊢; simp_all [bind, Sem.bind, Sem.run, pure]
theorem sliceT_spec {T E esz : Nat} (h : sliceT P T E esz = true) : P.underlying T = some (.slice E) ∧ sizeT P E esz = true := by
  unfold sliceT at h
  split at h
  · rename_i e he; simp at h; obtain ⟨rfl, h⟩ := h; exact ⟨he, by unfold sizeT; simpa using h⟩
  · cases h
theorem arrayT_spec {T E len esz : Nat} (h : arrayT P T E len esz = true) : P.underlying T = some (.array len E) ∧ sizeT P E esz = true := by
  unfold arrayT at h
  split at h
  · rename_i n e he; simp at h; obtain ⟨⟨rfl, rfl⟩, h⟩ := h; exact ⟨he, by unfold sizeT; simpa using h⟩
  · cases h
theorem stringT_spec {T : Nat} (h : stringT P T = true) : P.underlying T = some .string := by
  unfold stringT at h; split at h
  · assumption
  · cases h
theorem intT_spec {T : Nat} {k : IntKind} (h : intT P T k = true) : P.underlying T = some (.int k) := by
  unfold intT at h; split at h
  · rename_i k' hk; simp at h; subst h; exact hk
  · cases h
theorem run_underlying {T : TypeId} {d : TypeDesc} (h : P.underlying T = some d) : (underlying T).run P w = .ok d w := by
  simp [underlying, program, h, Sem.run]
end

theorem Pure.adr {P : Program} {σ : List (Nat × Value)} {o : Oper} {t e : Addr} (he : t = e) (h : Pure P σ o (.pointer (some e))) : Pure P σ o (.pointer (some t)) := he ▸ h
theorem Pure.sl {P : Program} {σ : List (Nat × Value)} {o : Oper} {t e : Sl} (he : t = e) (h : Pure P σ o e.val) : Pure P σ o t.val := he ▸ h
theorem Pure.str {P : Program} {σ : List (Nat × Value)} {o : Oper} {t e : ByteArray} (he : t = e) (h : Pure P σ o (.string e)) : Pure P σ o (.string t) := he ▸ h
theorem Pure.int {P : Program} {σ : List (Nat × Value)} {o : Oper} {k : IntKind} {t e : Int} (he : t = e) (h : Pure P σ o (.int k e)) : Pure P σ o (.int k t) := he ▸ h

section
variable {P : Program} {σ : List (Nat × Value)} {o : Oper} {x y : Operand} {w : World}

/-! ### operations that leave the world -/
theorem p_move {v : Value} (ho : o.op = .move x) (hx : ev σ x = some v) : Pure P σ o v := fun a n hs w => by
  simp [execOp, ho, hs.ev hx]
theorem p_assign {v : Value} (ho : o.op = .assign x) (hx : ev σ x = some v) : Pure P σ o v := fun a n hs w => by
  simp [execOp, ho, hs.ev hx]
theorem p_pick_t {c : Operand} {v : Value} (ho : o.op = .pick c x y) (hc : ev σ c = some (.bool true)) (hx : ev σ x = some v) : Pure P σ o v := fun a n hs w => by
  simp [execOp, ho, hs.ev hx, hs.ev hc, asBool]
theorem p_pick_f {c : Operand} {v : Value} (ho : o.op = .pick c x y) (hc : ev σ c = some (.bool false)) (hy : ev σ y = some v) : Pure P σ o v := fun a n hs w => by
  simp [execOp, ho, hs.ev hy, hs.ev hc, asBool]
theorem p_pick_b {c : Operand} {b p q : Bool} (ho : o.op = .pick c x y) (hc : ev σ c = some (.bool b)) (hx : ev σ x = some (.bool p)) (hy : ev σ y = some (.bool q)) : Pure P σ o (.bool (bif b then p else q)) := fun a n hs w => by
  cases b <;> simp [execOp, ho, hs.ev hx, hs.ev hy, hs.ev hc, asBool]
theorem p_nil {a : Addr} (ho : o.op = .nilCheck x) (hx : ev σ x = some (.pointer (some a))) : Pure P σ o (.pointer (some a)) := fun _ n hs w => by
  simp [execOp, ho, hs.ev hx]
theorem p_nilf {f : FuncId} {c d : Array Value} (ho : o.op = .nilCheck x) (hx : ev σ x = some (.func (.func f) c d)) : Pure P σ o (.func (.func f) c d) := fun _ n hs w => by
  simp [execOp, ho, hs.ev hx]
theorem p_fieldAddr {S i off n : Nat} {a : Addr} (ho : o.op = .fieldAddr S x i) (hx : ev σ x = some (.pointer (some a))) (hf : fieldT P S i off n = true) : Pure P σ o (.pointer (some (a.add off))) := fun _ _ hs w => by
  unfold fieldT at hf
  split at hf
  · rename_i fs hS
    split at hf
    · rename_i f hfi
      simp at hf
      obtain ⟨⟨h1, h2⟩, h3⟩ := hf
      have hz : (sizeOf f.type).run P w = .ok n w := sizeT_spec (by unfold sizeT; simpa using h3)
      simp [execOp, ho, hs.ev hx, Instr.fieldAt, run_underlying hS, hfi, Instr.sureAddr, fieldPlace, hz, h2, h1]
    · cases hf
  · cases hf
theorem p_fieldAddr0 {S i n : Nat} {a : Addr} (ho : o.op = .fieldAddr S x i) (hx : ev σ x = some (.pointer (some a))) (hf : fieldT P S i 0 n = true) : Pure P σ o (.pointer (some a)) := by
  simpa [Addr.add] using p_fieldAddr ho hx hf
theorem p_field {S i off : Nat} {cs : Array Value} {v : Value} (ho : o.op = .field S x i) (hx : ev σ x = some (.agg cs)) (hf : fieldC P S i off = true) (hv : cs[off]? = some v) : Pure P σ o v := fun _ _ hs w => by
  unfold fieldC at hf
  split at hf
  · rename_i fs hS
    split at hf
    · rename_i f hfi
      simp at hf
      obtain ⟨h1, h2⟩ := hf
      subst h1
      simp [execOp, ho, hs.ev hx, Instr.field, run_underlying hS, hfi, asAgg, part, cellT_spec h2, hv]
    · cases hf
  · cases hf
theorem p_fieldN {S i off n : Nat} {cs : Array Value} (ho : o.op = .field S x i) (hx : ev σ x = some (.agg cs)) (hf : fieldN P S i off n = true) : Pure P σ o (.agg (cs.extract off (off + n))) := fun _ _ hs w => by
  unfold fieldN at hf
  split at hf
  · rename_i fs hS
    split at hf
    · rename_i f hfi
      simp at hf
      obtain ⟨h1, h2⟩ := hf
      subst h1
      simp [execOp, ho, hs.ev hx, Instr.field, run_underlying hS, hfi, asAgg, part, (aggT_spec h2).1, (aggT_spec h2).2]
    · cases hf
  · cases hf

section ints
variable {T U : TypeId} {k : IntKind} {a b : Int}
theorem p_add (ho : o.op = .binOp .add T x y U) (hx : ev σ x = some (.int k a)) (hy : ev σ y = some (.int k b)) : Pure P σ o (.int k (k.wrap (a + b))) := fun _ _ hs w => by
  simp [execOp, ho, hs.ev hx, hs.ev hy, eqGuard, binOp, Op.intArith]
theorem p_sub (ho : o.op = .binOp .sub T x y U) (hx : ev σ x = some (.int k a)) (hy : ev σ y = some (.int k b)) : Pure P σ o (.int k (k.wrap (a - b))) := fun _ _ hs w => by
  simp [execOp, ho, hs.ev hx, hs.ev hy, eqGuard, binOp, Op.intArith]
theorem p_mul (ho : o.op = .binOp .mul T x y U) (hx : ev σ x = some (.int k a)) (hy : ev σ y = some (.int k b)) : Pure P σ o (.int k (k.wrap (a * b))) := fun _ _ hs w => by
  simp [execOp, ho, hs.ev hx, hs.ev hy, eqGuard, binOp, Op.intArith]
theorem p_quo (ho : o.op = .binOp .quo T x y U) (hx : ev σ x = some (.int k a)) (hy : ev σ y = some (.int k b)) (hb : b ≠ 0) : Pure P σ o (.int k (k.wrap (a.tdiv b))) := fun _ _ hs w => by
  simp [execOp, ho, hs.ev hx, hs.ev hy, eqGuard, binOp, Op.intDiv, hb]
theorem p_rem (ho : o.op = .binOp .rem T x y U) (hx : ev σ x = some (.int k a)) (hy : ev σ y = some (.int k b)) (hb : b ≠ 0) : Pure P σ o (.int k (a.tmod b)) := fun _ _ hs w => by
  simp [execOp, ho, hs.ev hx, hs.ev hy, eqGuard, binOp, Op.intDiv, hb]
theorem p_eq (ho : o.op = .binOp .eql T x y U) (hx : ev σ x = some (.int k a)) (hy : ev σ y = some (.int k b)) : Pure P σ o (.bool (decide (a = b))) := fun _ _ hs w => by
  simp [execOp, ho, hs.ev hx, hs.ev hy, eqGuard, binOp, Op.intCmp]; rfl
theorem p_ne (ho : o.op = .binOp .neq T x y U) (hx : ev σ x = some (.int k a)) (hy : ev σ y = some (.int k b)) : Pure P σ o (.bool (decide (a ≠ b))) := fun _ _ hs w => by
  by_cases h : a = b <;> simp [execOp, ho, hs.ev hx, hs.ev hy, eqGuard, binOp, Op.intCmp, h]
theorem p_lt (ho : o.op = .binOp .lss T x y U) (hx : ev σ x = some (.int k a)) (hy : ev σ y = some (.int k b)) : Pure P σ o (.bool (decide (a < b))) := fun _ _ hs w => by
  simp [execOp, ho, hs.ev hx, hs.ev hy, eqGuard, binOp, Op.intCmp]
theorem p_le (ho : o.op = .binOp .leq T x y U) (hx : ev σ x = some (.int k a)) (hy : ev σ y = some (.int k b)) : Pure P σ o (.bool (decide (a ≤ b))) := fun _ _ hs w => by
  simp [execOp, ho, hs.ev hx, hs.ev hy, eqGuard, binOp, Op.intCmp]
theorem p_gt (ho : o.op = .binOp .gtr T x y U) (hx : ev σ x = some (.int k a)) (hy : ev σ y = some (.int k b)) : Pure P σ o (.bool (decide (b < a))) := fun _ _ hs w => by
  simp [execOp, ho, hs.ev hx, hs.ev hy, eqGuard, binOp, Op.intCmp]
theorem p_ge (ho : o.op = .binOp .geq T x y U) (hx : ev σ x = some (.int k a)) (hy : ev σ y = some (.int k b)) : Pure P σ o (.bool (decide (b ≤ a))) := fun _ _ hs w => by
  simp [execOp, ho, hs.ev hx, hs.ev hy, eqGuard, binOp, Op.intCmp]
def bitsOf (op : BinOp) (k : IntKind) (a b : Int) : Int :=
  let u := BitVec.ofInt k.bits a
  let v := BitVec.ofInt k.bits b
  k.wrap (match op with | .and => (u &&& v).toNat | .or => (u ||| v).toNat | .xor => (u ^^^ v).toNat | _ => (u &&& ~~~v).toNat)
theorem p_and (ho : o.op = .binOp .and T x y U) (hx : ev σ x = some (.int k a)) (hy : ev σ y = some (.int k b)) : Pure P σ o (.int k (bitsOf .and k a b)) := fun _ _ hs w => by
  simp [execOp, ho, hs.ev hx, hs.ev hy, eqGuard, binOp, Op.intBits, bitsOf]
theorem p_or (ho : o.op = .binOp .or T x y U) (hx : ev σ x = some (.int k a)) (hy : ev σ y = some (.int k b)) : Pure P σ o (.int k (bitsOf .or k a b)) := fun _ _ hs w => by
  simp [execOp, ho, hs.ev hx, hs.ev hy, eqGuard, binOp, Op.intBits, bitsOf]
theorem p_xor (ho : o.op = .binOp .xor T x y U) (hx : ev σ x = some (.int k a)) (hy : ev σ y = some (.int k b)) : Pure P σ o (.int k (bitsOf .xor k a b)) := fun _ _ hs w => by
  simp [execOp, ho, hs.ev hx, hs.ev hy, eqGuard, binOp, Op.intBits, bitsOf]
def shlOf (k : IntKind) (a b : Int) : Int := k.wrap (a * 2 ^ (min b.toNat k.bits))
def shrOf (k : IntKind) (a b : Int) : Int := a.fdiv (2 ^ (min b.toNat k.bits))
theorem p_shl {j : IntKind} (ho : o.op = .binOp .shl T x y U) (hx : ev σ x = some (.int k a)) (hy : ev σ y = some (.int j b)) (hb : 0 ≤ b) : Pure P σ o (.int k (shlOf k a b)) := fun _ _ hs w => by
  simp [execOp, ho, hs.ev hx, hs.ev hy, eqGuard, binOp, Op.shift, shlOf, show ¬ b < 0 by omega]
theorem p_shr {j : IntKind} (ho : o.op = .binOp .shr T x y U) (hx : ev σ x = some (.int k a)) (hy : ev σ y = some (.int j b)) (hb : 0 ≤ b) : Pure P σ o (.int k (shrOf k a b)) := fun _ _ hs w => by
  simp [execOp, ho, hs.ev hx, hs.ev hy, eqGuard, binOp, Op.shift, shrOf, show ¬ b < 0 by omega]
theorem p_neg (ho : o.op = .unOp .neg T x) (hx : ev σ x = some (.int k a)) : Pure P σ o (.int k (k.wrap (0 - a))) := fun _ _ hs w => by
  simp [execOp, ho, hs.ev hx, Op.unary, Op.intArith]
theorem p_com (ho : o.op = .unOp .xor T x) (hx : ev σ x = some (.int k a)) : Pure P σ o (.int k (bitsOf .xor k (if k.signed then -1 else k.max) a)) := fun _ _ hs w => by
  simp [execOp, ho, hs.ev hx, Op.unary, Op.intBits, bitsOf]
theorem p_conv_int {j : IntKind} (ho : o.op = .convert T U x) (hx : ev σ x = some (.int k a)) (hT : intT P T k = true) (hU : intT P U j = true) : Pure P σ o (.int j (j.wrap a)) := fun _ _ hs w => by
  simp [execOp, ho, hs.ev hx, convert, run_underlying (intT_spec hT), run_underlying (intT_spec hU), Conv.intToInt]
theorem p_max (t : Array TypeId) (ho : o.op = .call { callee := .builtin .max, args := #[x, y], argTypes := t }) (hx : ev σ x = some (.int k a)) (hy : ev σ y = some (.int k b)) : Pure P σ o (.int k (if b > a then b else a)) := fun _ _ hs w => by
  simp [execOp, ho, hs.ev hx, hs.ev hy, resolve, invoke, builtin, Builtin.max_, Builtin.max2]
theorem p_min (t : Array TypeId) (ho : o.op = .call { callee := .builtin .min, args := #[x, y], argTypes := t }) (hx : ev σ x = some (.int k a)) (hy : ev σ y = some (.int k b)) : Pure P σ o (.int k (if b < a then b else a)) := fun _ _ hs w => by
  simp [execOp, ho, hs.ev hx, hs.ev hy, resolve, invoke, builtin, Builtin.min_, Builtin.min2]
end ints

theorem p_not {T : TypeId} {b : Bool} (ho : o.op = .unOp .not T x) (hx : ev σ x = some (.bool b)) : Pure P σ o (.bool (!b)) := fun _ _ hs w => by
  simp [execOp, ho, hs.ev hx, Op.unary]
section strings
variable {T U : TypeId} {a b : ByteArray}
theorem p_eqs (ho : o.op = .binOp .eql T x y U) (hx : ev σ x = some (.string a)) (hy : ev σ y = some (.string b)) : Pure P σ o (.bool (a.toList == b.toList)) := fun _ _ hs w => by
  simp [execOp, ho, hs.ev hx, hs.ev hy, eqGuard, binOp, Op.stringOp]
theorem p_nes (ho : o.op = .binOp .neq T x y U) (hx : ev σ x = some (.string a)) (hy : ev σ y = some (.string b)) : Pure P σ o (.bool (!(a.toList == b.toList))) := fun _ _ hs w => by
  simp [execOp, ho, hs.ev hx, hs.ev hy, eqGuard, binOp, Op.stringOp]
theorem p_lts (ho : o.op = .binOp .lss T x y U) (hx : ev σ x = some (.string a)) (hy : ev σ y = some (.string b)) : Pure P σ o (.bool (Op.bytesLess a.toList b.toList)) := fun _ _ hs w => by
  simp [execOp, ho, hs.ev hx, hs.ev hy, eqGuard, binOp, Op.stringOp]
theorem p_gts (ho : o.op = .binOp .gtr T x y U) (hx : ev σ x = some (.string a)) (hy : ev σ y = some (.string b)) : Pure P σ o (.bool !(Op.bytesLess a.toList b.toList || a.toList == b.toList)) := fun _ _ hs w => by
  simp [execOp, ho, hs.ev hx, hs.ev hy, eqGuard, binOp, Op.stringOp]
theorem p_cats (ho : o.op = .binOp .add T x y U) (hx : ev σ x = some (.string a)) (hy : ev σ y = some (.string b)) (hl : ((a.size + b.size : Nat) : Int) ≤ 9223372036854775807) : Pure P σ o (.string (a ++ b)) := fun _ _ hs w => by
  have : ¬ ((a.size + b.size : Nat) : Int) > IntKind.i64.max := by simp [IntKind.max, IntKind.signed, IntKind.bits]; omega
  simp only [execOp, ho, hs.ev hx, hs.ev hy, eqGuard, binOp, Op.stringOp]
  simp at this
  simp [Int.not_lt.2 (by simpa using this), this]
theorem p_conv_str (ho : o.op = .convert T U x) (hx : ev σ x = some (.string a)) (hT : stringT P T = true) (hU : stringT P U = true) : Pure P σ o (.string a) := fun _ _ hs w => by
  simp [execOp, ho, hs.ev hx, convert, run_underlying (stringT_spec hT), run_underlying (stringT_spec hU)]
end strings
section nils
variable {T U E : TypeId}
theorem run_eqb {a b : Bool} (hT : P.underlying T = some .bool) : (Op.equal T (.bool a) (.bool b)).run P w = .ok (a == b) w := by
  unfold Op.equal Op.maxDepth
  rw [Op.equalIn]
  simp only [Sem.run_bind, run_underlying hT, Result.andThen, Sem.run_pure]
theorem p_eqb {a b : Bool} (ho : o.op = .binOp .eql T x y U) (hx : ev σ x = some (.bool a)) (hy : ev σ y = some (.bool b)) (hT : P.underlying T = some .bool) : Pure P σ o (.bool (a == b)) := fun _ _ hs w => by
  simp only [execOp, ho, hs.ev hx, hs.ev hy, eqGuard, binOp]
  simp [run_eqb hT]
theorem p_neb {a b : Bool} (ho : o.op = .binOp .neq T x y U) (hx : ev σ x = some (.bool a)) (hy : ev σ y = some (.bool b)) (hT : P.underlying T = some .bool) : Pure P σ o (.bool (!(a == b))) := fun _ _ hs w => by
  simp only [execOp, ho, hs.ev hx, hs.ev hy, eqGuard, binOp]
  simp [run_eqb hT]
theorem run_eq_ptr_nil {p : Option Addr} (hT : P.underlying T = some (.pointer E)) : (Op.equal T (.pointer p) (.pointer none)).run P w = .ok p.isNone w := by
  unfold Op.equal Op.maxDepth
  rw [Op.equalIn]
  cases p <;> simp only [Sem.run_bind, run_underlying hT, Result.andThen, Sem.run_pure] <;> rfl
theorem p_eq_nil {p : Option Addr} (ho : o.op = .binOp .eql T x y U) (hx : ev σ x = some (.pointer p)) (hy : ev σ y = some (.pointer none)) (hT : P.underlying T = some (.pointer E)) : Pure P σ o (.bool p.isNone) := fun _ _ hs w => by
  cases p <;> simp only [execOp, ho, hs.ev hx, hs.ev hy, eqGuard, binOp] <;> simp [run_eq_ptr_nil hT]
theorem p_ne_nil {p : Option Addr} (ho : o.op = .binOp .neq T x y U) (hx : ev σ x = some (.pointer p)) (hy : ev σ y = some (.pointer none)) (hT : P.underlying T = some (.pointer E)) : Pure P σ o (.bool (!p.isNone)) := fun _ _ hs w => by
  cases p <;> simp only [execOp, ho, hs.ev hx, hs.ev hy, eqGuard, binOp] <;> simp [run_eq_ptr_nil hT]
theorem run_eq_sl_nil {s : Sl} {n c : Nat} (hT : P.underlying T = some (.slice E)) : (Op.equal T s.val (.slice none n c)).run P w = .ok s.a.isNone w := by
  obtain ⟨a, m, d⟩ := s
  unfold Op.equal Op.maxDepth
  rw [Op.equalIn]
  cases a <;> simp only [Sl.val, Sem.run_bind, run_underlying hT, Result.andThen, Sem.run_pure] <;> rfl
theorem p_eq_sl {s : Sl} {n c : Nat} (ho : o.op = .binOp .eql T x y U) (hx : ev σ x = some s.val) (hy : ev σ y = some (.slice none n c)) (hT : P.underlying T = some (.slice E)) : Pure P σ o (.bool s.a.isNone) := fun _ _ hs w => by
  obtain ⟨a, m, d⟩ := s
  have := run_eq_sl_nil (w := w) (s := ⟨a, m, d⟩) (n := n) (c := c) hT
  simp only [execOp, ho, hs.ev hx, hs.ev hy, eqGuard, binOp]
  simp [this]
theorem p_ne_sl {s : Sl} {n c : Nat} (ho : o.op = .binOp .neq T x y U) (hx : ev σ x = some s.val) (hy : ev σ y = some (.slice none n c)) (hT : P.underlying T = some (.slice E)) : Pure P σ o (.bool (!s.a.isNone)) := fun _ _ hs w => by
  obtain ⟨a, m, d⟩ := s
  have := run_eq_sl_nil (w := w) (s := ⟨a, m, d⟩) (n := n) (c := c) hT
  simp only [execOp, ho, hs.ev hx, hs.ev hy, eqGuard, binOp]
  simp [this]
end nils


theorem p_len {T : TypeId} {s : Sl} {E esz : Nat} (ho : o.op = .call { callee := .builtin .len, args := #[x], argTypes := #[T] }) (hx : ev σ x = some s.val) (hT : sliceT P T E esz = true) : Pure P σ o (.int .i64 s.n) := fun _ _ hs w => by
  simp [execOp, ho, hs.ev hx, resolve, invoke, builtin, Builtin.len_, run_underlying (sliceT_spec hT).1, goInt]
theorem p_lens {T : TypeId} {s : ByteArray} (ho : o.op = .call { callee := .builtin .len, args := #[x], argTypes := #[T] }) (hx : ev σ x = some (.string s)) (hT : stringT P T = true) : Pure P σ o (.int .i64 s.size) := fun _ _ hs w => by
  simp [execOp, ho, hs.ev hx, resolve, invoke, builtin, Builtin.len_, run_underlying (stringT_spec hT), goInt]
theorem p_extract {vs : Array Value} {i : Nat} {v : Value} (ho : o.op = .extract x i) (hx : ev σ x = some (.tuple vs)) (hv : vs[i]? = some v) : Pure P σ o v := fun _ _ hs w => by
  simp [execOp, ho, hs.ev hx, Instr.extract, hv]
theorem p_idx {T E esz : Nat} {k : IntKind} {s : Sl} {i : Int} {a : Addr} (ho : o.op = .indexAddr T x y) (hx : ev σ x = some s.val) (hy : ev σ y = some (.int k i)) (hT : sliceT P T E esz = true)
    (ha : s.a = some a) (h0 : 0 ≤ i) (h1 : i < s.n) : Pure P σ o (.pointer (some (a.add (i.toNat * esz)))) := fun _ _ hs w => by
  simp [execOp, ho, hs.ev hx, hs.ev hy, Instr.indexAt, asIntOf, run_underlying (sliceT_spec hT).1, ha, h0, h1, sizeT_spec (sliceT_spec hT).2]
theorem p_idxA {T E len esz : Nat} {k : IntKind} {i : Int} {a : Addr} (ho : o.op = .indexAddr T x y) (hx : ev σ x = some (.pointer (some a))) (hy : ev σ y = some (.int k i)) (hT : arrayT P T E len esz = true)
    (h0 : 0 ≤ i) (h1 : i < len) : Pure P σ o (.pointer (some (a.add (i.toNat * esz)))) := fun _ _ hs w => by
  simp [execOp, ho, hs.ev hx, hs.ev hy, Instr.indexAt, asIntOf, Instr.sureAddr, run_underlying (arrayT_spec hT).1, h0, h1, sizeT_spec (arrayT_spec hT).2]
theorem p_idxS {T : Nat} {k : IntKind} {s : ByteArray} {i : Int} {b : UInt8} (ho : o.op = .index T x y) (hx : ev σ x = some (.string s)) (hy : ev σ y = some (.int k i)) (hT : stringT P T = true)
    (h0 : 0 ≤ i) (h1 : s[i.toNat]? = some b) : Pure P σ o (.int .u8 (b.toNat : Int)) := fun _ _ hs w => by
  simp [execOp, ho, hs.ev hx, hs.ev hy, Instr.index, asIntOf, run_underlying (stringT_spec hT), h0, h1]
theorem p_makeFunc {fn : Fn} {first cap : Array Operand} {fs cs : List Value} (ho : o.op = .makeFunc fn first cap) (hf : first.toList.mapM (ev σ) = some fs) (hc : cap.toList.mapM (ev σ) = some cs) : Pure P σ o (.func fn fs.toArray cs.toArray) := fun a _ hs w => by
  have key : ∀ (l : List Operand) (vs : List Value), l.mapM (ev σ) = some vs → l.map a.eval = vs := by
    intro l
    induction l with
    | nil => intro vs h; simp at h; simp [h]
    | cons u l ih =>
      intro vs h
      simp only [List.mapM_cons] at h
      cases hu : ev σ u with
      | none => simp [hu] at h
      | some v =>
        cases hl : l.mapM (ev σ) with
        | none => simp [hu, hl] at h
        | some vs' => simp [hu, hl] at h; subst h; simp [hs.ev hu, ih _ hl]
  have h1 : first.map a.eval = fs.toArray := by
    apply Array.ext'; simpa using key _ _ hf
  have h2 : cap.map a.eval = cs.toArray := by
    apply Array.ext'; simpa using key _ _ hc
  simp only [execOp, ho, Instr.makeFunc, h1, h2]
  simp
end
end Go.Sep
