/- Code walked beside its plain form: a step takes a word of the plain form, an operation, or both. Holds for every program. -/
import Derived.Test.YtfjjocopmknhgaaDraw
import Derived.Laws.Externs
namespace Go.Sep
open Go
set_option linter.unusedSimpArgs false
set_option linter.unusedVariables false

/-! ### facts of a program's tables, found by what they are asked for -/
class CT (P : Program) (T : Nat) : Prop where h : cellT P T = true
class AT (P : Program) (T : Nat) (n : outParam Nat) : Prop where h : aggT P T n = true
class SZ (P : Program) (T : Nat) (n : outParam Nat) : Prop where h : sizeT P T n = true
class SLT (P : Program) (T : Nat) (E esz : outParam Nat) : Prop where h : sliceT P T E esz = true
class ART (P : Program) (T : Nat) (E len esz : outParam Nat) : Prop where h : arrayT P T E len esz = true
class STT (P : Program) (T : Nat) : Prop where h : stringT P T = true
class INT (P : Program) (T : Nat) (k : outParam IntKind) : Prop where h : intT P T k = true
class ZT (P : Program) (T : Nat) (z : outParam Value) : Prop where h : zeroT P T z
class PLT (P : Program) (T : Nat) (l : outParam (List (Nat × Nat))) : Prop where h : placesT P T l
class FT (P : Program) (S i : Nat) (off n : outParam Nat) : Prop where h : fieldT P S i off n = true
class FC (P : Program) (S i : Nat) (off : outParam Nat) : Prop where h : fieldC P S i off = true
class FNC (P : Program) (S i : Nat) (off n : outParam Nat) : Prop where h : fieldN P S i off n = true
class UN (P : Program) (T : Nat) (d : outParam TypeDesc) : Prop where h : P.underlying T = some d
class CB (P : Program) (f : Nat) : Prop where h : callable P f = true
class EXT (P : Program) (f : Nat) (e : outParam (Array Value → Sem Value)) : Prop where h : ∀ args w v w', (e args).run P w = .ok v w' → (callFunc f args).run P w = .ok (.value v) w'
class MX (P : Program) : Prop where h : P.follows .mixedOrders = true

def Ans4 {α β γ δ : Type} (c : α → β → γ → δ → Value) (k : α → β → γ → δ → K) : Value → K := fun v w => ∃ x y z u, v = c x y z u ∧ k x y z u w
def Ans5 {α β γ δ ε : Type} (c : α → β → γ → δ → ε → Value) (k : α → β → γ → δ → ε → K) : Value → K := fun v w => ∃ x y z u t, v = c x y z u t ∧ k x y z u t w

section
variable {P : Program} {σ τ : List (Nat × Value)} {o : Oper} {x y z : Operand} {v : Value} {T U : TypeId}

/-! ### pure operations, by classes -/
theorem q_fieldAddr {S i off n : Nat} {a : Addr} [c : FT P S i off n] (ho : o.op = .fieldAddr S x i) (hx : ev σ x = some (.pointer (some a))) : Pure P σ o (.pointer (some (a.add off))) := p_fieldAddr ho hx c.h
theorem q_fieldAddr0 {S i n : Nat} {a : Addr} [c : FT P S i 0 n] (ho : o.op = .fieldAddr S x i) (hx : ev σ x = some (.pointer (some a))) : Pure P σ o (.pointer (some a)) := p_fieldAddr0 ho hx c.h
theorem q_fieldN {S i off n : Nat} {cs : Array Value} [c : FNC P S i off n] (ho : o.op = .field S x i) (hx : ev σ x = some (.agg cs)) : Pure P σ o (.agg (cs.extract off (off + n))) := p_fieldN ho hx c.h
theorem q_len {s : Sl} {E esz : Nat} [c : SLT P T E esz] (ho : o.op = .call { callee := .builtin .len, args := #[x], argTypes := #[T] }) (hx : ev σ x = some s.val) : Pure P σ o (.int .i64 s.n) := p_len ho hx c.h
theorem q_lens {s : ByteArray} [c : STT P T] (ho : o.op = .call { callee := .builtin .len, args := #[x], argTypes := #[T] }) (hx : ev σ x = some (.string s)) : Pure P σ o (.int .i64 s.size) := p_lens ho hx c.h
theorem q_conv_str {s : ByteArray} [c : STT P T] [d : STT P U] (ho : o.op = .convert T U x) (hx : ev σ x = some (.string s)) : Pure P σ o (.string s) := p_conv_str ho hx c.h d.h
theorem q_conv_int {k j : IntKind} {a : Int} [c : INT P T k] [d : INT P U j] (ho : o.op = .convert T U x) (hx : ev σ x = some (.int k a)) : Pure P σ o (.int j (j.wrap a)) := p_conv_int ho hx c.h d.h
theorem q_eqb {a b : Bool} [c : UN P T .bool] (ho : o.op = .binOp .eql T x y U) (hx : ev σ x = some (.bool a)) (hy : ev σ y = some (.bool b)) : Pure P σ o (.bool (a == b)) := p_eqb ho hx hy c.h
theorem q_neb {a b : Bool} [c : UN P T .bool] (ho : o.op = .binOp .neq T x y U) (hx : ev σ x = some (.bool a)) (hy : ev σ y = some (.bool b)) : Pure P σ o (.bool (!(a == b))) := p_neb ho hx hy c.h
theorem q_eq_nil {p : Option Addr} {E : Nat} [c : UN P T (.pointer E)] (ho : o.op = .binOp .eql T x y U) (hx : ev σ x = some (.pointer p)) (hy : ev σ y = some (.pointer none)) : Pure P σ o (.bool p.isNone) := p_eq_nil ho hx hy c.h
theorem q_ne_nil {p : Option Addr} {E : Nat} [c : UN P T (.pointer E)] (ho : o.op = .binOp .neq T x y U) (hx : ev σ x = some (.pointer p)) (hy : ev σ y = some (.pointer none)) : Pure P σ o (.bool (!p.isNone)) := p_ne_nil ho hx hy c.h
theorem q_eq_sl {s : Sl} {E n c : Nat} [cl : UN P T (.slice E)] (ho : o.op = .binOp .eql T x y U) (hx : ev σ x = some s.val) (hy : ev σ y = some (.slice none n c)) : Pure P σ o (.bool s.a.isNone) := p_eq_sl ho hx hy cl.h
theorem q_ne_sl {s : Sl} {E n c : Nat} [cl : UN P T (.slice E)] (ho : o.op = .binOp .neq T x y U) (hx : ev σ x = some s.val) (hy : ev σ y = some (.slice none n c)) : Pure P σ o (.bool (!s.a.isNone)) := p_ne_sl ho hx hy cl.h
theorem p_ges {a b : ByteArray} (ho : o.op = .binOp .geq T x y U) (hx : ev σ x = some (.string a)) (hy : ev σ y = some (.string b)) : Pure P σ o (.bool !(Op.bytesLess a.toList b.toList)) := fun _ _ hs w => by
  simp [execOp, ho, hs.ev hx, hs.ev hy, eqGuard, binOp, Op.stringOp]
theorem p_les {a b : ByteArray} (ho : o.op = .binOp .leq T x y U) (hx : ev σ x = some (.string a)) (hy : ev σ y = some (.string b)) : Pure P σ o (.bool (Op.bytesLess a.toList b.toList || a.toList == b.toList)) := fun _ _ hs w => by
  simp [execOp, ho, hs.ev hx, hs.ev hy, eqGuard, binOp, Op.stringOp]

/-- A struct's cells, with some of its fields laid in. -/
def setFlat : List Value → List (Nat × Nat) → List (Nat × Value) → List Value
  | zs, _, [] => zs
  | zs, ps, p :: vs => setFlat (zs.set ((ps.getD p.1 (0, 0)).1) p.2) ps vs
def flatParts : List (Nat × Value) → Bool
  | [] => true
  | p :: vs => flatV p.2 && flatParts vs
theorem q_build {z : Value} {zl : List Value} {pl : List (Nat × Nat)} {ps : Array (Nat × Operand)} {vs : List (Nat × Value)} [c : ZT P T z] [d : PLT P T pl] (ho : o.op = .build T ps) (hv : partsOf σ ps.toList = some vs) (hf : flatParts vs = true) (hz : z.cells = zl.toArray)
    (hc : Instr.fill (pl[·]?) z.cells vs = some (setFlat zl pl vs).toArray) : Pure P σ o (.agg (setFlat zl pl vs).toArray) := e_build ho c.h d.h hv hc

def nth : List Value → Nat → Option Value
  | [], _ => none
  | v :: _, 0 => some v
  | _ :: l, i + 1 => nth l i
theorem nth_eq : ∀ (l : List Value) (i : Nat), nth l i = l[i]?
  | [], _ => rfl
  | _ :: _, 0 => rfl
  | _ :: l, i + 1 => by simpa [nth] using nth_eq l i
theorem q_extract {l : List Value} {i : Nat} (ho : o.op = .extract x i) (hx : ev σ x = some (.tuple l.toArray)) (hv : nth l i = some v) : Pure P σ o v := p_extract ho hx (by rw [nth_eq] at hv; simpa using hv)
theorem pu_auto (h : Pure P σ o v := by
    first
    | exact p_move rfl rfl | exact p_assign rfl rfl | exact p_nil rfl rfl | exact q_fieldAddr0 rfl rfl | exact q_fieldAddr rfl rfl | exact q_len rfl rfl | exact p_eq rfl rfl rfl | exact p_ne rfl rfl rfl | exact p_lt rfl rfl rfl | exact p_le rfl rfl rfl
    | exact p_gt rfl rfl rfl | exact p_ge rfl rfl rfl | exact p_not rfl rfl | exact p_pick_t rfl rfl rfl | exact p_pick_f rfl rfl rfl | exact p_pick_b rfl rfl rfl rfl | exact q_extract rfl rfl rfl | exact q_lens rfl rfl | exact p_eqs rfl rfl rfl | exact p_nes rfl rfl rfl
    | exact p_lts rfl rfl rfl | exact p_gts rfl rfl rfl | exact p_ges rfl rfl rfl | exact p_les rfl rfl rfl | exact q_eq_nil rfl rfl rfl | exact q_ne_nil rfl rfl rfl | exact q_eq_sl rfl rfl rfl | exact q_ne_sl rfl rfl rfl | exact q_eqb rfl rfl rfl | exact q_neb rfl rfl rfl
    | exact q_fieldN rfl rfl | exact q_build rfl rfl rfl rfl (by kernel_rfl) | exact p_makeFunc rfl rfl rfl | exact p_nilf rfl rfl | exact q_conv_str rfl rfl) : Pure P σ o v := h

/-! ### words -/
/-- A word that comes with an operation that looks at no world. -/
def WP (P : Program) (σ : List (Nat × Value)) (o : Oper) {α : Type} (k : K) (v : α → Value) (k' : α → K) : Prop := ∀ w, k w → ∃ x, Pure P σ o (v x) ∧ k' x w
def WR (P : Program) (σ : List (Nat × Value)) (o : Oper) {α : Type} (k : K) (v : α → Value) (k' : α → K) : Prop := ∀ w, k w → ∃ x, Eff P σ o w (.value (v x)) w ∧ k' x w
def WE (P : Program) (σ : List (Nat × Value)) (o : Oper) {α : Type} (k : K) (v : α → Value) (k' : α → K) : Prop := ∀ w, k w → ∃ x w', Eff P σ o w (.value (v x)) w' ∧ k' x w'
def WK (P : Program) (σ : List (Nat × Value)) (o : Oper) (k k' : K) : Prop := ∀ w, k w → ∃ w', Eff P σ o w .skip w' ∧ k' w'
def WC (P : Program) (σ : List (Nat × Value)) (o : Oper) (k : K) (kk : Value → K) : Prop := ∀ w, k w → ∃ f args w', Eff P σ o w (.enter f args) w' ∧ Calls P f args w' (Ret kk)
def WY (P : Program) (σ : List (Nat × Value)) (o : Oper) (k : K) (kk : Value → K) : Prop := ∀ w, k w → ∃ l args, (∀ y, (Instr.yield l args).run P w = .ok y w → Eff P σ o w y w) ∧ YieldAt Fence.wide 0 P l args w (Ret kk)
/-- A word that reads the same in every world of S. -/
def WS (P : Program) (S : World → Prop) (σ : List (Nat × Value)) (o : Oper) {α : Type} (k : K) (v : α → Value) (k' : α → K) : Prop := ∀ w, k w → ∃ x, (∀ w, S w → Eff P σ o w (.value (v x)) w) ∧ k' x w

section
variable {α β : Type} {e : Int} {p : Prop} {kk : IntKind} {ki : Int → K} {ka : Addr → K} {s : Sl} {i lo hi mx : Int} {esz : Nat} {c : α → Value} {kx : α → K} {k : K}
theorem wp_ar (hp : Pure P σ o (.int kk e)) : WP P σ o (Ar e ki) (fun t => .int kk t) ki := fun w ⟨t, he, h⟩ => ⟨t, he ▸ hp, h⟩
theorem wp_cdar (hp : p → Pure P σ o (.int kk e)) : WP P σ o (Cd p (Ar e ki)) (fun t => .int kk t) ki := fun w ⟨h0, t, he, h⟩ => ⟨t, he ▸ hp h0, h⟩
theorem wp_idx {E : Nat} {kj : IntKind} [cl : SLT P T E esz] (ho : o.op = .indexAddr T x y) (hx : ev σ x = some s.val) (hy : ev σ y = some (.int kj i)) : WP P σ o (Idx s i esz ka) (fun t => .pointer (some t)) ka :=
  fun w ⟨a, t, ha, h0, h1, he, h⟩ => ⟨t, Pure.adr he (p_idx ho hx hy cl.h ha h0 h1), h⟩
theorem wp_idxA {E len : Nat} {kj : IntKind} {a : Addr} [cl : ART P T E len esz] (ho : o.op = .indexAddr T x y) (hx : ev σ x = some (.pointer (some a))) (hy : ev σ y = some (.int kj i)) : WP P σ o (IdxA a len i esz ka) (fun t => .pointer (some t)) ka :=
  fun w ⟨t, h0, h1, he, h⟩ => ⟨t, Pure.adr he (p_idxA ho hx hy cl.h h0 h1), h⟩
theorem wp_idxS {kj : IntKind} {s : ByteArray} [cl : STT P T] (ho : o.op = .index T x y) (hx : ev σ x = some (.string s)) (hy : ev σ y = some (.int kj i)) : WP P σ o (IdxS s i ki) (fun t => .int .u8 t) ki :=
  fun w ⟨t, b, h0, h1, he, h⟩ => ⟨t, Pure.int he (p_idxS ho hx hy cl.h h0 h1), h⟩
theorem wp_fld {S j off : Nat} {cs : Array Value} [cl : FC P S j off] (ho : o.op = .field S x j) (hx : ev σ x = some (.agg cs)) : WP P σ o (Fld cs off c kx) c kx :=
  fun w ⟨t, hv, h⟩ => ⟨t, p_field ho hx cl.h hv, h⟩
theorem wp_slc {E : Nat} {lo' hi' mx' : Option Operand} {ks : Sl → K} [cl : SLT P T E esz] (ho : o.op = .slice T x lo' hi' mx') (hx : ev σ x = some s.val) (hl : optI σ lo' 0 lo) (hh : optI σ hi' s.n hi) (hm : optI σ mx' s.c mx) (hmx : (!mx'.isSome || hi'.isSome) = true) :
    WP P σ o (Slc s lo hi mx esz ks) (fun t => t.val) ks :=
  fun w ⟨t, h0, h1, h2, h3, he, h⟩ => ⟨t, Pure.sl he (p_slc ho hx cl.h hl hh hm (fun hs => by rw [hs] at hmx; simpa using hmx) h0 h1 h2 h3), h⟩
theorem wp_slcS {lo' hi' : Option Operand} {s : ByteArray} {ks : ByteArray → K} [cl : STT P T] (ho : o.op = .slice T x lo' hi' none) (hx : ev σ x = some (.string s)) (hl : optI σ lo' 0 lo) (hh : optI σ hi' s.size hi) :
    WP P σ o (SlcS s lo hi ks) (fun t => .string t) ks :=
  fun w ⟨t, h0, h1, h2, he, h⟩ => ⟨t, Pure.str he (p_slcS ho hx cl.h hl hh h0 h1 h2), h⟩
theorem wp_cat {a b : ByteArray} {ks : ByteArray → K} (ho : o.op = .binOp .add T x y U) (hx : ev σ x = some (.string a)) (hy : ev σ y = some (.string b)) : WP P σ o (Cat a b ks) (fun t => .string t) ks :=
  fun w ⟨t, h0, he, h⟩ => ⟨t, Pure.str he (p_cats ho hx hy h0), h⟩
theorem wp_pu {sem : Sem Value} (hs : ∀ v w w', sem.run P w = .ok v w' → Eff P σ o w (.value v) w') : WP P σ o (Pu P sem c kx) c kx :=
  fun w ⟨t, hd, h⟩ => ⟨t, p_sem fun w => hs _ _ _ (hd w), h⟩
theorem wp_ext {t : Value} {j : Nat} (ho : o.op = .extract x j) (hx : ev σ x = some t) : WP P σ o (Ext t j c kx) c kx :=
  fun w ⟨vs, u, ht, hv, h⟩ => ⟨u, p_extract ho (hx.trans (congrArg some ht)) hv, h⟩
theorem wp_bld {zv : Value} {zero : Array Value} {pl : List (Nat × Nat)} {ps : Array (Nat × Operand)} {vs : List (Nat × Value)} {kc : Array Value → K} [cz : ZT P T zv] [cp : PLT P T pl] (ho : o.op = .build T ps) (hv : partsOf σ ps.toList = some vs) (hz : zv.cells = zero) :
    WP P σ o (Bld zero (pl[·]?) vs kc) (fun t => .agg t) kc := fun w ⟨t, hb, h⟩ => ⟨t, e_build ho cz.h cp.h hv (by rw [hz]; exact hb), h⟩

theorem wr_ld {a : Addr} [cl : CT P T] (ho : o.op = .load T x) (hx : ev σ x = some (.pointer (some a))) : WR P σ o (Ld a c kx) c kx := fun w ⟨t, hv, h⟩ => ⟨t, e_load ho hx cl.h hv, h⟩
theorem wr_ldN {n : Nat} {a : Addr} {kc : Array Value → K} [cl : AT P T n] (ho : o.op = .load T x) (hx : ev σ x = some (.pointer (some a))) : WR P σ o (LdN a n kc) (fun t => .agg t) kc := fun w ⟨t, hn, hv, h⟩ => ⟨t, e_loadN ho hx cl.h hn hv, h⟩
theorem wr_rd {sem : Sem Value} (hs : ∀ v w w', sem.run P w = .ok v w' → Eff P σ o w (.value v) w') : WR P σ o (Rd P sem c kx) c kx := fun w ⟨t, hd, h⟩ => ⟨t, hs _ _ _ hd, h⟩
theorem wr_rd2 {sem : Sem Value} {c : α → β → Value} {kx : α → β → K} (hs : ∀ v w w', sem.run P w = .ok v w' → Eff P σ o w (.value v) w') : WR P σ o (Rd2 P sem c kx) (fun u => u) (fun u => Ans2 c kx u) := fun w ⟨t, u, hd, h⟩ => ⟨c t u, hs _ _ _ hd, t, u, rfl, h⟩
variable {S : World → Prop}
theorem ws_ld {a : Addr} [cl : CT P T] (ho : o.op = .load T x) (hx : ev σ x = some (.pointer (some a))) : WS P S σ o (LdS S a c kx) c kx := fun w ⟨t, hv, h⟩ => ⟨t, fun w hS => e_load ho hx cl.h (hv w hS), h⟩
theorem ws_ldN {n : Nat} {a : Addr} {kc : Array Value → K} [cl : AT P T n] (ho : o.op = .load T x) (hx : ev σ x = some (.pointer (some a))) : WS P S σ o (LdNS S a n kc) (fun t => .agg t) kc := fun w ⟨t, hn, hv, h⟩ => ⟨t, fun w hS => e_loadN ho hx cl.h hn (hv w hS), h⟩
theorem ws_rd {sem : Sem Value} (hs : ∀ v w w', sem.run P w = .ok v w' → Eff P σ o w (.value v) w') : WS P S σ o (RdS P S sem c kx) c kx := fun w ⟨t, hd, h⟩ => ⟨t, fun w hS => hs _ _ _ (hd w hS), h⟩
theorem ws_rd2 {sem : Sem Value} {c : α → β → Value} {kx : α → β → K} (hs : ∀ v w w', sem.run P w = .ok v w' → Eff P σ o w (.value v) w') : WS P S σ o (Rd2S P S sem c kx) (fun u => u) (fun u => Ans2 c kx u) := fun w ⟨t, u, hd, h⟩ => ⟨c t u, fun w hS => hs _ _ _ (hd w hS), t, u, rfl, h⟩
theorem WR.is {w1 : World} {v : α → Value} {k' : α → K} (h : WR P σ o k v k') : ∀ w, Is w1 w → k w → ∃ x, (∀ w, Is w1 w → Eff P σ o w (.value (v x)) w) ∧ k' x w := fun w hw hk => by
  have := hw.out; subst this
  obtain ⟨x, h1, h2⟩ := h _ hk
  exact ⟨x, fun w' hw' => by have := hw'.out; subst this; exact h1, h2⟩

theorem we_box {cs : Array Value} {v : Value} (ho : o.op = .box T x) (hx : ev σ x = some v) (hc : v.cells = cs) : WE P σ o (New T cs ka) (fun a => .pointer (some a)) ka := fun w ⟨a, w', ha, hw, h⟩ => ⟨a, w', e_box ho hx hc ha hw, h⟩
theorem we_alloc {zv : Value} {cs : Array Value} [cz : ZT P T zv] (ho : o.op = .alloc T) (hc : zv.cells = cs) : WE P σ o (New T cs ka) (fun a => .pointer (some a)) ka := fun w ⟨a, w', ha, hw, h⟩ => ⟨a, w', e_alloc ho cz.h hc ha hw, h⟩
def zerosA (len esz : Nat) (zv : Value) : Array Value := (Array.range (len * esz)).map (fun i => (if len * esz = 0 then #[] else zv.cells)[i % (if len * esz = 0 then #[] else zv.cells).size]!)
theorem we_slice {E esz len : Nat} {zv : Value} {ps : Array (Nat × Operand)} {vs : List (Nat × Value)} {cs : Array Value} [cs' : SLT P T E esz] [cz : ZT P E zv] (ho : o.op = .buildSlice T len ps) (hl : Nat.ble (len * esz) 16777216 = true) (hv : partsOf σ ps.toList = some vs) (hf : flatParts vs = true)
    (hc : Instr.fill (fun i => some (i * esz, esz)) (zerosA len esz zv) vs = some cs) : WE P σ o (New E cs ka) (fun a => Sl.val ⟨some a, len, len⟩) ka :=
  fun w ⟨a, w', ha, hw, h⟩ => ⟨a, w', e_buildSlice ho cs'.h cz.h (Nat.le_of_ble_eq_true hl) hv rfl hc ha hw, h⟩
theorem we_bldslice {E esz len : Nat} {zv : Value} {z : Array Value} {ps : Array (Nat × Operand)} {vs : List (Nat × Value)} [cs' : SLT P T E esz] [cz : ZT P E zv] (ho : o.op = .buildSlice T len ps) (hl : Nat.ble (len * esz) 16777216 = true) (hv : partsOf σ ps.toList = some vs)
    (hz : zerosA len esz zv = z) : WE P σ o (Bld z (fun i => some (i * esz, esz)) vs fun c => New E c ka) (fun a => Sl.val ⟨some a, len, len⟩) ka :=
  fun w ⟨c, hb, a, w', ha, hw, h⟩ => ⟨a, w', e_buildSlice ho cs'.h cz.h (Nat.le_of_ble_eq_true hl) hv hz hb ha hw, h⟩
theorem we_do {sem : Sem Value} (hs : ∀ v w w', sem.run P w = .ok v w' → Eff P σ o w (.value v) w') : WE P σ o (Do P sem c kx) c kx := fun w ⟨t, w', hd, h⟩ => ⟨t, w', hs _ _ _ hd, h⟩
theorem wk_st {a : Addr} {v : Value} [cl : SZ P T 1] (ho : o.op = .store T x y) (hx : ev σ x = some (.pointer (some a))) (hy : ev σ y = some v) : WK P σ o (St a v k) k := fun w ⟨w', hw, hc, hf, hv, h⟩ => ⟨w', e_store ho hx hy cl.h hw hc hf hv, h⟩
theorem wk_stN {n : Nat} {a : Addr} {cs : Array Value} [cl : SZ P T n] (ho : o.op = .store T x y) (hx : ev σ x = some (.pointer (some a))) (hy : ev σ y = some (.agg cs)) : WK P σ o (StN a n cs k) k := fun w ⟨w', hw, hn, hc, hv, h⟩ => ⟨w', e_storeN ho hx hy cl.h hw hn hc hv, h⟩
theorem wk_do {sem : Sem Unit} (hs : ∀ u w w', sem.run P w = .ok u w' → Eff P σ o w .skip w') : WK P σ o (DoU P sem k) k := fun w ⟨u, w', hd, h⟩ => ⟨w', hs _ _ _ hd, h⟩
theorem wc_call {f : FuncId} {xs : Array Operand} {ts : Array TypeId} {vs : List Value} {args : Array Value} {kk : Value → K} [cb : CB P f] (ho : o.op = .call { callee := .value x, args := xs, argTypes := ts }) (hx : ev σ x = some (.func (.func f) #[] #[])) (hv : evs σ xs.toList = some vs) (ha : vs.toArray = args) :
    WC P σ o (CallF P f args kk) kk := fun w h => ⟨f, args, w, ha ▸ e_call ho hx hv cb.h, h⟩
theorem wc_callv {f : FuncId} {first cap : Array Value} {xs : Array Operand} {ts : Array TypeId} {vs : List Value} {args : Array Value} {kk : Value → K} [cb : CB P f] (ho : o.op = .call { callee := .value x, args := xs, argTypes := ts }) (hx : ev σ x = some (.func (.func f) first cap)) (hv : evs σ xs.toList = some vs)
    (ha : first ++ vs.toArray ++ cap = args) : WC P σ o (CallF P f args kk) kk := fun w h => ⟨f, args, w, ha ▸ e_callv ho hx hv cb.h, h⟩
theorem wc_fv {fv : Value} {xs : Array Operand} {ts : Array TypeId} {vs : List Value} {kk : Value → K} (ho : o.op = .call { callee := .value x, args := xs, argTypes := ts }) (hx : ev σ x = some fv) (hv : evs σ xs.toList = some vs) : WC P σ o (CallV P fv vs kk) kk :=
  fun w ⟨g, fs, cs, hg, hcb, h⟩ => ⟨g, _, w, e_callv ho (hx.trans (congrArg some hg)) hv hcb, h⟩
theorem wy_y {fv : Value} {xs : Array Operand} {ts : Array TypeId} {vs : List Value} {kk : Value → K} (ho : o.op = .call { callee := .value x, args := xs, argTypes := ts }) (hx : ev σ x = some fv) (hv : evs σ xs.toList = some vs) : WY P σ o (CallY P fv vs kk) kk :=
  fun w ⟨l, hg, h⟩ => ⟨l, _, e_yield ho (hx.trans (congrArg some hg)) hv, h⟩
theorem ext_of {P : Program} {f : Nat} {fn : Func} {e : Array Value → Sem Value} (hf : P.funcs[f]? = some fn) (hn : (fn.name == "runtime.NumGoroutine") = false) (hb : fn.body.isNone = true) (h1 : Extern.findNext fn = none) (h2 : Extern.find fn = some e) : EXT P f e := ⟨fun args w v w' h => by rw [run_callFunc_extern hf hn hb h1 h2, h]; rfl⟩
theorem e_ext' {f : FuncId} {e : Array Value → Sem Value} {xs : Array Operand} {ts : Array TypeId} {vs : List Value} [c : EXT P f e] (ho : o.op = .call { callee := .value x, args := xs, argTypes := ts }) (hx : ev σ x = some (.func (.func f) #[] #[])) (hv : evs σ xs.toList = some vs) : ∀ v w w', (e vs.toArray).run P w = .ok v w' → Eff P σ o w (.value v) w' := fun v w w' h a _ hs => by
  have h1 : xs.map a.eval = vs.toArray := by apply Array.ext'; simpa using evs_spec hs hv
  simp [execOp, ho, resolve, hs.ev hx, h1, Deferred.ofValue, invoke, c.h _ _ _ _ h]
theorem e_lookup' {ok : Bool} {vx vy : Value} (ho : o.op = .lookup T x y ok) (hx : ev σ x = some vx) (hy : ev σ y = some vy) : ∀ v w w', (Instr.lookup T vx vy ok).run P w = .ok v w' → Eff P σ o w (.value v) w' := fun _ _ _ h => e_lookup ho hx hy h
theorem e_convert' {vx : Value} (ho : o.op = .convert T U x) (hx : ev σ x = some vx) : ∀ v w w', (convert T U vx).run P w = .ok v w' → Eff P σ o w (.value v) w' := fun _ _ _ h => e_convert ho hx h
theorem e_mkI' {vx : Value} (ho : o.op = .makeInterface T x) (hx : ev σ x = some vx) : ∀ v w w', (Instr.makeInterface T vx).run P w = .ok v w' → Eff P σ o w (.value v) w' := fun _ _ _ h => e_makeInterface ho hx h
theorem e_len' {t : TypeId} {ts : Array TypeId} {vx : Value} (ho : o.op = .call { callee := .builtin .len, args := #[x], argTypes := ts }) (ht : o.type = t) (hx : ev σ x = some vx) : ∀ v w w', (Builtin.len_ ts t #[vx]).run P w = .ok v w' → Eff P σ o w (.value v) w' := fun _ _ _ h => e_len ho ht hx h
theorem e_cap' {t : TypeId} {ts : Array TypeId} {vx : Value} (ho : o.op = .call { callee := .builtin .cap, args := #[x], argTypes := ts }) (ht : o.type = t) (hx : ev σ x = some vx) : ∀ v w w', (Builtin.cap_ ts t #[vx]).run P w = .ok v w' → Eff P σ o w (.value v) w' := fun _ _ _ h => e_cap ho ht hx h
theorem e_clear' {t : TypeId} {ts : Array TypeId} {vx : Value} (ho : o.op = .call { callee := .builtin .clear, args := #[x], argTypes := ts }) (ht : o.type = t) (hx : ev σ x = some vx) : ∀ v w w', (Builtin.clear_ ts t #[vx]).run P w = .ok v w' → Eff P σ o w (.value v) w' := fun _ _ _ h => e_clear ho ht hx h
theorem e_append' {t : TypeId} {ts : Array TypeId} {vx vy : Value} (ho : o.op = .call { callee := .builtin .append, args := #[x, y], argTypes := ts }) (ht : o.type = t) (hx : ev σ x = some vx) (hy : ev σ y = some vy) : ∀ v w w', (Builtin.append_ ts t #[vx, vy]).run P w = .ok v w' → Eff P σ o w (.value v) w' := fun _ _ _ h => e_append ho ht hx hy h
theorem e_copy' {t : TypeId} {ts : Array TypeId} {vx vy : Value} (ho : o.op = .call { callee := .builtin .copy, args := #[x, y], argTypes := ts }) (ht : o.type = t) (hx : ev σ x = some vx) (hy : ev σ y = some vy) : ∀ v w w', (Builtin.copy_ ts t #[vx, vy]).run P w = .ok v w' → Eff P σ o w (.value v) w' := fun _ _ _ h => e_copy ho ht hx hy h
theorem e_delete' {t : TypeId} {ts : Array TypeId} {vx vy : Value} (ho : o.op = .call { callee := .builtin .delete, args := #[x, y], argTypes := ts }) (ht : o.type = t) (hx : ev σ x = some vx) (hy : ev σ y = some vy) : ∀ v w w', (Builtin.delete_ ts t #[vx, vy]).run P w = .ok v w' → Eff P σ o w (.value v) w' := fun _ _ _ h => e_delete ho ht hx hy h
theorem e_makeMap' (ho : o.op = .makeMap T none) : ∀ v w w', (Instr.makeMap T none).run P w = .ok v w' → Eff P σ o w (.value v) w' := fun _ _ _ h => e_makeMap ho h
theorem e_makeSlice' {vx vy : Value} (ho : o.op = .makeSlice T x y) (hx : ev σ x = some vx) (hy : ev σ y = some vy) : ∀ v w w', (Instr.makeSlice T vx vy).run P w = .ok v w' → Eff P σ o w (.value v) w' := fun _ _ _ h => e_makeSlice ho hx hy h
theorem e_range' {vx : Value} (ho : o.op = .range T x) (hx : ev σ x = some vx) : ∀ v w w', (Instr.range T vx).run P w = .ok v w' → Eff P σ o w (.value v) w' := fun _ _ _ h => e_range ho hx h
theorem e_next' {t : TypeId} {s : Bool} {vx : Value} (ho : o.op = .next x s) (ht : o.type = t) (hx : ev σ x = some vx) : ∀ v w w', (Instr.next vx s t).run P w = .ok v w' → Eff P σ o w (.value v) w' := fun _ _ _ h => e_next ho ht hx h
theorem e_entry' {vx : Value} (ho : o.op = .entry x) (hx : ev σ x = some vx) : ∀ v w w', (Instr.entry vx).run P w = .ok v w' → Eff P σ o w (.value v) w' := fun _ _ _ h => e_entry ho hx h
theorem e_binOp' {op : BinOp} {vx vy : Value} (ho : o.op = .binOp op T x y U) (hx : ev σ x = some vx) (hy : ev σ y = some vy) : ∀ v w w', (do eqGuard op T x y vx vy; binOp op T vx vy : Sem Value).run P w = .ok v w' → Eff P σ o w (.value v) w' := fun _ _ _ h => e_binOp ho hx hy h
theorem e_buildg' {ps : Array (Nat × Operand)} {vs : List (Nat × Value)} (ho : o.op = .build T ps) (hv : partsOf σ ps.toList = some vs) : ∀ v w w', (Instr.build T vs.toArray).run P w = .ok v w' → Eff P σ o w (.value v) w' := fun _ _ _ h => e_buildg ho hv h
theorem e_mapUpdate' {vx vy vz : Value} (ho : o.op = .mapUpdate T x y z) (hx : ev σ x = some vx) (hy : ev σ y = some vy) (hz : ev σ z = some vz) : ∀ u w w', (Instr.mapUpdate T vx vy vz).run P w = .ok u w' → Eff P σ o w .skip w' := fun _ _ _ h => e_mapUpdate ho hx hy hz h
end

variable {α : Type} {k : K} {vx : α → Value} {k' : α → K}
theorem wp_auto (h : WP P σ o k vx k' := by
    first
    | exact wp_ar (by first | exact p_add rfl rfl rfl | exact p_sub rfl rfl rfl | exact q_conv_int rfl rfl | exact p_mul rfl rfl rfl | exact p_and rfl rfl rfl | exact p_or rfl rfl rfl | exact p_xor rfl rfl rfl | exact p_neg rfl rfl | exact p_com rfl rfl | exact p_max _ rfl rfl rfl | exact p_min _ rfl rfl rfl)
    | exact wp_idx rfl rfl rfl | exact wp_fld rfl rfl | exact wp_slc rfl rfl (by first | exact rfl | exact ⟨_, rfl⟩) (by first | exact rfl | exact ⟨_, rfl⟩) (by first | exact rfl | exact ⟨_, rfl⟩) rfl | exact wp_idxS rfl rfl rfl | exact wp_idxA rfl rfl rfl
    | exact wp_cdar (fun h0 => by first | exact p_shl rfl rfl rfl h0 | exact p_shr rfl rfl rfl h0 | exact p_quo rfl rfl rfl h0 | exact p_rem rfl rfl rfl h0)
    | exact wp_slcS rfl rfl (by first | exact rfl | exact ⟨_, rfl⟩) (by first | exact rfl | exact ⟨_, rfl⟩) | exact wp_cat rfl rfl rfl | exact wp_bld rfl rfl rfl
    | exact wp_pu (by first | exact e_binOp' rfl rfl rfl | exact e_buildg' rfl rfl) | exact wp_ext rfl rfl) : WP P σ o k vx k' := h
theorem wr_auto (h : WR P σ o k vx k' := by
    first
    | exact wr_ld rfl rfl | exact wr_ldN rfl rfl
    | exact wr_rd (by first | exact e_lookup' rfl rfl rfl | exact e_convert' rfl rfl | exact e_len' rfl rfl rfl | exact e_mkI' rfl rfl)
    | exact wr_rd2 (e_lookup' rfl rfl rfl)) : WR P σ o k vx k' := h
theorem ws_auto {S : World → Prop} (h : WS P S σ o k vx k' := by
    first
    | exact ws_ld rfl rfl | exact ws_ldN rfl rfl
    | exact ws_rd (by first | exact e_lookup' rfl rfl rfl | exact e_convert' rfl rfl | exact e_len' rfl rfl rfl | exact e_mkI' rfl rfl)
    | exact ws_rd2 (e_lookup' rfl rfl rfl)) : WS P S σ o k vx k' := h
theorem we_auto (h : WE P σ o k vx k' := by
    first
    | exact we_box rfl rfl rfl | exact we_alloc rfl rfl | exact we_slice rfl rfl rfl rfl (by kernel_rfl) | exact we_bldslice rfl rfl rfl (by kernel_rfl)
    | exact we_do (by first | exact e_append' rfl rfl rfl rfl | exact e_convert' rfl rfl | exact e_next' rfl rfl rfl | exact e_range' rfl rfl | exact e_entry' rfl rfl | exact e_makeMap' rfl | exact e_makeSlice' rfl rfl rfl | exact e_copy' rfl rfl rfl rfl | exact e_delete' rfl rfl rfl rfl | exact e_cap' rfl rfl rfl | exact e_clear' rfl rfl rfl)) : WE P σ o k vx k' := h
theorem wk_auto {k k' : K} (h : WK P σ o k k' := by
    first
    | exact wk_st rfl rfl rfl | exact wk_stN rfl rfl rfl | exact wk_do (e_mapUpdate' rfl rfl rfl rfl)) : WK P σ o k k' := h
theorem wc_auto {k : K} {kk : Value → K} (h : WC P σ o k kk := by
    first
    | exact wc_call rfl rfl rfl rfl | exact wc_callv rfl rfl rfl rfl | exact wc_fv rfl rfl rfl) : WC P σ o k kk := h
end
end Go.Sep
