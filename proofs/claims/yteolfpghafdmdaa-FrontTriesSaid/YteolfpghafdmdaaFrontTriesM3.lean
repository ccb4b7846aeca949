/- Texts of the claim FrontTries, one behind the other. -/
import Derived.Test.YteolfpghafdmdaaFrontTriesM2
import Derived.Laws.StructEq
import Derived.Deep.OwnRows
/- Structs of numbers, strings and truths are compared, and are keys of maps. Holds for every program. -/
namespace Go.Sep
open Go Go.RowKit
set_option linter.unusedSimpArgs false
set_option linter.unusedVariables false
set_option linter.unusedSectionVars false

/-- A cell that can be compared. -/
inductive Ck where
  | int (k : IntKind)
  | str
  | bool
def Ck.fit : Ck → Value → Bool
  | .int k, .int k' _ => k' == k
  | .str, .string _ => true
  | .bool, .bool _ => true
  | _, _ => false
def fits : List Ck → List Value → Bool
  | [], [] => true
  | c :: cs, v :: vs => c.fit v && fits cs vs
  | _, _ => false
def cksF (P : Program) (f : TypeId → Option (List Ck)) : List Field → Nat → Option (List Ck)
  | [], _ => some []
  | x :: fs, off => match f x.type with
    | none => none
    | some ks => if x.name != "_" && Nat.beq x.offset off && sizeT P x.type ks.length then (cksF P f fs (off + ks.length)).map (ks ++ ·) else none
def cksT (P : Program) : Nat → TypeId → Option (List Ck)
  | 0, _ => none
  | d + 1, t => match P.underlying t with
    | some (.int k) => some [.int k]
    | some .string => some [.str]
    | some .bool => some [.bool]
    | some (.struct fs) => if P.stoodInHeld t then none else cksF P (cksT P d) fs.toList 0
    | _ => none
def isStT (P : Program) (t : TypeId) : Bool := match P.underlying t with
  | some (.struct _) => true
  | _ => false
/-- Cells as a value of a type. -/
def cellsV (P : Program) (t : TypeId) (vs : List Value) : Value := if isStT P t then .agg vs.toArray else vs.headD .nilIface

theorem fit_int {k : IntKind} {v : Value} (h : (Ck.int k).fit v = true) : ∃ n, v = .int k n := by
  cases v <;> simp [Ck.fit] at h
  subst h; exact ⟨_, rfl⟩
theorem fit_str {v : Value} (h : Ck.str.fit v = true) : ∃ n, v = .string n := by
  cases v <;> simp [Ck.fit] at h
  exact ⟨_, rfl⟩
theorem fit_bool {v : Value} (h : Ck.bool.fit v = true) : ∃ n, v = .bool n := by
  cases v <;> simp [Ck.fit] at h
  exact ⟨_, rfl⟩
theorem fits_len : ∀ {ks : List Ck} {vs : List Value}, fits ks vs = true → vs.length = ks.length
  | [], [], _ => rfl
  | c :: ks, v :: vs, h => by
    simp only [fits, Bool.and_eq_true] at h
    simp [fits_len h.2]
  | [], _ :: _, h => by simp [fits] at h
  | _ :: _, [], h => by simp [fits] at h
theorem fits_app : ∀ {ks ks' : List Ck} {vs : List Value}, fits (ks ++ ks') vs = true → fits ks (vs.take ks.length) = true ∧ fits ks' (vs.drop ks.length) = true
  | [], ks', vs, h => by simpa [fits] using h
  | c :: ks, ks', [], h => by simp [fits] at h
  | c :: ks, ks', v :: vs, h => by
    simp only [List.cons_append, fits, Bool.and_eq_true] at h
    obtain ⟨h1, h2⟩ := fits_app h.2
    simp only [List.length_cons, List.take_succ_cons, List.drop_succ_cons, fits, Bool.and_eq_true]
    exact ⟨⟨h.1, h1⟩, h2⟩
section
variable {P : Program}
theorem run_isAgg {t : TypeId} {d : Nat} {ks : List Ck} (h : cksT P d t = some ks) (w : World) : (isAgg t).run P w = .ok (isStT P t) w := by
  cases d with
  | zero => cases h
  | succ d =>
    unfold cksT at h
    unfold isAgg isStT
    split at h <;> rename_i hu
    · simp [run_underlying hu, hu]
    · simp [run_underlying hu, hu]
    · simp [run_underlying hu, hu]
    · simp [run_underlying hu, hu]
    · cases h
theorem one_of {t : TypeId} {d : Nat} {ks : List Ck} (h : cksT P d t = some ks) (hs : isStT P t = false) : ∃ c, ks = [c] := by
  cases d with
  | zero => cases h
  | succ d =>
    unfold cksT at h
    unfold isStT at hs
    split at h <;> rename_i hu
    · exact ⟨_, (Option.some.inj h).symm⟩
    · exact ⟨_, (Option.some.inj h).symm⟩
    · exact ⟨_, (Option.some.inj h).symm⟩
    · rw [hu] at hs; cases hs
    · cases h
theorem run_part_flat {t : TypeId} {d : Nat} {ks : List Ck} (h : cksT P d t = some ks) (hz : sizeT P t ks.length = true) {cs : List Value} {off : Nat} (hl : off + ks.length ≤ cs.length) (w : World) :
    (part t cs.toArray off).run P w = .ok (cellsV P t ((cs.drop off).take ks.length)) w := by
  unfold part cellsV
  simp only [Sem.run_bind, run_isAgg h, Result.andThen]
  cases hs : isStT P t with
  | true =>
    simp only [if_true, Sem.run_bind, sizeT_spec hz, Result.andThen, Sem.run_pure]
    congr 2
    apply Array.ext'
    simp [List.extract]
  | false =>
    obtain ⟨c, rfl⟩ := one_of h hs
    simp only [List.length_cons, List.length_nil, Nat.zero_add] at hl ⊢
    have hlt : off < cs.length := by omega
    have e : cs.toArray[off]? = some cs[off] := by simp [hlt]
    simp only [Bool.false_eq_true, if_false, e, Sem.run_pure]
    rw [List.drop_eq_getElem_cons hlt]
    rfl

/-! ### equality -/
theorem run_eqF {D d : Nat} (ih : ∀ t ks xs ys, cksT P d t = some ks → fits ks xs = true → fits ks ys = true → ∀ w, ∃ r : Bool, (Op.equalIn D t (cellsV P t xs) (cellsV P t ys)).run P w = .ok r w ∧ (r = true ↔ xs = ys)) (xs ys : List Value) :
    ∀ (fs : List Field) (off : Nat) (ks : List Ck), cksF P (cksT P d) fs off = some ks → off ≤ xs.length → off ≤ ys.length → fits ks (xs.drop off) = true → fits ks (ys.drop off) = true → ∀ w, ∃ r : Bool, (Op.eqFields D xs.toArray ys.toArray fs).run P w = .ok r w ∧ (r = true ↔ xs.drop off = ys.drop off)
  | [], off, ks, h, _, _, hx, hy, w => by
    simp only [cksF, Option.some.injEq] at h
    subst h
    have h1 := List.length_eq_zero_iff.1 (fits_len hx)
    have h2 := List.length_eq_zero_iff.1 (fits_len hy)
    exact ⟨true, by simp [Op.eqFields], by simp [h1, h2]⟩
  | f :: fs, off, ks, h, lx, ly, hx, hy, w => by
    unfold cksF at h
    split at h
    · cases h
    rename_i k1 hk1
    split at h
    · rename_i hc
      simp only [Bool.and_eq_true, bne_iff_ne, ne_eq, Nat.beq_eq] at hc
      obtain ⟨⟨hn, rfl⟩, hz⟩ := hc
      simp only [Option.map_eq_some_iff] at h
      obtain ⟨k2, hk2, rfl⟩ := h
      have ax := fits_app hx
      have ay := fits_app hy
      have cx := fits_len hx
      have cy := fits_len hy
      simp only [List.length_append, List.length_drop] at cx cy
      obtain ⟨r, hr, hiff⟩ := ih f.type k1 _ _ hk1 ax.1 ay.1 w
      obtain ⟨r2, hr2, hiff2⟩ := run_eqF ih xs ys fs _ k2 hk2 (by omega) (by omega) (by rw [← List.drop_drop]; exact ax.2) (by rw [← List.drop_drop]; exact ay.2) w
      unfold Op.eqFields
      rw [if_pos hn]
      simp only [Sem.run_bind, run_part_flat hk1 hz (show f.offset + k1.length ≤ xs.length by omega), run_part_flat hk1 hz (show f.offset + k1.length ≤ ys.length by omega), Result.andThen, hr]
      have hsp : xs.drop f.offset = ys.drop f.offset ↔ ((xs.drop f.offset).take k1.length = (ys.drop f.offset).take k1.length ∧ xs.drop (f.offset + k1.length) = ys.drop (f.offset + k1.length)) := by
        constructor
        · intro e; rw [e, ← List.drop_drop, ← List.drop_drop, e]; exact ⟨rfl, rfl⟩
        · rintro ⟨e1, e2⟩
          rw [← List.take_append_drop k1.length (xs.drop f.offset), ← List.take_append_drop k1.length (ys.drop f.offset), e1, List.drop_drop, List.drop_drop, e2]
      cases r with
      | false =>
        refine ⟨false, by simp, ?_⟩
        rw [hsp, ← hiff]; simp
      | true =>
        refine ⟨r2, by simpa using hr2, ?_⟩
        rw [hsp, ← hiff, hiff2]; simp
    · cases h
theorem str_inj {a b : ByteArray} : (a.toList == b.toList) = true ↔ a = b := by
  obtain ⟨x, rfl⟩ := bs_of a
  obtain ⟨y, rfl⟩ := bs_of b
  rw [bs_list, bs_list, beq_iff_eq]
  exact ⟨fun h => by rw [h], fun h => by have := congrArg ByteArray.toList h; rwa [bs_list, bs_list] at this⟩
theorem run_eq_flat (D : Nat) : ∀ (d : Nat) (t : TypeId) (ks : List Ck) (xs ys : List Value), cksT P d t = some ks → fits ks xs = true → fits ks ys = true → ∀ w, ∃ r : Bool, (Op.equalIn (D + d) t (cellsV P t xs) (cellsV P t ys)).run P w = .ok r w ∧ (r = true ↔ xs = ys)
  | 0, t, ks, xs, ys, h, _, _, w => by cases h
  | d + 1, t, ks, xs, ys, h, hx, hy, w => by
    unfold cksT at h
    have lx := fits_len hx
    have ly := fits_len hy
    split at h <;> rename_i hu
    · injection h with h; subst h
      obtain ⟨x, rfl⟩ := List.length_eq_one_iff.1 lx
      obtain ⟨y, rfl⟩ := List.length_eq_one_iff.1 ly
      simp only [fits, Bool.and_true] at hx hy
      have hs : isStT P t = false := by unfold isStT; rw [hu]
      obtain ⟨a, rfl⟩ := fit_int hx
      obtain ⟨b, rfl⟩ := fit_int hy
      refine ⟨a == b, ?_, by simp⟩
      simp only [cellsV, hs, Bool.false_eq_true, if_false, List.headD_cons]
      exact run_equalIn_int w (D + d) t _ _ _ _ hu
    · injection h with h; subst h
      obtain ⟨x, rfl⟩ := List.length_eq_one_iff.1 lx
      obtain ⟨y, rfl⟩ := List.length_eq_one_iff.1 ly
      simp only [fits, Bool.and_true] at hx hy
      have hs : isStT P t = false := by unfold isStT; rw [hu]
      obtain ⟨a, rfl⟩ := fit_str hx
      obtain ⟨b, rfl⟩ := fit_str hy
      refine ⟨a.toList == b.toList, ?_, by rw [str_inj]; simp⟩
      simp only [cellsV, hs, Bool.false_eq_true, if_false, List.headD_cons]
      exact run_equalIn_string w (D + d) t _ _ hu
    · injection h with h; subst h
      obtain ⟨x, rfl⟩ := List.length_eq_one_iff.1 lx
      obtain ⟨y, rfl⟩ := List.length_eq_one_iff.1 ly
      simp only [fits, Bool.and_true] at hx hy
      have hs : isStT P t = false := by unfold isStT; rw [hu]
      obtain ⟨a, rfl⟩ := fit_bool hx
      obtain ⟨b, rfl⟩ := fit_bool hy
      refine ⟨a == b, ?_, by simp⟩
      simp only [cellsV, hs, Bool.false_eq_true, if_false, List.headD_cons]
      exact run_equalIn_bool' w (D + d) t _ _ hu
    · rename_i fs
      split at h
      · cases h
      rename_i hst
      have hs : isStT P t = true := by unfold isStT; rw [hu]
      have hf : P.fieldsOf t = fs := by unfold Program.fieldsOf; rw [hu]
      simp only [cellsV, hs, if_true]
      rw [show D + (d + 1) = (D + d) + 1 by omega, run_equalIn_agg w (D + d) t _ _ (by rw [hf, hu]) (by simpa using hst), hf]
      have := run_eqF (D := D + d) (fun t ks xs ys h1 h2 h3 w => run_eq_flat D d t ks xs ys h1 h2 h3 w) xs ys fs.toList 0 ks h (Nat.zero_le _) (Nat.zero_le _) (by simpa using hx) (by simpa using hy) w
      simpa using this
    · cases h
theorem run_equal_flat {d : Nat} (hd : d ≤ 10000) {t : TypeId} {ks : List Ck} {xs ys : List Value} (h : cksT P d t = some ks) (hs : isStT P t = true) (hx : fits ks xs = true) (hy : fits ks ys = true) (w : World) : ∃ r : Bool, (Op.equal t (.agg xs.toArray) (.agg ys.toArray)).run P w = .ok r w ∧ (r = true ↔ xs = ys) := by
  have := run_eq_flat (10000 - d) d t ks xs ys h hx hy w
  rw [show 10000 - d + d = 10000 by omega] at this
  unfold Op.equal Op.maxDepth
  simpa only [cellsV, hs, if_true] using this

/-- Two structs are compared. -/
theorem s_eqS {B : World} {Γ : List HProp} {T : TypeId} {ks : List Ck} {xs ys : List Value} {p : Prop} [Decidable p] {x y : Operand} {k : Bool → K} (hp : xs = ys ↔ p) (h : HG B Γ (k (decide p))) (hc : cksT P 9 T = some ks := by kernel_rfl) (hs : isStT P T = true := by kernel_rfl) (hg : P.eqGuardType P.depth T = false := by kernel_rfl) (hx : fits ks xs = true := by rfl) (hy : fits ks ys = true := by rfl) :
    HG B Γ (Pu P (do eqGuard .eql T x y (.agg xs.toArray) (.agg ys.toArray); binOp .eql T (.agg xs.toArray) (.agg ys.toArray) : Sem Value) Value.bool k) := fun w hw => by
  refine ⟨decide p, fun w => ?_, h w hw⟩
  obtain ⟨r, hr, hiff⟩ := run_equal_flat (by omega) hc hs hx hy w
  have e : r = decide p := by rw [Bool.eq_iff_iff, hiff, hp]; simp
  subst e
  simp only [Op.equal, Op.maxDepth] at hr
  simp only [Sem.run_bind, run_eqGuard_agg w _ _ _ _ _ _ hg, Result.andThen, run_eql_struct, hr]
theorem s_neS {B : World} {Γ : List HProp} {T : TypeId} {ks : List Ck} {xs ys : List Value} {p : Prop} [Decidable p] {x y : Operand} {k : Bool → K} (hp : xs = ys ↔ p) (h : HG B Γ (k (!decide p))) (hc : cksT P 9 T = some ks := by kernel_rfl) (hs : isStT P T = true := by kernel_rfl) (hg : P.eqGuardType P.depth T = false := by kernel_rfl) (hx : fits ks xs = true := by rfl) (hy : fits ks ys = true := by rfl) :
    HG B Γ (Pu P (do eqGuard .neq T x y (.agg xs.toArray) (.agg ys.toArray); binOp .neq T (.agg xs.toArray) (.agg ys.toArray) : Sem Value) Value.bool k) := fun w hw => by
  refine ⟨!decide p, fun w => ?_, h w hw⟩
  obtain ⟨r, hr, hiff⟩ := run_equal_flat (by omega) hc hs hx hy w
  have e : r = decide p := by rw [Bool.eq_iff_iff, hiff, hp]; simp
  subst e
  simp only [Op.equal, Op.maxDepth] at hr
  simp only [Sem.run_bind, run_eqGuard_agg w _ _ _ _ _ _ hg, Result.andThen, run_neq_struct, hr]

/-! ### structs as keys -/
theorem run_chkF {D d : Nat} {e : Bool} (ih : ∀ t ks xs, cksT P d t = some ks → fits ks xs = true → ∀ w, (Instr.checkKey e D t (cellsV P t xs)).run P w = .ok () w) (xs : List Value) {body : Field → PUnit → Sem (ForInStep PUnit)}
    (hb : ∀ f v w, f.name ≠ "_" → (part f.type xs.toArray f.offset).run P w = .ok v w → (Instr.checkKey e D f.type v).run P w = .ok () w → (body f PUnit.unit).run P w = .ok (.yield PUnit.unit) w) :
    ∀ (fs : List Field) (off : Nat) (ks : List Ck), cksF P (cksT P d) fs off = some ks → off ≤ xs.length → fits ks (xs.drop off) = true → ∀ w, (forIn fs PUnit.unit body).run P w = .ok PUnit.unit w
  | [], off, ks, h, _, hx, w => by simp
  | f :: fs, off, ks, h, lx, hx, w => by
    unfold cksF at h
    split at h
    · cases h
    rename_i k1 hk1
    split at h
    · rename_i hc
      simp only [Bool.and_eq_true, bne_iff_ne, ne_eq, Nat.beq_eq] at hc
      obtain ⟨⟨hn, rfl⟩, hz⟩ := hc
      simp only [Option.map_eq_some_iff] at h
      obtain ⟨k2, hk2, rfl⟩ := h
      have ax := fits_app hx
      have cx := fits_len hx
      simp only [List.length_append, List.length_drop] at cx
      have h2 := run_chkF ih xs hb fs _ k2 hk2 (by omega) (by rw [← List.drop_drop]; exact ax.2) w
      have h3 := hb f _ w hn (run_part_flat hk1 hz (show f.offset + k1.length ≤ xs.length by omega) w) (ih f.type k1 _ hk1 ax.1 w)
      simp only [List.forIn_cons, Sem.run_bind, h3, Result.andThen]
      exact h2
    · cases h
theorem run_chk_flat (D : Nat) {e : Bool} : ∀ (d : Nat) (t : TypeId) (ks : List Ck) (xs : List Value), cksT P d t = some ks → fits ks xs = true → ∀ w, (Instr.checkKey e (D + d) t (cellsV P t xs)).run P w = .ok () w
  | 0, t, ks, xs, h, _, w => by cases h
  | d + 1, t, ks, xs, h, hx, w => by
    unfold cksT at h
    have lx := fits_len hx
    rw [show D + (d + 1) = (D + d) + 1 by omega]
    split at h <;> rename_i hu
    · injection h with h; subst h
      obtain ⟨x, rfl⟩ := List.length_eq_one_iff.1 lx
      have hs : isStT P t = false := by unfold isStT; rw [hu]
      simp only [cellsV, hs, Bool.false_eq_true, if_false, List.headD_cons]
      unfold Instr.checkKey
      simp [run_underlying hu, Result.andThen]
    · injection h with h; subst h
      obtain ⟨x, rfl⟩ := List.length_eq_one_iff.1 lx
      have hs : isStT P t = false := by unfold isStT; rw [hu]
      simp only [cellsV, hs, Bool.false_eq_true, if_false, List.headD_cons]
      unfold Instr.checkKey
      simp [run_underlying hu, Result.andThen]
    · injection h with h; subst h
      obtain ⟨x, rfl⟩ := List.length_eq_one_iff.1 lx
      have hs : isStT P t = false := by unfold isStT; rw [hu]
      simp only [cellsV, hs, Bool.false_eq_true, if_false, List.headD_cons]
      unfold Instr.checkKey
      simp [run_underlying hu, Result.andThen]
    · rename_i fs
      split at h
      · cases h
      have hs : isStT P t = true := by unfold isStT; rw [hu]
      simp only [cellsV, hs, if_true]
      unfold Instr.checkKey
      simp only [Sem.run_bind, run_underlying hu, Result.andThen]
      rw [← Array.forIn_toList]
      rw [run_chkF (D := D + d) (e := e) (fun t ks xs h1 h2 w => run_chk_flat D d t ks xs h1 h2 w) xs (fun f v w h1 h2 h3 => by rw [if_pos h1]; simp only [Sem.run_bind, h2, h3, Result.andThen, Sem.run_pure]) fs.toList 0 ks h (Nat.zero_le _) (by simpa using hx) w]
      simp
    · cases h

/-- A way to write keys that are structs. -/
structure KeyS {α : Type} (P : Program) (kt : TypeId) (cel : α → List Value) : Prop where
  st : isStT P kt = true
  ks : ∃ ks, cksT P 9 kt = some ks ∧ ∀ a, fits ks (cel a) = true
  inj : ∀ a b, cel a = cel b → a = b
  bits : ∀ a, Instr.sameBits 10000 (.agg (cel a).toArray) (.agg (cel a).toArray) = true
abbrev kyS {α : Type} (cel : α → List Value) (a : α) : Value := .agg (cel a).toArray
section
variable {α β : Type} [DecidableEq α] {B w : World} {Γ Δ : List HProp} {kt : TypeId} {cel : α → List Value} {cV : β → Value} {k : K}
theorem KeyS.chk (hE : KeyS P kt cel) (a : α) (e : Bool) (w : World) : (Instr.checkKey e 10000 kt (kyS cel a)).run P w = .ok () w := by
  obtain ⟨ks, h1, h2⟩ := hE.ks
  have := run_chk_flat 9991 (e := e) 9 kt ks (cel a) h1 (h2 a) w
  simpa only [cellsV, hE.st, if_true] using this
theorem KeyS.eq (hE : KeyS P kt cel) (a b : α) (w : World) : (Op.equal kt (kyS cel a) (kyS cel b)).run P w = .ok (decide (a = b)) w := by
  obtain ⟨ks, h1, h2⟩ := hE.ks
  obtain ⟨r, hr, hiff⟩ := run_equal_flat (d := 9) (by omega) h1 hE.st (h2 a) (h2 b) w
  have e : r = decide (a = b) := by rw [Bool.eq_iff_iff, hiff]; simp; exact ⟨hE.inj a b, fun h => by rw [h]⟩
  rw [← e]; exact hr
theorem run_ask (hE : KeyS P kt cel) (a : α) (w : World) : ∀ (l : List MapEntry) (m : List (α × β)) (i : Nat), l.map (fun e => (e.key, e.val)) = m.map (fun p => (kyS cel p.1, cV p.2)) →
    (mget a m = none ∧ (Instr.findAsking kt (kyS cel a) l i).run P w = .ok none w) ∨ ∃ j x, m[j]? = some (a, x) ∧ (∀ i, i < j → ∀ p, m[i]? = some p → p.1 ≠ a) ∧ (Instr.findAsking kt (kyS cel a) l i).run P w = .ok (some (i + j, cV x)) w
  | [], [], i, _ => .inl ⟨rfl, by simp [Instr.findAsking]⟩
  | [], _ :: _, i, h => by simp at h
  | _ :: _, [], i, h => by simp at h
  | e :: l, p :: m, i, h => by
    simp only [List.map_cons, List.cons.injEq, Prod.mk.injEq] at h
    obtain ⟨⟨e1, e2⟩, h⟩ := h
    unfold Instr.findAsking
    simp only [Sem.run_bind, e1, hE.eq, Result.andThen]
    by_cases hp : a = p.1
    · right
      refine ⟨0, p.2, by rw [hp]; rfl, fun i hi => absurd hi (by omega), ?_⟩
      simp [hp, e2]
    · rcases run_ask hE a w l m (i + 1) h with ⟨h1, h2⟩ | ⟨j, x, h1, h2, h3⟩
      · left
        refine ⟨?_, ?_⟩
        · unfold mget; rw [if_neg hp]; exact h1
        · simpa [hp] using h2
      · right
        refine ⟨j + 1, x, by simpa using h1, fun i' hi q hq => ?_, ?_⟩
        · cases i' with
          | zero => simp at hq; subst hq; exact fun e => hp e.symm
          | succ i' => exact h2 i' (by omega) q (by simpa using hq)
        · simp only [hp, decide_false, Bool.false_eq_true, if_false, h3]
          congr 3; omega
theorem run_findS (hE : KeyS P kt cel) {es : Array MapEntry} {m : List (α × β)} (hr : mrel (kyS cel) cV es m) (a : α) (w : World) :
    ((Instr.findKey kt (kyS cel a) es.toList).run P w = .ok none w ∧ mget a m = none ∧ (∀ v, mset a v m = m ++ [(a, v)]) ∧ mdel a m = m) ∨
    ∃ j x, (Instr.findKey kt (kyS cel a) es.toList).run P w = .ok (some (j, cV x)) w ∧ j < m.length ∧ m[j]? = some (a, x) ∧ mget a m = some x ∧ (∀ v, mset a v m = m.set j (a, v)) ∧ mdel a m = m.eraseIdx j := by
  obtain ⟨fs, hu⟩ : ∃ fs, P.underlying kt = some (.struct fs) := by
    have h1 := hE.st
    unfold isStT at h1
    split at h1
    · rename_i fs hu; exact ⟨fs, hu⟩
    · cases h1
  have hfk : (Instr.findKey kt (kyS cel a) es.toList).run P w = (Instr.findAsking kt (kyS cel a) es.toList 0).run P w := by
    unfold Instr.findKey
    simp only [Sem.run_bind, run_underlying hu, Result.andThen]
    cases es.toList with
    | nil => simp [Instr.findNow, Instr.findAsking]
    | cons e l => simp [Instr.findNow, Instr.sameNow]
  rw [hfk]
  rcases mfind a m with ⟨h1, h2, h3, h4⟩ | ⟨j, x, hj, h0, hb, h1, h2, h3⟩
  · rcases run_ask hE a w es.toList m 0 hr with ⟨_, g2⟩ | ⟨j, x, g1, _, _⟩
    · exact .inl ⟨g2, h1, h2, h3⟩
    · exact absurd rfl (h4 _ (List.mem_of_getElem? g1))
  · rcases run_ask hE a w es.toList m 0 hr with ⟨g1, _⟩ | ⟨j', x', g1, g2, g3⟩
    · rw [g1] at h1; cases h1
    · have hjj : j = j' := by
        rcases Nat.lt_trichotomy j j' with h | h | h
        · exact absurd rfl (g2 j h _ h0)
        · exact h
        · exact absurd rfl (hb j' h _ g1)
      subst hjj
      rw [h0] at g1
      simp only [Option.some.injEq, Prod.mk.injEq, true_and] at g1
      subst g1
      exact .inr ⟨j, x, by simpa using g3, hj, h0, h1, h2, h3⟩
theorem s_look1S {T E : TypeId} {b : Nat} {m : List (α × β)} {z : β} {a : α} {k : β → K} (hE : KeyS P kt cel) (hz : zeroT P E (cV z)) (h : HG B Γ (k ((mget a m).getD z))) (hT : P.underlying T = some (.map kt E) := by kernel_rfl) [p : Own b Γ (MapR (kyS cel) cV b m) Δ] :
    HG B Γ (Rd P (Instr.lookup T (.map (some b)) (kyS cel a) false) cV k) := fun w hw => by
  obtain ⟨es, c, ⟨hr, hst⟩, h1⟩ := MapR.opens (hw.perm p.perm)
  have hb := h1.block
  refine ⟨_, ?_, h w hw⟩
  unfold Instr.lookup
  simp only [Sem.run_bind, run_underlying hT, Result.andThen, MapKept.run_getObj_map hb, hE.chk, Sem.run_pure]
  rcases run_findS hE hr a w with ⟨g1, g2, _⟩ | ⟨j, x, g1, _, _, g2, _⟩
  · simp only [g1, Result.andThen, Sem.run_bind, zeroT_spec hz, Sem.run_pure, g2]; rfl
  · simp only [g1, Result.andThen, Sem.run_bind, Sem.run_pure, g2]; rfl
theorem s_look2S {T E : TypeId} {b : Nat} {m : List (α × β)} {z : β} {a : α} {k : β → Bool → K} (hE : KeyS P kt cel) (hz : zeroT P E (cV z)) (h : HG B Γ (k ((mget a m).getD z) (mget a m).isSome)) (hT : P.underlying T = some (.map kt E) := by kernel_rfl) [p : Own b Γ (MapR (kyS cel) cV b m) Δ] :
    HG B Γ (Rd2 P (Instr.lookup T (.map (some b)) (kyS cel a) true) (fun x y => .tuple #[cV x, .bool y]) k) := fun w hw => by
  obtain ⟨es, c, ⟨hr, hst⟩, h1⟩ := MapR.opens (hw.perm p.perm)
  have hb := h1.block
  refine ⟨_, _, ?_, h w hw⟩
  unfold Instr.lookup
  simp only [Sem.run_bind, run_underlying hT, Result.andThen, MapKept.run_getObj_map hb, hE.chk, Sem.run_pure]
  rcases run_findS hE hr a w with ⟨g1, g2, _⟩ | ⟨j, x, g1, _, _, g2, _⟩
  · simp only [g1, Result.andThen, Sem.run_bind, zeroT_spec hz, Sem.run_pure, g2]; rfl
  · simp only [g1, Result.andThen, Sem.run_bind, Sem.run_pure, g2]; rfl
theorem s_updS {T E : TypeId} {b : Nat} {m : List (α × β)} {a : α} {v : β} {x : Value} (hE : KeyS P kt cel) (hx : x = cV v) (h : HG B (MapR (kyS cel) cV b (mset a v m) :: Δ) k) (hT : P.underlying T = some (.map kt E) := by kernel_rfl) [p : Own b Γ (MapR (kyS cel) cV b m) Δ] :
    HG B Γ (DoU P (Instr.mapUpdate T (.map (some b)) (kyS cel a) x) k) := fun w hw => by
  subst hx
  obtain ⟨es, c, ⟨hr, hst⟩, h1⟩ := MapR.opens (hw.perm p.perm)
  have hb := h1.block
  have hlen : es.size = m.length := by have := congrArg List.length hr; simpa using this
  unfold Instr.mapUpdate DoU
  simp only [Sem.run_bind, run_underlying hT, Result.andThen, MapKept.run_getObj_map hb, hE.chk]
  rcases run_findS hE hr a w with ⟨g1, _, h2, _⟩ | ⟨j, x, g1, hj, h0, _, h2, _⟩
  · simp only [g1, Result.andThen]
    obtain ⟨e1, h3⟩ := h1.setMap (P := P) (es' := es.push { key := kyS cel a, val := cV v, born := c }) (c' := c + 1)
    refine ⟨_, _, e1, h _ (MapR.shuts ⟨?_, stamps_push hst _ _⟩ h3)⟩
    rw [h2]
    simp only [mrel, Array.toList_push, List.map_append, List.map_cons, List.map_nil]
    rw [show es.toList.map (fun e => (e.key, e.val)) = _ from hr]
  · have hes : ∃ e, es.toList[j]? = some e ∧ e.key = kyS cel a := by
      have := mrel_at hr j
      rw [h0] at this
      cases he : es.toList[j]? with
      | none => rw [he] at this; simp at this
      | some e =>
        rw [he] at this
        simp only [Option.map_some, Option.some.injEq, Prod.mk.injEq] at this
        exact ⟨e, rfl, this.1⟩
    obtain ⟨e, he, hek⟩ := hes
    have he2 : es[j]? = some e := by rw [← he, Array.getElem?_toList]
    simp only [g1, Result.andThen, Sem.run_bind, he2, Option.map_some, Option.getD_some, hek, Instr.keyThatStays, kyS, hE.bits, if_true, Sem.run_pure]
    obtain ⟨e1, h3⟩ := h1.setMap (P := P) (es' := es.modify j fun e => { e with key := kyS cel a, val := cV v }) (c' := c)
    refine ⟨_, _, e1, h _ (MapR.shuts ⟨?_, stamps_modify hst _ _ _⟩ h3)⟩
    rw [h2]
    simp only [mrel]
    apply List.ext_getElem?
    intro i
    have hi := mrel_at hr i
    simp only [List.getElem?_map, Array.getElem?_toList, Array.getElem?_modify] at hi ⊢
    by_cases hij : j = i
    · subst hij
      rw [List.getElem?_set_self hj, he2]
      simp
    · rw [List.getElem?_set_ne hij, if_neg hij]
      exact hi
theorem s_mdeleteS {T E t : TypeId} {b : Nat} {m : List (α × β)} {a : α} {k : Value → K} (hE : KeyS P kt cel) (h : HG B (MapR (kyS cel) cV b (mdel a m) :: Δ) (k (.tuple #[]))) (hT : P.underlying T = some (.map kt E) := by kernel_rfl) [p : Own b Γ (MapR (kyS cel) cV b m) Δ] :
    HG B Γ (Do P (Builtin.delete_ #[T, kt] t #[.map (some b), kyS cel a]) id k) := fun w hw => by
  obtain ⟨es, c, ⟨hr, hst⟩, h1⟩ := MapR.opens (hw.perm p.perm)
  have hb := h1.block
  have hlen : es.size = m.length := by have := congrArg List.length hr; simpa using this
  have e0 : #[T, kt][0]? = some T := rfl
  have e1 : #[Value.map (some b), kyS cel a][0]? = some (.map (some b)) := rfl
  have e2 : #[Value.map (some b), kyS cel a][1]? = some (kyS cel a) := rfl
  unfold Builtin.delete_ Do
  simp only [e0, e1, e2, Sem.run_bind, run_underlying hT, Result.andThen, MapKept.run_getObj_map hb, hE.chk]
  rcases run_findS hE hr a w with ⟨g1, _, _, h2⟩ | ⟨j, x, g1, hj, h0, _, _, h2⟩
  · simp only [g1, Result.andThen, Sem.run_bind]
    obtain ⟨e3, h3⟩ := h1.setMap (P := P) (es' := es) (c' := c)
    refine ⟨.tuple #[], _, ?_, h _ (MapR.shuts ⟨?_, hst⟩ h3)⟩
    · simp only [Sem.run_bind, e3, Result.andThen, Sem.run_pure]; rfl
    rw [h2]; exact hr
  · simp only [g1, Result.andThen, Sem.run_bind]
    obtain ⟨e3, h3⟩ := h1.setMap (P := P) (es' := es.eraseIdxIfInBounds j) (c' := c)
    refine ⟨.tuple #[], _, ?_, h _ (MapR.shuts ⟨?_, stamps_erase hst _⟩ h3)⟩
    · simp only [Sem.run_bind, e3, Result.andThen, Sem.run_pure]; rfl
    rw [h2]
    have hjs : j < es.size := by omega
    simp only [mrel, Array.eraseIdxIfInBounds, dif_pos hjs, Array.toList_eraseIdx]
    have mape : ∀ {α β : Type} (f : α → β) (l : List α) (i : Nat), (l.eraseIdx i).map f = (l.map f).eraseIdx i := by
      intro α β f l
      induction l with
      | nil => intro i; simp
      | cons x l ih => intro i; cases i <;> simp [ih]
    rw [mape, mape, show es.toList.map (fun e => (e.key, e.val)) = _ from hr]

/-! ### ranges over maps -/
theorem s_range {enc : α → Value} {T E : TypeId} {d : TypeDesc} {b : Nat} {m : List (α × β)} {k : Option Addr → K} (hT : mapIs P T d E) (h : ∀ r, HG B (MapIt enc cV b r m m none :: Δ) (k (some ⟨r, 0, none⟩))) [p : Own b Γ (MapR enc cV b m) Δ] :
    HG B Γ (Do P (Instr.range T (.map (some b))) Value.pointer k) := fun w hw => r_range hT (hw.perm p.perm) fun r w hw => h r w hw
class OwnI (r : Nat) (Γ : List HProp) (A : outParam HProp) (Δ : outParam (List HProp)) : Prop where perm : Γ.Perm (A :: Δ)
instance (priority := low) ownI_tail {r : Nat} {X A : HProp} {Γ Δ : List HProp} [h : OwnI r Γ A Δ] : OwnI r (X :: Γ) A (X :: Δ) := ⟨perm_tail h.perm⟩
instance (priority := high) ownI_it {α β : Type} [DecidableEq α] {enc : α → Value} {cV : β → Value} {b r : Nat} {m left : List (α × β)} {cur : Option (α × β)} {Γ : List HProp} : OwnI r (MapIt enc cV b r m left cur :: Γ) (MapIt enc cV b r m left cur) Γ := ⟨.refl _⟩
theorem s_extr {α : Type} {vs : List Value} {i : Nat} {c : α → Value} {v : Value} {x : α} {k : α → K} (h : HG B Γ (k x)) [n : NthV vs i v] [e : Cv c v x] : HG B Γ (Ext (.tuple vs.toArray) i c k) := fun w hw => ⟨_, x, rfl, by have := n.h; rw [nth_eq] at this; rw [e.h] at this; simpa using this, h w hw⟩
instance nx_ext {α : Type} {vs : List Value} {i : Nat} {c : α → Value} {v : Value} {x : α} {k : α → K} [n : NthV vs i v] [e : Cv c v x] : Nx B Γ (Ext (.tuple vs.toArray) i c k) Γ (k x) := ⟨fun h => s_extr h⟩
theorem s_next {enc : α → Value} {b r : Nat} {m left : List (α × β)} {cur : Option (α × β)} {k : Value → K} (h0 : left = [] → HG B (MapR enc cV b m :: Δ) (k (.tuple #[.bool false])))
    (h1 : ∀ l1 p l2, left = l1 ++ p :: l2 → p ∈ m → HG B (MapIt enc cV b r m (l1 ++ l2) (some p) :: Δ) (k (.tuple #[.bool true, enc p.1, cV p.2]))) [p : OwnI r Γ (MapIt enc cV b r m left cur) Δ] :
    HG B Γ (Do P (Instr.next (.pointer (some ⟨r, 0, none⟩)) false 0) id k) := fun w hw => r_next (hw.perm p.perm) (fun h w hw => h0 h w hw) fun l1 q l2 w e hq hw => h1 l1 q l2 e hq w hw
theorem s_entry {enc : α → Value} {b r : Nat} {m left : List (α × β)} {q : α × β} {k : Value → K} (h : HG B Γ (k (.tuple #[enc q.1, cV q.2]))) [p : OwnI r Γ (MapIt enc cV b r m left (some q)) Δ] :
    HG B Γ (Do P (Instr.entry (.pointer (some ⟨r, 0, none⟩))) id k) := fun w hw => r_entry (hw.perm p.perm) (h w hw)
theorem s_itEnd {enc : α → Value} {b r : Nat} {m left : List (α × β)} {cur : Option (α × β)} (h : HG B (MapR enc cV b m :: Δ) k) [p : OwnI r Γ (MapIt enc cV b r m left cur) Δ] : HG B Γ k := fun w hw => h w (MapIt.ends (hw.perm p.perm))
end
end
end Go.Sep
/- The library's IndexFunc, DeleteFunc and their kin, whatever the elements. Holds for every program. -/
namespace Go.Sep
open Go Go.RowKit
set_option linter.unusedSimpArgs false
set_option linter.unusedVariables false

/-- An element is read. -/
abbrev accN (esz : Nat) (s : Sl) (i : Int) (k : Value → K) : K := Idx s i esz fun t => LdN t esz fun a => k (.agg a)
abbrev acc1 {α : Type} (c : α → Value) (s : Sl) (i : Int) (k : Value → K) : K := Idx s i 1 fun t => Ld t c fun a => k (c a)
/-- slices.IndexFunc, as it is printed. -/
def idxFK (P : Program) (acc : Sl → Int → (Value → K) → K) (s : Sl) (fv : Value) (Q : Int → K) : K :=
  LoopK (α := Int) (fun X x =>
    Ite (decide (x < (s.n : Int)))
      (acc s x fun v =>
      CallV P fv [v] <| Ans1 (fun (t : Bool) => Value.bool t) fun b =>
      Ite b
        (Q x)
        (Ar (IntKind.wrap .i64 (x + 1)) fun t =>
        X t))
      (Q (-1))) 0
def findG {γ α : Type} (p : γ → α → Bool) (st : γ → α → γ) : γ → List α → γ × Option Nat
  | g, [] => (g, none)
  | g, x :: L => if p g x then (st g x, some 0) else ((findG p st (st g x) L).1, (findG p st (st g x) L).2.map (· + 1))
def idxI : Option Nat → Int
  | none => -1
  | some i => i
def delG {γ α : Type} (p : γ → α → Bool) (st : γ → α → γ) : γ → List α → γ × List α
  | g, [] => (g, [])
  | g, x :: L => ((delG p st (st g x) L).1, if p g x then (delG p st (st g x) L).2 else x :: (delG p st (st g x) L).2)
section
variable {P : Program} {B : World} {Γ Δ : List HProp} {α γ : Type}
theorem delG_cons {p : γ → α → Bool} {st : γ → α → γ} {g : γ} {x : α} {L : List α} : delG p st g (x :: L) = ((delG p st (st g x) L).1, if p g x then (delG p st (st g x) L).2 else x :: (delG p st (st g x) L).2) := rfl
theorem findG_cons {p : γ → α → Bool} {st : γ → α → γ} {g : γ} {x : α} {L : List α} : findG p st g (x :: L) = if p g x then (st g x, some 0) else ((findG p st (st g x) L).1, (findG p st (st g x) L).2.map (· + 1)) := rfl
/-- A whole block is read. -/
theorem s_ldW {b n : Nat} {l : List Value} {T : TypeId} {fz : Nat × Nat} {k : Array Value → K} (h : HG B Γ (k l.toArray)) (hl : l.length = n) [p : Own b Γ (blk b (.cells l.toArray T fz)) Δ] : HG B Γ (LdN ⟨b, 0, none⟩ n k) :=
  s_ldN (b := b) (off := 0) (l' := l) h (by rw [List.drop_zero, List.take_of_length_le (Nat.le_of_eq hl)]) hl
theorem s_idxF {R : γ → List HProp} {acc : Sl → Int → (Value → K) → K} {s : Sl} {fv : Value} {vV : α → Value} {Q : Int → K} {L : List α} (p : γ → α → Bool) (st : γ → α → γ) (g0 : γ) (I : γ → List α → Prop) (hI : I g0 L) (hIs : ∀ g x C, I g (x :: C) → I (st g x) C) (hn : s.n = L.length) (hL : L.length < 1000000000)
    (hacc : ∀ g (i : Nat) x k, L[i]? = some x → HG B (R g) (k (vV x)) → HG B (R g) (acc s (i : Int) k))
    (hf : ∀ g x C (q : Bool → K), x ∈ L → I g (x :: C) → HG B (R (st g x)) (q (p g x)) → HG B (R g) (CallV P fv [vV x] (Ans1 (fun (t : Bool) => Value.bool t) q)))
    (h : HG B (R (findG p st g0 L).1) (Q (idxI (findG p st g0 L).2))) : HG B (R g0) (idxFK P acc s fv Q) := by
  unfold idxFK
  refine s_loop (α := Int) (ι := Nat × γ) (fun x i => x = (i.1 : Int) ∧ i.1 ≤ L.length ∧ I i.2 (L.drop i.1) ∧ findG p st g0 L = ((findG p st i.2 (L.drop i.1)).1, (findG p st i.2 (L.drop i.1)).2.map (· + i.1)))
    (fun x i => R i.2) (fun x i => L.length - i.1) (0, g0) ⟨rfl, Nat.zero_le _, hI, by simp⟩ ?_
  rintro k' _ ⟨i, g⟩ ⟨rfl, hi, hIg, he⟩ hk'
  simp only at hi hIg he hk' ⊢
  refine s_ite (fun hb => ?_) fun hb => ?_
  · have hil : i < L.length := by simp only [decide_eq_true_eq] at hb; omega
    have hge : L[i]? = some L[i] := List.getElem?_eq_getElem hil
    rw [List.drop_eq_getElem_cons hil] at he hIg
    have hm : L[i] ∈ L := List.getElem_mem hil
    generalize L[i] = x at hge he hm hIg
    refine hacc g i x _ hge ?_
    refine hf g x _ _ hm hIg ?_
    rw [findG_cons] at he
    refine s_ite (fun hp => ?_) fun hp => ?_
    · rw [if_pos hp] at he
      rw [he] at h
      simpa [idxI] using h
    · rw [if_neg (by simp [hp])] at he
      refine s_ai ?_
      refine hk' _ (i + 1, st g x) ⟨by simp, hil, hIs _ _ _ hIg, ?_⟩ (by simp only; omega)
      simp only
      rw [he, Option.map_map]
      congr 2
      funext y
      simp only [Function.comp]; omega
  · have hil : i = L.length := by simp only [decide_eq_false_iff_not] at hb; omega
    rw [hil, List.drop_length] at he
    rw [he] at h
    simpa [findG, idxI] using h
theorem findG_pure (p : α → Bool) : ∀ L : List α, (findG (fun (_ : Unit) x => p x) (fun _ _ => ()) () L).2 = L.findIdx? p
  | [] => rfl
  | x :: L => by
    rw [findG_cons, List.findIdx?_cons]
    split
    · rfl
    · rw [findG_pure p L]
theorem delG_pure (p : α → Bool) : ∀ L : List α, (delG (fun (_ : Unit) x => p x) (fun _ _ => ()) () L).2 = L.filter fun x => !p x
  | [] => rfl
  | x :: L => by
    rw [delG_cons, delG_pure p L, List.filter_cons]
    cases p x <;> simp
/-- With a predicate that leaves the world. -/
theorem s_idxFp {acc : Sl → Int → (Value → K) → K} {s : Sl} {fv : Value} {vV : α → Value} {Q : Int → K} {L : List α} (p : α → Bool) (hn : s.n = L.length) (hL : L.length < 1000000000)
    (hacc : ∀ (i : Nat) x k, L[i]? = some x → HG B Γ (k (vV x)) → HG B Γ (acc s (i : Int) k))
    (hf : ∀ x (q : Bool → K), x ∈ L → HG B Γ (q (p x)) → HG B Γ (CallV P fv [vV x] (Ans1 (fun (t : Bool) => Value.bool t) q)))
    (h : HG B Γ (Q (idxI (L.findIdx? p)))) : HG B Γ (idxFK P acc s fv Q) :=
  s_idxF (R := fun _ => Γ) (fun (_ : Unit) x => p x) (fun _ _ => ()) () (fun _ _ => True) trivial (fun _ _ _ _ => trivial) hn hL (fun _ => hacc) (fun _ x _ q hx _ => hf x q hx) (by rw [findG_pure]; exact h)
theorem idxI_nonneg (o : Option Nat) : decide ((0 : Int) ≤ idxI o) = o.isSome := by
  cases o <;> simp [idxI]
theorem any_idx (p : α → Bool) (L : List α) : (L.findIdx? p).isSome = L.any p := by simp [List.findIdx?_isSome]
/-- Elements of one's own, and of others. -/
theorem acc_own {f : α → List Value} {esz E : Nat} {s : Sl} {L : List α} {i : Nat} {x : α} {k : Value → K} (hf : ∀ x, (f x).length = esz) (he : 0 < esz) (hx : L[i]? = some x) (h : HG B Γ (k (.agg (f x).toArray))) [o : OwnS s Γ (SlC E esz s (L.flatMap f)) Δ] : HG B Γ (accN esz s (i : Int) k) :=
  s_idxN f hf (fun w hw => (own_rd hw (p := o)).1) hx h rfl he
theorem acc_rd {f : α → List Value} {esz : Nat} {s : Sl} {L : List α} {i : Nat} {x : α} {k : Value → K} (hf : ∀ x, (f x).length = esz) (he : 0 < esz) (hr : ∀ w, Holds B Γ w → RdC w s esz (L.flatMap f)) (hx : L[i]? = some x) (h : HG B Γ (k (.agg (f x).toArray))) : HG B Γ (accN esz s (i : Int) k) :=
  s_idxN f hf hr hx h rfl he
theorem acc1_own {β : Type} {c : β → Value} {E : Nat} {s : Sl} {L : List β} {i : Nat} {x : β} {k : Value → K} (hx : L[i]? = some x) (h : HG B Γ (k (c x))) [o : OwnS s Γ (SlC E 1 s (L.map c)) Δ] : HG B Γ (acc1 c s (i : Int) k) :=
  s_idx1 (fun w hw => (own_rd hw (p := o)).1) hx h
theorem acc1_rd {β : Type} {c : β → Value} {s : Sl} {L : List β} {i : Nat} {x : β} {k : Value → K} (hr : ∀ w, Holds B Γ w → RdC w s 1 (L.map c)) (hx : L[i]? = some x) (h : HG B Γ (k (c x))) : HG B Γ (acc1 c s (i : Int) k) :=
  s_idx1 hr hx h

/-! ### DeleteFunc -/
/-- slices.DeleteFunc over elements of some cells, as it is printed; idx is its IndexFunc. -/
def delFN (P : Program) (idx : Sl → Value → (Int → K) → K) (E T t esz : Nat) (zs : List Value) (s : Sl) (fv : Value) (Q : Sl → K) : K :=
  idx s fv fun t10 =>
  Ite (decide (t10 = (-1)))
    (Q s)
    (Ar (IntKind.wrap .i64 (t10 + 1)) fun t15 =>
    LoopK (α := Int × Int) (fun X x =>
      Ite (decide (x.2 < (s.n : Int)))
        (Idx s x.2 esz fun t24 =>
        LdN t24 esz fun t25 =>
        New E zs.toArray fun v7 =>
        StN v7 esz t25 <|
        LdN v7 esz fun t27 =>
        CallV P fv [(.agg t27)] <| Ans1 (fun (t28 : Bool) => Value.bool t28) fun t28 =>
        Ite (!t28)
          (LdN v7 esz fun t32 =>
          Idx s x.1 esz fun t33 =>
          StN t33 esz t32 <|
          Ar (IntKind.wrap .i64 (x.1 + 1)) fun t35 =>
          Ar (IntKind.wrap .i64 (x.2 + 1)) fun t21 =>
          X (t35, t21))
          (Ar (IntKind.wrap .i64 (x.2 + 1)) fun t21 =>
          X (x.1, t21)))
        (Slc s x.1 (s.n : Int) (s.c : Int) esz fun t38 =>
        Do P (Builtin.clear_ #[T] t #[(Sl.val t38)]) id fun _ =>
        Slc s 0 x.1 (s.c : Int) esz fun t41 =>
        Q t41)) (t10, t15))
def delF1 {β : Type} (P : Program) (idx : Sl → Value → (Int → K) → K) (T t : Nat) (c : β → Value) (s : Sl) (fv : Value) (Q : Sl → K) : K :=
  idx s fv fun t10 =>
  Ite (decide (t10 = (-1)))
    (Q s)
    (Ar (IntKind.wrap .i64 (t10 + 1)) fun t15 =>
    LoopK (α := Int × Int) (fun X x =>
      Ite (decide (x.2 < (s.n : Int)))
        (Idx s x.2 1 fun t24 =>
        Ld t24 c fun t25 =>
        CallV P fv [c t25] <| Ans1 (fun (t28 : Bool) => Value.bool t28) fun t28 =>
        Ite (!t28)
          (Idx s x.1 1 fun t33 =>
          St t33 (c t25) <|
          Ar (IntKind.wrap .i64 (x.1 + 1)) fun t35 =>
          Ar (IntKind.wrap .i64 (x.2 + 1)) fun t21 =>
          X (t35, t21))
          (Ar (IntKind.wrap .i64 (x.2 + 1)) fun t21 =>
          X (x.1, t21)))
        (Slc s x.1 (s.n : Int) (s.c : Int) 1 fun t38 =>
        Do P (Builtin.clear_ #[T] t #[(Sl.val t38)]) id fun _ =>
        Slc s 0 x.1 (s.c : Int) 1 fun t41 =>
        Q t41)) (t10, t15))
/-- Where the first one goes. -/
theorem findG_del (p : γ → α → Bool) (st : γ → α → γ) {I : γ → List α → Prop} (hIs : ∀ g x C, I g (x :: C) → I (st g x) C) : ∀ (g : γ) (L : List α), I g L → ((findG p st g L).2 = none ∧ delG p st g L = ((findG p st g L).1, L)) ∨
    ∃ A x C, L = A ++ x :: C ∧ (findG p st g L).2 = some A.length ∧ I (findG p st g L).1 C ∧ delG p st g L = ((delG p st (findG p st g L).1 C).1, A ++ (delG p st (findG p st g L).1 C).2)
  | g, [], _ => .inl ⟨rfl, rfl⟩
  | g, x :: L, hI => by
    rw [findG_cons, delG_cons]
    by_cases hp : p g x = true
    · right
      exact ⟨[], x, L, rfl, by simp [hp], by simpa [hp] using hIs _ _ _ hI, by simp [hp]⟩
    · rcases findG_del p st hIs (st g x) L (hIs _ _ _ hI) with ⟨h1, h2⟩ | ⟨A, y, C, rfl, h2, h4, h3⟩
      · left
        simp only [hp, Bool.false_eq_true, if_false, h1, h2, Option.map_none, and_self]
      · right
        refine ⟨x :: A, y, C, rfl, ?_, ?_, ?_⟩
        · simp only [hp, Bool.false_eq_true, if_false, h2, Option.map_some, List.length_cons]
        · simpa only [hp, Bool.false_eq_true, if_false] using h4
        · simp only [hp, Bool.false_eq_true, if_false, h3, List.cons_append]
theorem set_take {M : List α} {i : Nat} {x : α} (hi : i < M.length) : (M.set i x).take (i + 1) = M.take i ++ [x] := by
  rw [List.take_succ_eq_append_getElem (by simpa using hi), List.take_set_of_le (Nat.le_refl _), List.getElem_set_self]
theorem set_drop {M : List α} {i j : Nat} {x : α} (hij : i < j) : (M.set i x).drop j = M.drop j := by rw [List.drop_set_of_lt hij]
theorem flatMap_set {f : α → List Value} {esz E : Nat} {s : Sl} {M : List α} {i : Nat} {x : α} {k : K} (hf : ∀ x, (f x).length = esz) (hfl : (f x).all flatV = true) (hi : i < M.length) (h : HG B (SlC E esz s ((M.set i x).flatMap f) :: Δ) k) [o : OwnS s Γ (SlC E esz s (M.flatMap f)) Δ] : HG B Γ (StN (elA s i esz) esz (f x).toArray k) := by
  have e1 : M = M.take i ++ M[i] :: M.drop (i + 1) := by rw [← List.drop_eq_getElem_cons hi, List.take_append_drop]
  have e2 : M.set i x = M.take i ++ x :: M.drop (i + 1) := by rw [List.set_eq_take_append_cons_drop, if_pos hi]
  have hl : (M.take i).length = i := by rw [List.length_take]; omega
  rw [e2] at h
  refine fun w hw => ?_
  have hw2 := hw.perm o.perm
  rw [e1] at hw2
  rw [show elA s i esz = elA s (M.take i).length esz by rw [hl]]
  refine hg hw2 ?_
  rw [← add0 (elA s (M.take i).length esz)]
  refine s_stEN (s := s) (us := f x) ?_ (hf x) ?_ hfl
  · have e : layAt ((M.take i ++ M[i] :: M.drop (i + 1)).flatMap f) ((M.take i).length * esz + 0) (f x) = (M.take i ++ x :: M.drop (i + 1)).flatMap f := by
      have e1 : (M.take i ++ M[i] :: M.drop (i + 1)).flatMap f = (M.take i).flatMap f ++ (f M[i] ++ (M.drop (i + 1)).flatMap f) := by simp only [List.flatMap_append, List.flatMap_cons]
      have e2 : (M.take i ++ x :: M.drop (i + 1)).flatMap f = (M.take i).flatMap f ++ (f x ++ (M.drop (i + 1)).flatMap f) := by simp only [List.flatMap_append, List.flatMap_cons]
      rw [e1, e2, layAt_mid (by simp [flatMap_len f esz hf]) (by rw [hf, hf])]
    rw [e]; exact h
  · have e3 : ((M.take i ++ M[i] :: M.drop (i + 1)).flatMap f).length = ((M.take i).length + ((M.drop (i + 1)).length + 1)) * esz := by rw [flatMap_len f esz hf]; simp only [List.length_append, List.length_cons]
    rw [e3, Nat.add_mul, Nat.add_mul]; omega
theorem flatMap_tk {f : α → List Value} {esz : Nat} (hf : ∀ x, (f x).length = esz) : ∀ (L : List α) (i : Nat), (L.flatMap f).take (i * esz) = (L.take i).flatMap f
  | L, 0 => by simp
  | [], i + 1 => by simp
  | x :: L, i + 1 => by
    rw [List.flatMap_cons, List.take_succ_cons, List.flatMap_cons, ← flatMap_tk hf L i, Nat.add_mul, Nat.one_mul, Nat.add_comm, ← hf x, List.take_length_add_append]
/-- DeleteFunc. -/
theorem s_delFN {R : γ → List HProp} {idx : Sl → Value → (Int → K) → K} {E T t esz : Nat} {zs : List Value} {s : Sl} {fv : Value} {Q : Sl → K} {f : α → List Value} {L : List α} (p : γ → α → Bool) (st : γ → α → γ) (g0 : γ) (I : γ → List α → Prop) (hI : I g0 L) (hIs : ∀ g x C, I g (x :: C) → I (st g x) C)
    (hidx : ∀ s fv Q w, idxFK P (accN esz) s fv Q w → idx s fv Q w) (hf : ∀ x, (f x).length = esz) (he : 0 < esz) (hfl : ∀ x, (f x).all flatV = true) (hz : zs.length = esz) (hL : L.length < 1000000000)
    (hc : ∀ Ξ g x C (q : Bool → K), x ∈ L → I g (x :: C) → HG B (Ξ :: R (st g x)) (q (p g x)) → HG B (Ξ :: R g) (CallV P fv [(.agg (f x).toArray)] (Ans1 (fun (t : Bool) => Value.bool t) q)))
    (h : ∀ s', s'.n = (delG p st g0 L).2.length → HG B (SlC E esz s' ((delG p st g0 L).2.flatMap f) :: R (delG p st g0 L).1) (Q s')) (hT : appT P T T E esz = true := by kernel_rfl) :
    HG B (SlC E esz s (L.flatMap f) :: R g0) (delFN P idx E T t esz zs s fv Q) := by
  unfold delFN
  refine s_cap s fun a1 a2 a3 a4 => ?_
  rw [flatMap_len f esz hf] at a1
  have hn : s.n = L.length := (Nat.eq_of_mul_eq_mul_right he a1).symm
  refine fun w hw => hidx _ _ _ _ ?_
  refine hg hw ?_
  clear hw w
  refine s_idxF (R := fun g => SlC E esz s (L.flatMap f) :: R g) (vV := fun x => .agg (f x).toArray) p st g0 I hI hIs hn hL (fun g i x k hx hk => acc_own hf he hx hk) (fun g x C q hx hI hq => hc _ g x C q hx hI hq) ?_
  rcases findG_del p st hIs g0 L hI with ⟨h1, h2⟩ | ⟨A, x, C, rfl, h1, hI1, h2⟩
  · rw [h1]
    rw [h2] at h
    refine s_t ?_ (by simp [idxI])
    exact h s hn
  rw [h1]
  have hlen : (A ++ x :: C).length = A.length + (C.length + 1) := List.length_append
  generalize (findG p st g0 (A ++ x :: C)).1 = g1 at *
  refine s_f ?_ (by simp [idxI])
  simp only [idxI]
  refine s_ai ?_
  refine s_loop (α := Int × Int) (ι := Nat × Nat × List α × γ) (fun y i => y.1 = (i.1 : Int) ∧ y.2 = (i.2.1 : Int) ∧ i.1 < i.2.1 ∧ i.2.1 ≤ (A ++ x :: C).length ∧ i.2.2.1.length = (A ++ x :: C).length ∧ i.2.2.1.drop i.2.1 = (A ++ x :: C).drop i.2.1 ∧ I i.2.2.2 ((A ++ x :: C).drop i.2.1) ∧ delG p st g0 (A ++ x :: C) = ((delG p st i.2.2.2 ((A ++ x :: C).drop i.2.1)).1, i.2.2.1.take i.1 ++ (delG p st i.2.2.2 ((A ++ x :: C).drop i.2.1)).2))
    (fun y i => SlC E esz s (i.2.2.1.flatMap f) :: R i.2.2.2) (fun y i => (A ++ x :: C).length - i.2.1) (A.length, A.length + 1, A ++ x :: C, g1) ⟨rfl, by simp, by simp, by simp, rfl, rfl, ?_, ?_⟩ ?_
  · simp only
    have e : (A ++ x :: C).drop (A.length + 1) = C := by rw [show A ++ x :: C = (A ++ [x]) ++ C by simp]; exact List.drop_left' (by simp)
    rw [e]; exact hI1
  · simp only
    have e : (A ++ x :: C).drop (A.length + 1) = C := by rw [show A ++ x :: C = (A ++ [x]) ++ C by simp]; exact List.drop_left' (by simp)
    rw [e, List.take_left, h2]
  rintro k' ⟨_, _⟩ ⟨i, j, M, g⟩ ⟨rfl, rfl, hij, hj, hM, hd, hIg, hdel⟩ hk'
  simp only at hij hj hM hd hIg hdel hk' ⊢
  refine s_ite (fun hb => ?_) fun hb => ?_
  · have hjl : j < (A ++ x :: C).length := by simp only [decide_eq_true_eq] at hb; omega
    have hMj : M[j]? = some (A ++ x :: C)[j] := by
      have := congrArg (·[0]?) hd
      simp only [List.getElem?_drop, Nat.add_zero] at this
      rw [this, List.getElem?_eq_getElem hjl]
    have hmem : (A ++ x :: C)[j] ∈ A ++ x :: C := List.getElem_mem hjl
    have hdrop := List.drop_eq_getElem_cons hjl
    rw [hdrop] at hdel hIg
    generalize (A ++ x :: C)[j] = y at hMj hmem hdel hdrop hIg
    rw [delG_cons] at hdel
    refine s_idxN f hf (fun w hw => (own_rd (s := s) hw).1) hMj ?_
    refine s_new fun v7 => ?_
    refine s_stN (b := v7) ?_ hz (hf y) (hfl y)
    refine s_ldW (b := v7) ?_ (hf y)
    refine s_unflat (Δ := [blk v7 (.cells (f y).toArray E (0, 0)), SlC E esz s (M.flatMap f)]) ?_
    refine hc _ g y _ _ hmem hIg ?_
    refine s_flat ?_
    show HG B (blk v7 (.cells (f y).toArray E (0, 0)) :: SlC E esz s (M.flatMap f) :: R (st g y)) _
    refine s_ite (fun hp => ?_) fun hp => ?_
    · have hp' : p g y = false := by simpa using hp
      rw [hp'] at hdel
      simp only [Bool.false_eq_true, if_false] at hdel
      refine s_ldW (b := v7) ?_ (hf y)
      refine s_idx (s := s) (i := i) ?_
      refine flatMap_set (s := s) hf (hfl y) (by omega) ?_
      refine s_ai ?_
      refine s_ai ?_
      refine s_end (hk' _ (i + 1, j + 1, M.set i y, st g y) ⟨by simp, by simp, by simp only; omega, hjl, by simpa using hM, ?_, hIs _ _ _ hIg, ?_⟩ (by simp only; omega))
      · simp only
        rw [set_drop (by omega), ← List.drop_drop, ← List.drop_drop, hd]
      · simp only
        rw [set_take (by omega), hdel]
        simp
    · have hp' : p g y = true := by simpa using hp
      rw [hp'] at hdel
      simp only [if_true] at hdel
      refine s_ai ?_
      refine s_end (hk' _ (i, j + 1, M, st g y) ⟨rfl, by simp, by simp only; omega, hjl, hM, ?_, hIs _ _ _ hIg, hdel⟩ (by simp only; omega))
      simp only
      rw [← List.drop_drop, ← List.drop_drop, hd]
  · have hjl : j = (A ++ x :: C).length := by simp only [decide_eq_false_iff_not] at hb; omega
    rw [hjl, List.drop_length] at hdel
    simp only [delG, List.append_nil] at hdel
    rw [hdel] at h
    refine s_slc (lo := i) (hi := s.n) (mx := s.c) ?_
    refine s_shrink (s := s) (m := i) (c' := s.c) (by omega) (by omega) (Nat.le_refl _) ?_
    rw [flatMap_tk hf]
    refine s_clear (s := ⟨s.a, i, s.c⟩) (l := i) (q := s.n - i) (m := s.c) rfl (Nat.le_refl _) (by simp only; omega) (by omega) ?_ (hT := hT)
    refine s_slc (lo := 0) (hi := i) (mx := s.c) ?_
    rw [cut0 a3]
    exact h ⟨s.a, i, s.c⟩ (by simp; omega)
theorem s_delF1 {β : Type} {R : γ → List HProp} {idx : Sl → Value → (Int → K) → K} {E T t : Nat} {c : β → Value} {s : Sl} {fv : Value} {Q : Sl → K} {L : List β} (p : γ → β → Bool) (st : γ → β → γ) (g0 : γ) (I : γ → List β → Prop) (hI : I g0 L) (hIs : ∀ g x C, I g (x :: C) → I (st g x) C)
    (hidx : ∀ s fv Q w, idxFK P (acc1 c) s fv Q w → idx s fv Q w) (hfl : ∀ x, flatV (c x) = true) (hL : L.length < 1000000000)
    (hc : ∀ Ξ g x C (q : Bool → K), x ∈ L → I g (x :: C) → HG B (Ξ :: R (st g x)) (q (p g x)) → HG B (Ξ :: R g) (CallV P fv [c x] (Ans1 (fun (t : Bool) => Value.bool t) q)))
    (h : ∀ s', s'.n = (delG p st g0 L).2.length → HG B (SlC E 1 s' ((delG p st g0 L).2.map c) :: R (delG p st g0 L).1) (Q s')) (hT : appT P T T E 1 = true := by kernel_rfl) :
    HG B (SlC E 1 s (L.map c) :: R g0) (delF1 P idx T t c s fv Q) := by
  unfold delF1
  refine s_cap s fun a1 a2 a3 a4 => ?_
  rw [List.length_map, Nat.mul_one] at a1
  have hn : s.n = L.length := a1.symm
  refine fun w hw => hidx _ _ _ _ ?_
  refine hg hw ?_
  clear hw w
  refine s_idxF (R := fun g => SlC E 1 s (L.map c) :: R g) (vV := c) p st g0 I hI hIs hn hL (fun g i x k hx hk => acc1_own hx hk) (fun g x C q hx hI hq => hc _ g x C q hx hI hq) ?_
  rcases findG_del p st hIs g0 L hI with ⟨h1, h2⟩ | ⟨A, x, C, rfl, h1, hI1, h2⟩
  · rw [h1]
    rw [h2] at h
    refine s_t ?_ (by simp [idxI])
    exact h s hn
  rw [h1]
  have hlen : (A ++ x :: C).length = A.length + (C.length + 1) := List.length_append
  generalize (findG p st g0 (A ++ x :: C)).1 = g1 at *
  refine s_f ?_ (by simp [idxI])
  simp only [idxI]
  refine s_ai ?_
  refine s_loop (α := Int × Int) (ι := Nat × Nat × List β × γ) (fun y i => y.1 = (i.1 : Int) ∧ y.2 = (i.2.1 : Int) ∧ i.1 < i.2.1 ∧ i.2.1 ≤ (A ++ x :: C).length ∧ i.2.2.1.length = (A ++ x :: C).length ∧ i.2.2.1.drop i.2.1 = (A ++ x :: C).drop i.2.1 ∧ I i.2.2.2 ((A ++ x :: C).drop i.2.1) ∧ delG p st g0 (A ++ x :: C) = ((delG p st i.2.2.2 ((A ++ x :: C).drop i.2.1)).1, i.2.2.1.take i.1 ++ (delG p st i.2.2.2 ((A ++ x :: C).drop i.2.1)).2))
    (fun y i => SlC E 1 s (i.2.2.1.map c) :: R i.2.2.2) (fun y i => (A ++ x :: C).length - i.2.1) (A.length, A.length + 1, A ++ x :: C, g1) ⟨rfl, by simp, by simp, by simp, rfl, rfl, ?_, ?_⟩ ?_
  · simp only
    have e : (A ++ x :: C).drop (A.length + 1) = C := by rw [show A ++ x :: C = (A ++ [x]) ++ C by simp]; exact List.drop_left' (by simp)
    rw [e]; exact hI1
  · simp only
    have e : (A ++ x :: C).drop (A.length + 1) = C := by rw [show A ++ x :: C = (A ++ [x]) ++ C by simp]; exact List.drop_left' (by simp)
    rw [e, List.take_left, h2]
  rintro k' ⟨_, _⟩ ⟨i, j, M, g⟩ ⟨rfl, rfl, hij, hj, hM, hd, hIg, hdel⟩ hk'
  simp only at hij hj hM hd hIg hdel hk' ⊢
  refine s_ite (fun hb => ?_) fun hb => ?_
  · have hjl : j < (A ++ x :: C).length := by simp only [decide_eq_true_eq] at hb; omega
    have hMj : M[j]? = some (A ++ x :: C)[j] := by
      have := congrArg (·[0]?) hd
      simp only [List.getElem?_drop, Nat.add_zero] at this
      rw [this, List.getElem?_eq_getElem hjl]
    have hmem : (A ++ x :: C)[j] ∈ A ++ x :: C := List.getElem_mem hjl
    have hdrop := List.drop_eq_getElem_cons hjl
    rw [hdrop] at hdel hIg
    generalize (A ++ x :: C)[j] = y at hMj hmem hdel hdrop hIg
    rw [delG_cons] at hdel
    refine s_idx1 (fun w hw => (own_rd (s := s) hw).1) hMj ?_
    refine hc _ g y _ _ hmem hIg ?_
    refine s_ite (fun hp => ?_) fun hp => ?_
    · have hp' : p g y = false := by simpa using hp
      rw [hp'] at hdel
      simp only [Bool.false_eq_true, if_false] at hdel
      refine s_idx (s := s) (i := i) ?_
      rw [← add0 (elA s i 1)]
      refine s_stE (s := s) ?_ (by simp; omega) (hfl y)
      rw [show i * 1 + 0 = i by omega, ← List.map_set]
      refine s_ai ?_
      refine s_ai ?_
      refine s_end (hk' _ (i + 1, j + 1, M.set i y, st g y) ⟨by simp, by simp, by simp only; omega, hjl, by simpa using hM, ?_, hIs _ _ _ hIg, ?_⟩ (by simp only; omega))
      · simp only
        rw [set_drop (by omega), ← List.drop_drop, ← List.drop_drop, hd]
      · simp only
        rw [set_take (by omega), hdel]
        simp
    · have hp' : p g y = true := by simpa using hp
      rw [hp'] at hdel
      simp only [if_true] at hdel
      refine s_ai ?_
      refine s_end (hk' _ (i, j + 1, M, st g y) ⟨rfl, by simp, by simp only; omega, hjl, hM, ?_, hIs _ _ _ hIg, hdel⟩ (by simp only; omega))
      simp only
      rw [← List.drop_drop, ← List.drop_drop, hd]
  · have hjl : j = (A ++ x :: C).length := by simp only [decide_eq_false_iff_not] at hb; omega
    rw [hjl, List.drop_length] at hdel
    simp only [delG, List.append_nil] at hdel
    rw [hdel] at h
    refine s_slc (lo := i) (hi := s.n) (mx := s.c) ?_
    refine s_shrink (s := s) (m := i) (c' := s.c) (by omega) (by omega) (Nat.le_refl _) ?_
    rw [show (M.map c).take (i * 1) = (M.take i).map c by simp]
    refine s_clear (s := ⟨s.a, i, s.c⟩) (l := i) (q := s.n - i) (m := s.c) rfl (Nat.le_refl _) (by simp only; omega) (by omega) ?_ (hT := hT)
    refine s_slc (lo := 0) (hi := i) (mx := s.c) ?_
    rw [cut0 a3]
    exact h ⟨s.a, i, s.c⟩ (by simp; omega)
end
end Go.Sep
/- Lists of texts: slices.Concat of two, slices.Compact; lists that rise. -/
namespace Go.Proofs.Yteolfpghafdmdaa
open Go Go.Sep
set_option linter.unusedSimpArgs false
set_option linter.unusedVariables false
set_option maxRecDepth 100000

abbrev TX := List UInt8
def cmpct {α : Type} [DecidableEq α] : List α → List α
  | [] => []
  | [x] => [x]
  | x :: y :: L => if y = x then cmpct (y :: L) else x :: cmpct (y :: L)
theorem cmpct_snoc {α : Type} [DecidableEq α] : ∀ (A : List α) (a b : α), cmpct (A ++ [a, b]) = if b = a then cmpct (A ++ [a]) else cmpct (A ++ [a]) ++ [b]
  | [], a, b => by
    by_cases h : b = a <;> simp [cmpct, h]
  | [x], a, b => by
    have h1 := cmpct_snoc [] a b
    simp only [List.nil_append, List.singleton_append] at h1 ⊢
    rw [cmpct, h1]
    by_cases h : b = a
    · rw [if_pos h, if_pos h]; simp [cmpct]
    · rw [if_neg h, if_neg h]
      by_cases h2 : a = x
      · simp [cmpct, h2]
      · simp [cmpct, h2]
  | x :: y :: A, a, b => by
    have h1 := cmpct_snoc (y :: A) a b
    simp only [List.cons_append] at h1 ⊢
    rw [cmpct, h1]
    by_cases h : b = a
    · rw [if_pos h, if_pos h, cmpct]
    · rw [if_neg h, if_neg h]
      by_cases h2 : y = x
      · simp [cmpct, h2]
      · simp [cmpct, h2]
theorem cmpct_len {α : Type} [DecidableEq α] : ∀ L : List α, (cmpct L).length ≤ L.length
  | [] => Nat.le_refl _
  | [x] => Nat.le_refl _
  | x :: y :: L => by
    have := cmpct_len (y :: L)
    rw [cmpct]
    split
    · exact Nat.le_succ_of_le this
    · simp only [List.length_cons] at this ⊢; omega
theorem cmpct_mem {α : Type} [DecidableEq α] : ∀ {L : List α} {x : α}, x ∈ cmpct L ↔ x ∈ L
  | [], x => Iff.rfl
  | [y], x => Iff.rfl
  | y :: z :: L, x => by
    have ih := cmpct_mem (L := z :: L) (x := x)
    rw [cmpct]
    split
    · rename_i h
      rw [ih, h]; simp
    · rw [List.mem_cons, ih, List.mem_cons (a := x) (b := y)]
theorem cmpct_head : ∀ (x : TX) (L : List TX), (∀ y ∈ L, x ≤ y) → ∀ z, z ∈ (cmpct (x :: L)).tail → (x :: L).Pairwise (· ≤ ·) → x < z
  | x, [], _, z, hz, _ => by simp [cmpct] at hz
  | x, y :: L, h, z, hz, hp => by
    rw [cmpct] at hz
    have hp2 := List.pairwise_cons.1 hp
    split at hz
    · rename_i e
      subst e
      exact cmpct_head y L (fun w hw => h w (List.mem_cons_of_mem _ hw)) z hz hp2.2
    · rename_i e
      rw [List.tail_cons, cmpct_mem] at hz
      have h1 : x ≤ z := h z hz
      rcases List.le_iff_lt_or_eq.1 h1 with h2 | h2
      · exact h2
      · exfalso
        have h3 : y ≤ z := by
          rcases List.mem_cons.1 hz with rfl | hz
          · exact List.le_refl _
          · exact (List.pairwise_cons.1 hp2.2).1 z hz
        have h4 : x ≤ y := h y List.mem_cons_self
        exact e (List.le_antisymm (by rw [h2]; exact h3) h4)
/-- Of a sorted list a list that rises. -/
theorem cmpct_rises : ∀ (L : List TX), L.Pairwise (· ≤ ·) → (cmpct L).Pairwise (· < ·)
  | [], _ => List.Pairwise.nil
  | [x], _ => List.pairwise_singleton _ _
  | x :: y :: L, h => by
    have ih := cmpct_rises (y :: L) (List.pairwise_cons.1 h).2
    rw [cmpct]
    split
    · exact ih
    · rename_i e
      refine List.pairwise_cons.2 ⟨fun z hz => ?_, ih⟩
      refine cmpct_head x (y :: L) (List.pairwise_cons.1 h).1 z ?_ h
      rw [cmpct, if_neg e]; exact hz
theorem rises_eq : ∀ {L M : List TX}, L.Pairwise (· < ·) → M.Pairwise (· < ·) → (∀ x, x ∈ L ↔ x ∈ M) → L = M
  | [], [], _, _, _ => rfl
  | [], y :: M, _, _, h => by have := (h y).2 List.mem_cons_self; simp at this
  | x :: L, [], _, _, h => by have := (h x).1 List.mem_cons_self; simp at this
  | x :: L, y :: M, hL, hM, h => by
    have h1 := List.pairwise_cons.1 hL
    have h2 := List.pairwise_cons.1 hM
    have hxy : x = y := by
      rcases List.mem_cons.1 ((h x).1 List.mem_cons_self) with e | e
      · exact e
      · rcases List.mem_cons.1 ((h y).2 List.mem_cons_self) with e2 | e2
        · exact e2.symm
        · exact absurd (List.lt_trans (h1.1 y e2) (h2.1 x e)) (List.lt_irrefl _)
    subst hxy
    congr 1
    refine rises_eq h1.2 h2.2 fun z => ?_
    constructor
    · intro hz
      rcases List.mem_cons.1 ((h z).1 (List.mem_cons_of_mem _ hz)) with e | e
      · subst e; exact absurd (h1.1 z hz) (List.lt_irrefl _)
      · exact e
    · intro hz
      rcases List.mem_cons.1 ((h z).2 (List.mem_cons_of_mem _ hz)) with e | e
      · subst e; exact absurd (h2.1 z hz) (List.lt_irrefl _)
      · exact e
theorem sortL_le (L : List TX) : (sortL L).Pairwise (· ≤ ·) := by
  have := List.pairwise_mergeSort (le := fun a b : TX => decide (a ≤ b)) (fun a b c h1 h2 => by simp only [decide_eq_true_eq] at *; exact List.le_trans h1 h2) (fun a b => by simp only [Bool.or_eq_true, decide_eq_true_eq]; exact List.le_total a b) L
  refine List.Pairwise.imp ?_ this
  intro a b h; simpa using h
section
variable {B : World} {Γ Δ : List HProp} {k : K}
theorem compact_hg {s : Sl} {L : List TX} {Q : Sl → K} (hL : L.length < 100000000) (h : ∀ s', HG B (SlS s' (cmpct L) :: Γ) (Q s')) : HG B (SlS s L :: Γ) (slices_Compact_s_string_string.call s Q) := by
  refine fun w hw => slices_Compact_s_string_string_ok _ _ _ ?_
  refine hg hw ?_
  clear hw w
  unfold slices_Compact_s_string_string
  refine s_cap s fun a1 a2 a3 a4 => ?_
  rw [List.length_map, Nat.mul_one] at a1
  refine s_ite (fun hb => ?_) fun hb => ?_
  · have e : cmpct L = L := by
      match L, a1 with
      | [], _ => rfl
      | [x], _ => rfl
      | x :: y :: L, a1 => simp only [List.length_cons] at a1; simp only [decide_eq_true_eq] at hb; omega
    rw [e] at h
    exact h s
  have hn2 : 2 ≤ L.length := by simp only [decide_eq_false_iff_not] at hb; omega
  refine s_loopC (α := Int) (fun x => ∃ i : Nat, x = (i : Int) ∧ 1 ≤ i ∧ i ≤ L.length ∧ cmpct (L.take i) = L.take i) (fun x => L.length - x.toNat) ⟨1, rfl, Nat.le_refl _, by omega, ?_⟩ fun k' x hx hk' => ?_
  · match L, hn2 with
    | x :: L, _ => simp [cmpct]
  obtain ⟨i, rfl, hi1, hi, hc⟩ := hx
  unfold slices_Compact_s_string_string.b1
  refine s_ite (fun hb2 => ?_) fun hb2 => ?_
  rotate_left
  · have hil : i = L.length := by simp only [decide_eq_false_iff_not] at hb2; omega
    rw [hil, List.take_length] at hc
    rw [hc] at h
    exact h s
  have hil : i < L.length := by simp only [decide_eq_true_eq] at hb2; omega
  obtain ⟨j, rfl⟩ : ∃ j, i = j + 1 := ⟨i - 1, by omega⟩
  -- what one more makes
  have step : ∀ m, m + 1 < L.length → cmpct (L.take (m + 2)) = if L[m + 1]? = L[m]? then cmpct (L.take (m + 1)) else cmpct (L.take (m + 1)) ++ L[m + 1]?.toList := fun m hm => by
    have t1 : L.take (m + 2) = L.take m ++ [L[m], L[m + 1]] := by rw [List.take_succ_eq_append_getElem hm, List.take_succ_eq_append_getElem (by omega), List.append_assoc]; rfl
    have t2 : L.take (m + 1) = L.take m ++ [L[m]] := List.take_succ_eq_append_getElem (by omega)
    rw [t1, t2, cmpct_snoc, List.getElem?_eq_getElem hm, List.getElem?_eq_getElem (show m < L.length by omega)]
    simp
  obtain ⟨a, ha⟩ : ∃ a, L[j + 1]? = some a := ⟨_, List.getElem?_eq_getElem hil⟩
  obtain ⟨b, hb'⟩ : ∃ b, L[j]? = some b := ⟨_, List.getElem?_eq_getElem (by omega)⟩
  refine s_dr ?_
  refine s_idxS (L := L) (j := j + 1) (fun w hw => (own_rd (s := s) hw).1) ha ?_ rfl
  refine s_ai ?_
  refine s_idxS (L := L) (j := j) (fun w hw => (own_rd (s := s) hw).1) hb' ?_ (by omega)
  rw [bs_list, bs_list]
  have hst := step j hil
  rw [ha, hb'] at hst
  refine s_ite (fun he => ?_) fun he => ?_
  rotate_left
  · have hne : ¬ some a = some b := by simpa using he
    rw [if_neg hne] at hst
    refine s_ai ?_
    refine hk' _ ⟨j + 2, by simp; omega, by omega, hil, ?_⟩ (by omega)
    rw [hst, hc, List.take_succ_eq_append_getElem hil]
    rw [List.getElem?_eq_getElem hil] at ha
    rw [Option.some.inj ha]; rfl
  -- two that are one
  have hab : some a = some b := by simpa using he
  rw [if_pos hab, hc] at hst
  refine s_slc (lo := j + 1) (hi := s.n) (mx := s.c) ?_
  refine s_loop (α := Int × Int) (ι := Nat × Nat × List TX) (fun y i => y.1 = (i.1 : Int) ∧ y.2 = (i.2.1 : Int) ∧ 1 ≤ i.2.1 ∧ j + 1 + i.2.1 ≤ L.length ∧ i.1 < j + 1 + i.2.1 ∧ i.2.2.length = L.length ∧ i.2.2.drop (j + i.2.1) = L.drop (j + i.2.1) ∧ i.2.2.take i.1 = cmpct (L.take (j + 1 + i.2.1)))
    (fun y i => SlS s i.2.2 :: Γ) (fun y i => L.length - i.2.1) (j + 1, 1, L) ⟨rfl, rfl, Nat.le_refl _, by simp only; omega, by simp only; omega, rfl, rfl, hst.symm⟩ ?_
  rintro k2 ⟨_, _⟩ ⟨p, q, M⟩ ⟨rfl, rfl, hq1, hq, hpq, hM, hd, ht⟩ hk2
  simp only at hq1 hq hpq hM hd ht hk2 ⊢
  unfold slices_Compact_s_string_string.b2
  simp only
  refine s_cap s fun d1 d2 d3 d4 => ?_
  rw [List.length_map, Nat.mul_one] at d1
  refine s_ite (fun hb3 => ?_) fun hb3 => ?_
  · have hql : j + 1 + q < L.length := by simp only [decide_eq_true_eq] at hb3; omega
    obtain ⟨x, hx⟩ : ∃ x, L[j + 1 + q]? = some x := ⟨_, List.getElem?_eq_getElem hql⟩
    obtain ⟨y, hy⟩ : ∃ y, L[j + q]? = some y := ⟨_, List.getElem?_eq_getElem (by omega)⟩
    have hMx : M[j + 1 + q]? = some x := by
      have := congrArg (·[1]?) hd
      simp only [List.getElem?_drop] at this
      rw [show j + q + 1 = j + 1 + q by omega] at this
      rw [this, hx]
    have hMy : M[j + q]? = some y := by
      have := congrArg (·[0]?) hd
      simp only [List.getElem?_drop, Nat.add_zero] at this
      rw [this, hy]
    have hrd : ∀ w, Holds B (SlS s M :: Γ) w → RdC w ⟨cutA s.a (j + 1) s.c 1, s.n - (j + 1), s.c - (j + 1)⟩ 1 ((M.drop (j + 1)).map strV) := fun w hw => by
      have := (own_rd (s := s) hw).1.drop (l := j + 1) (c := s.c) (by omega) d2 d3
      rwa [Nat.mul_one, ← List.map_drop] at this
    have hst2 := step (j + q) (by omega)
    rw [show j + q + 1 = j + 1 + q by omega, hx, hy, show j + q + 2 = j + 1 + (q + 1) by omega] at hst2
    refine s_dr ?_
    refine s_idxS (L := M.drop (j + 1)) (j := q) hrd (by rw [List.getElem?_drop]; exact hMx) ?_ rfl
    refine s_ai ?_
    refine s_idxS (L := M.drop (j + 1)) (j := q - 1) hrd (by rw [List.getElem?_drop, show j + 1 + (q - 1) = j + q by omega]; exact hMy) ?_ (by omega)
    rw [bs_list, bs_list]
    unfold slices_Compact_s_string_string.s3
    refine s_ite (fun he2 => ?_) fun he2 => ?_
    · have hne : ¬ some x = some y := by simpa using he2
      rw [if_neg hne] at hst2
      refine s_idxS (L := M.drop (j + 1)) (j := q) hrd (by rw [List.getElem?_drop]; exact hMx) ?_ rfl
      refine s_idx (s := s) (i := p) ?_
      rw [← add0 (elA s p 1)]
      refine s_stE (s := s) ?_ (by simp; omega)
      rw [show p * 1 + 0 = p by omega, show Value.string (bs x) = strV x from rfl, ← List.map_set]
      refine s_ai ?_
      refine s_ai ?_
      refine hk2 _ (p + 1, q + 1, M.set p x) ⟨by simp, by simp, by simp only; omega, by simp only; omega, by simp only; omega, by simpa using hM, ?_, ?_⟩ (by simp only; omega)
      · simp only
        rw [List.drop_set_of_lt (by omega), show j + (q + 1) = (j + q) + 1 by omega, ← List.drop_drop, hd, List.drop_drop]
      · simp only
        rw [set_take (by omega), ht, hst2]; rfl
    · have heq : some x = some y := by simpa using he2
      rw [if_pos heq] at hst2
      refine s_ai ?_
      refine hk2 _ (p, q + 1, M) ⟨rfl, by simp, by simp only; omega, by simp only; omega, by simp only; omega, hM, ?_, ?_⟩ (by simp only; omega)
      · simp only
        rw [show j + (q + 1) = (j + q) + 1 by omega, ← List.drop_drop, hd, List.drop_drop]
      · simp only
        rw [ht, hst2]
  · have hql : j + 1 + q = L.length := by simp only [decide_eq_false_iff_not] at hb3; omega
    rw [hql, List.take_length] at ht
    refine s_slc (lo := p) (hi := s.n) (mx := s.c) ?_
    refine s_shrink (s := s) (m := p) (c' := s.c) (by omega) (by omega) (Nat.le_refl _) ?_
    rw [show (M.map strV).take (p * 1) = (cmpct L).map strV by rw [Nat.mul_one, ← List.map_take, ht]]
    refine s_clear (s := ⟨s.a, p, s.c⟩) (l := p) (q := s.n - p) (m := s.c) rfl (Nat.le_refl _) (by simp only; omega) (by omega) ?_
    refine s_slc (lo := 0) (hi := p) (mx := s.c) ?_
    rw [cut0 d3]
    exact h ⟨s.a, p, s.c⟩
theorem grow0_hg {n : Nat} {Q : Sl → K} (hn : n < 50000000) (h : ∀ s, s.n = 0 → HG B (SlS s [] :: Γ) (Q s)) : HG B Γ (slices_Grow_s_string_string.call ⟨none, 0, 0⟩ (n : Int) Q) := by
  refine fun w hw => slices_Grow_s_string_string_ok _ _ _ _ ?_
  refine hg hw ?_
  clear hw w
  unfold slices_Grow_s_string_string
  refine s_f ?_ (by simp)
  unfold slices_Grow_s_string_string.s1
  refine cap_run (s := ⟨none, 0, 0⟩) (E := ty_string) (esz := 1) (by kernel_rfl) ?_
  refine s_ar (e' := 0) (by rw [wrap64 (by simp) (by simp)]; simp) ?_
  refine s_ar (e' := (n : Int)) (by rw [wrap64 (by omega) (by omega)]; omega) ?_
  unfold slices_Grow_s_string_string.s2
  refine s_ite (fun hb => ?_) fun hb => ?_
  · refine cap_run (s := ⟨none, 0, 0⟩) (E := ty_string) (esz := 1) (by kernel_rfl) ?_
    refine s_slc (lo := 0) (hi := 0) (mx := 0) ?_
    refine s_appZ (s := ⟨none, 0, 0⟩) (vs := []) (E := ty_string) (esz := 1) (by omega) (by simp only [decide_eq_true_eq] at hb; simp; omega) (by simp; omega) (fun s' zs hs' hz hf => ?_) (fun w hw => RdC.none') (Nat.le_refl _)
    simp only [Nat.zero_add, List.nil_append] at hs' ⊢
    refine s_cap s' fun a1 a2 a3 a4 => ?_
    refine s_slc (lo := 0) (hi := 0) (mx := s'.c) ?_ rfl (by simp) rfl
    rw [cut0 a3]
    refine s_shrink (s := s') (m := 0) (c' := s'.c) (Nat.zero_le _) (Nat.zero_le _) (Nat.le_refl _) ?_
    simp only [Nat.zero_mul, List.take_zero, Nat.sub_zero]
    exact h ⟨s'.a, 0, s'.c⟩ rfl
  · refine fun w hw => ?_
    exact h ⟨none, 0, 0⟩ rfl w (hw.nilSl _ _)
/-- Two lists of texts, one behind the other. -/
theorem concat2_hg {t : Nat} {a b : Sl} {La Lb : List TX} {Q : Sl → K} (hla : La.length ≤ 10000000) (hlb : Lb.length ≤ 10000000) (ha : ∀ w, Holds B Γ w → RdC w a 1 (La.map strV)) (hb : ∀ w, Holds B Γ w → RdC w b 1 (Lb.map strV)) (h : ∀ s, HG B (SlS s (La ++ Lb) :: Γ) (Q s)) :
    HG B (blk t (.cells [a.val, b.val].toArray ty_s_string (0, 0)) :: Γ) (slices_Concat_s_string_string.call (Sl.mk (some ⟨t, 0, none⟩) 2 2) Q) := fun w hw => by
  refine slices_Concat_s_string_string_ok _ _ _ ?_
  have han : a.n = La.length := by have := (ha w hw.tail).len; simpa using this.symm
  have hbn : b.n = Lb.length := by have := (hb w hw.tail).len; simpa using this.symm
  refine Sep.hg hw ?_
  clear hw w
  unfold slices_Concat_s_string_string
  have rd : ∀ {X : List HProp} [Drops X (blk t (.cells [a.val, b.val].toArray ty_s_string (0, 0)) :: Γ)], ∀ w, Holds B X w → RdC w (Sl.mk (some ⟨t, 0, none⟩) 2 2) 1 ([a, b].map Sl.val) := fun w hw => by
    have := RdC.of_blk (esz := 1) (E := ty_s_string) (b := t) (n := 2) (vs := [a.val, b.val]) (cs := [a.val, b.val].toArray) (Γ := blk t (.cells [a.val, b.val].toArray ty_s_string (0, 0)) :: Γ) hw.drops List.mem_cons_self (by simp) rfl 2
    simpa using this
  refine s_loop (α := Int × Int) (ι := Nat) (fun x j => j ≤ 2 ∧ x.2 = (j : Int) ∧ x.1 = (if j = 0 then 0 else if j = 1 then La.length else La.length + Lb.length : Nat)) (fun x j => blk t (.cells [a.val, b.val].toArray ty_s_string (0, 0)) :: Γ) (fun x j => 2 - j) 0 ⟨by omega, rfl, rfl⟩ ?_
  rintro k' ⟨_, _⟩ j ⟨hj, rfl, rfl⟩ hk'
  simp only at hk' ⊢
  unfold slices_Concat_s_string_string.b1 slices_Concat_s_string_string.s2
  match j, hj with
  | 0, _ =>
    refine s_t ?_
    refine s_idx1 (L := [a, b]) (j := 0) (x := a) rd rfl ?_ rfl
    refine s_ar (e' := (La.length : Int)) (by rw [wrap64 (by simp <;> omega) (by simp <;> omega)]; simp <;> omega) ?_
    refine s_f ?_
    refine s_ai ?_
    exact hk' _ 1 ⟨by omega, rfl, rfl⟩ (by omega)
  | 1, _ =>
    refine s_t ?_
    refine s_idx1 (L := [a, b]) (j := 1) (x := b) rd rfl ?_ rfl
    refine s_ar (e' := ((La.length + Lb.length : Nat) : Int)) (by rw [wrap64 (by simp <;> omega) (by simp <;> omega)]; simp <;> omega) ?_
    refine s_f ?_
    refine s_ai ?_
    exact hk' _ 2 ⟨by omega, rfl, rfl⟩ (by omega)
  | 2, _ =>
    refine s_f ?_
    refine grow0_hg (n := La.length + Lb.length) (by omega) fun s0 hs0 => ?_
    refine s_loop (α := Sl × Int) (ι := Nat) (fun x j => j ≤ 2 ∧ x.2 = (j : Int) ∧ x.1.n = (if j = 0 then 0 else if j = 1 then La.length else La.length + Lb.length)) (fun x j => SlS x.1 (if j = 0 then [] else if j = 1 then La else La ++ Lb) :: blk t (.cells [a.val, b.val].toArray ty_s_string (0, 0)) :: Γ) (fun x j => 2 - j) 0 ⟨by omega, rfl, hs0⟩ ?_
    rintro k2 ⟨s1, _⟩ j ⟨hj, rfl, hs1⟩ hk2
    simp only at hs1 hk2 ⊢
    unfold slices_Concat_s_string_string.b3
    match j, hj with
    | 0, _ =>
      refine s_t ?_
      refine s_idx1 (L := [a, b]) (j := 0) (x := a) rd rfl ?_ rfl
      simp only [if_true] at hs1
      refine s_append (s := s1) (us := La.map strV) (fun w hw => ha w hw.drops) (fun v hv => by obtain ⟨y, _, rfl⟩ := List.mem_map.1 hv; rfl) (by omega) fun s2 hs2 => ?_
      refine s_ai ?_
      exact hk2 (s2, 1) 1 ⟨by omega, rfl, by show s2.n = La.length; omega⟩ (by omega)
    | 1, _ =>
      refine s_t ?_
      refine s_idx1 (L := [a, b]) (j := 1) (x := b) rd rfl ?_ rfl
      have hs1' : s1.n = La.length := hs1
      refine s_append (s := s1) (vs := La.map strV) (us := Lb.map strV) (fun w hw => hb w hw.drops) (fun v hv => by obtain ⟨y, _, rfl⟩ := List.mem_map.1 hv; rfl) (by omega) fun s2 hs2 => ?_
      refine s_ai ?_
      rw [← List.map_append]
      exact hk2 (s2, 2) 2 ⟨by omega, rfl, by show s2.n = La.length + Lb.length; omega⟩ (by omega)
    | 2, _ =>
      refine s_f ?_
      show HG B (SlS s1 (La ++ Lb) :: blk t (.cells [a.val, b.val].toArray ty_s_string (0, 0)) :: Γ) _
      exact s_end (h s1)
end
end Go.Proofs.Yteolfpghafdmdaa
/- Plain forms of functions, and that their code comes to them (package ref05). -/
namespace Go.Proofs.Yteolfpghafdmdaa
open Go Go.Sep
set_option linter.unusedVariables false
set_option linter.unusedSimpArgs false
set_option maxRecDepth 100000
set_option maxHeartbeats 4000000
attribute [local irreducible] G Gp Cx Tx Ex Sx Dx Ox Ax Lx Rx Fx Bx Bj Al Do Ld LdN St StN New CallF Ar DoU Rd Rd2 Pu Cd Ite Fv CallV CallY Ans0 Ans1 Ans2 Ans3 Ans4 Ans5 Ext Dead Dr WithS Sv LdS LdNS RdS Rd2S Nn Idx IdxA IdxS Fld Bld Slc SlcS Cat All LoopK RangeF RangeJ TakeD
namespace F_IRRef05
instance ct_33 : CT Try.prog 33 := ⟨by kernel_rfl⟩
instance ct_34 : CT Try.prog 34 := ⟨by kernel_rfl⟩
instance ct_81 : CT Try.prog 81 := ⟨by kernel_rfl⟩
instance ct_9 : CT Try.prog 9 := ⟨by kernel_rfl⟩
instance ft_36_1 : FT Try.prog 36 1 1 1 := ⟨by kernel_rfl⟩
instance ft_36_2 : FT Try.prog 36 2 2 1 := ⟨by kernel_rfl⟩
instance ft_36_3 : FT Try.prog 36 3 3 1 := ⟨by kernel_rfl⟩
instance ft_83_1 : FT Try.prog 83 1 1 1 := ⟨by kernel_rfl⟩
instance ft_83_2 : FT Try.prog 83 2 2 1 := ⟨by kernel_rfl⟩
instance mx : MX Try.prog := ⟨mixed⟩
instance sl_33 : SLT Try.prog 33 9 1 := ⟨by kernel_rfl⟩
instance sl_34 : SLT Try.prog 34 83 4 := ⟨by kernel_rfl⟩
instance sl_81 : SLT Try.prog 81 5 1 := ⟨by kernel_rfl⟩
instance st_9 : STT Try.prog 9 := ⟨by kernel_rfl⟩
end F_IRRef05
def ref05_Great.s5 (Q : Bool → K) (X2 : Int → K) (X3 : Int → K) (X4 : Int → K) (t1_5 : Addr) (i5_5 : Int) (t74_5 : Bool) : K :=
  Ite t74_5
    (Q true)
    (Ar (IntKind.wrap .i64 (i5_5 + 1)) fun t56 =>
    X4 t56)
def ref05_Great.b4 (Q : Bool → K) (X2 : Int → K) (X3 : Int → K) (X4 : Int → K) (t1_4 : Addr) (i5_4 : Int) : K :=
  Ld (t1_4.add 3) Sl.val fun t52 =>
  Ite (decide (i5_4 < (t52.n : Int)))
    (Ld (t1_4.add 3) Sl.val fun t58 =>
    Idx t58 i5_4 4 fun t60 =>
    Ld (t60.add 1) Value.string fun t62 =>
    Ite (decide ((200 : Int) < (t62.size : Int)))
      (ref05_Great.s5 Q X2 X3 X4 t1_4 i5_4 true)
      (Ld (t1_4.add 3) Sl.val fun t67 =>
      Idx t67 i5_4 4 fun t69 =>
      Ld (t69.add 2) Sl.val fun t71 =>
      ref05_Great.s5 Q X2 X3 X4 t1_4 i5_4 (decide ((200 : Int) < (t71.n : Int)))))
    (Q false)
def ref05_Great.b3 (Q : Bool → K) (X2 : Int → K) (X3 : Int → K) (t1_3 : Addr) (i4_3 : Int) : K :=
  Ld (t1_3.add 2) Sl.val fun t38 =>
  Ite (decide (i4_3 < (t38.n : Int)))
    (Ld (t1_3.add 2) Sl.val fun t44 =>
    Idx t44 i4_3 1 fun t46 =>
    Ld t46 Value.string fun t47 =>
    Ite (decide ((200 : Int) < (t47.size : Int)))
      (Q true)
      (Ar (IntKind.wrap .i64 (i4_3 + 1)) fun t42 =>
      X3 t42))
    (LoopK (α := Int) (fun X x => ref05_Great.b4 Q X2 X3 X t1_3 x) 0)
def ref05_Great.b2 (Q : Bool → K)  (X2 : Int → K) (t1_2 : Addr) (i3_2 : Int) : K :=
  Ld (t1_2.add 1) Sl.val fun t24 =>
  Ite (decide (i3_2 < (t24.n : Int)))
    (Ld (t1_2.add 1) Sl.val fun t30 =>
    Idx t30 i3_2 1 fun t32 =>
    Ld t32 Value.string fun t33 =>
    Ite (decide ((200 : Int) < (t33.size : Int)))
      (Q true)
      (Ar (IntKind.wrap .i64 (i3_2 + 1)) fun t28 =>
      X2 t28))
    (LoopK (α := Int) (fun X x => ref05_Great.b3 Q X2 X t1_2 x) 0)
def ref05_Great.s1 (Q : Bool → K)  (t1_1 : Addr) (t21_1 : Bool) : K :=
  Ite t21_1
    (Q true)
    (LoopK (α := Int) (fun X x => ref05_Great.b2 Q X t1_1 x) 0)
def ref05_Great (t0 : (Array Value)) (Q : Bool → K) : K :=
  New 36 t0 fun t1 =>
  Ld (t1.add 1) Sl.val fun t7 =>
  Ite (decide ((40 : Int) < (t7.n : Int)))
    (ref05_Great.s1 Q t1 true)
    (Ld (t1.add 2) Sl.val fun t12 =>
    Ite (decide ((40 : Int) < (t12.n : Int)))
      (ref05_Great.s1 Q t1 true)
      (Ld (t1.add 3) Sl.val fun t18 =>
      ref05_Great.s1 Q t1 (decide ((60 : Int) < (t18.n : Int)))))
theorem ref05_Great_ok (t0 : (Array Value)) (Q : Bool → K) (w : World) (h : ref05_Great t0 Q w) : ref05_Great.call t0 Q w := by
  have hJ17 : ∀ (X2 : Int → K), XH 4 X2 → ∀ (X3 : Int → K), XH 9 X3 → ∀ (X4 : Int → K), XH 14 X4 → JH 17 fun D => ∃ (t1_5 : Addr) (i5_5 : Int), D [(1, (.pointer (some t1_5))), (5, (.int .i64 i5_5))] (fun C => ∀ (t74_5 : Bool), C [(1, (.pointer (some t1_5))), (5, (.int .i64 i5_5)), (74, (.bool t74_5))] (ref05_Great.s5 Q X2 X3 X4 t1_5 i5_5 t74_5)) := by intros; exact ⟨fun _ ⟨_, _, h⟩ => ⟨_, _, h⟩⟩
  have hL14 : ∀ (X2 : Int → K), XH 4 X2 → ∀ (X3 : Int → K), XH 9 X3 → ∀ (t1_4 : Addr), LH 14 (fun x : Int => [(1, (.pointer (some t1_4))), (5, (.int .i64 x))]) (fun X x => ref05_Great.b4 Q X2 X3 X t1_4 x) := by intros; exact ⟨⟩
  have hL9 : ∀ (X2 : Int → K), XH 4 X2 → ∀ (t1_3 : Addr), LH 9 (fun x : Int => [(1, (.pointer (some t1_3))), (4, (.int .i64 x))]) (fun X x => ref05_Great.b3 Q X2 X t1_3 x) := by intros; exact ⟨⟩
  have hL4 : ∀ (t1_2 : Addr), LH 4 (fun x : Int => [(1, (.pointer (some t1_2))), (3, (.int .i64 x))]) (fun X x => ref05_Great.b2 Q X t1_2 x) := by intros; exact ⟨⟩
  have hJ2 : JH 2 fun D => ∃ (t1_1 : Addr), D [(1, (.pointer (some t1_1)))] (fun C => ∀ (t21_1 : Bool), C [(1, (.pointer (some t1_1))), (21, (.bool t21_1))] (ref05_Great.s1 Q t1_1 t21_1)) := by intros; exact ⟨fun _ ⟨_, h⟩ => ⟨_, _, h⟩⟩
  exact g_walk 75 h Try.func9
end Go.Proofs.Yteolfpghafdmdaa
/- The document's transactions: In, SameTexts, Keys, Great, Same. -/
namespace Go.Proofs.Yteolfpghafdmdaa
open Go Go.Sep
set_option linter.unusedSimpArgs false
set_option linter.unusedVariables false
set_option maxRecDepth 100000

/-- All keys, rising, each once. -/
def keysT (L : List TX) : List TX := cmpct (sortL L)
theorem keysT_rises (L : List TX) : (keysT L).Pairwise (· < ·) := cmpct_rises _ (sortL_le L)
theorem keysT_mem {L : List TX} {x : TX} : x ∈ keysT L ↔ x ∈ L := by unfold keysT; rw [cmpct_mem, sortL_mem]
theorem keysT_len (L : List TX) : (keysT L).length ≤ L.length := by
  have := cmpct_len (sortL L)
  rwa [sortL_len] at this
theorem keysT_eq {L M : List TX} (h : M.Pairwise (· < ·)) (hm : ∀ x, x ∈ M ↔ x ∈ L) : M = keysT L := rises_eq h (keysT_rises L) fun x => by rw [hm, keysT_mem]
section
variable {B : World} {Γ Δ : List HProp} {k : K}
theorem s_str {s : Sl} {xs : List UInt8} {q : ByteArray → K} (hr : ∀ w, Holds B Γ w → RdB w s xs) (h : HG B Γ (q (bs xs))) : HG B Γ (Rd Try.prog (convert ty_s_uint8 ty_string s.val) Value.string q) := fun w hw => r_str (by kernel_rfl) (hr w hw) (h w hw)
end
end Go.Proofs.Yteolfpghafdmdaa
/- The document's transactions: Great, Same. -/
namespace Go.Proofs.Yteolfpghafdmdaa
open Go Go.Sep
set_option linter.unusedSimpArgs false
set_option linter.unusedVariables false
set_option maxRecDepth 100000

abbrev GreatP (t : TxX) : Prop := 40 < t.reads.length ∨ 40 < t.writes.length ∨ 60 < t.ops.length ∨ (∃ k ∈ t.reads, 200 < k.length) ∨ (∃ k ∈ t.writes, 200 < k.length) ∨ ∃ x ∈ t.ops, 200 < x.1.key.length ∨ 200 < x.1.val.length
abbrev SameP (a b : TxX) : Prop := a.kind = b.kind ∧ a.to = b.to ∧ a.reads = b.reads ∧ a.writes = b.writes ∧ a.ops.map Prod.fst = b.ops.map Prod.fst
section
variable {B : World} {Γ Γ0 Δ : List HProp} {k : K}
/-- An element is looked at in every state that bears this. -/
theorem s_idxNS {α : Type} (f : α → List Value) {esz : Nat} {L : List α} {s : Sl} {j : Nat} {jj : Int} {x : α} {k : Array Value → K} (hf : ∀ x, (f x).length = esz) (he : 0 < esz) (hr : ∀ w, Holds B Γ w → RdC w s esz (L.flatMap f)) (hr0 : ∀ w, Holds B Γ0 w → RdC w s esz (L.flatMap f)) (hx : L[j]? = some x) (h : HG B Γ (k (f x).toArray)) (hj : jj = (j : Int) := by first | rfl | omega) :
    HG B Γ (Idx s jj esz fun t => LdNS (Holds B Γ0) t esz k) := fun w hw => by
  subst hj
  have hrw := hr w hw
  have hj : j < L.length := (List.getElem?_eq_some_iff.1 hx).1
  have hn : L.length = s.n := by
    have := hrw.len; rw [flatMap_len f esz hf] at this
    exact Nat.eq_of_mul_eq_mul_right he this
  cases ha : s.a with
  | none => have := hrw.nil ha; omega
  | some a =>
    refine ⟨a, _, ha, by omega, by omega, rfl, _, by simp [hf], fun w' hw' => ?_, h w hw⟩
    simp only [Int.toNat_natCast]
    exact flat_at f esz hf (hr0 w' hw') ha hx
/-- A part of an element. -/
theorem s_idxF1 {α β : Type} (f : α → List Value) {esz off : Nat} {L : List α} {s : Sl} {j : Nat} {jj : Int} {x : α} {c : β → Value} {v : β} {k : β → K} (hf : ∀ x, (f x).length = esz) (hr : ∀ w, Holds B Γ w → RdC w s esz (L.flatMap f)) (hx : L[j]? = some x) (hv : (f x)[off]? = some (c v)) (h : HG B Γ (k v)) (hj : jj = (j : Int) := by first | rfl | omega) :
    HG B Γ (Idx s jj esz fun t => Ld (t.add off) c k) := fun w hw => by
  subst hj
  have hrw := hr w hw
  have hj : j < L.length := (List.getElem?_eq_some_iff.1 hx).1
  have ho : off < esz := by rw [← hf x]; exact (List.getElem?_eq_some_iff.1 hv).1
  have hn : L.length = s.n := by
    have := hrw.len; rw [flatMap_len f esz hf] at this
    exact Nat.eq_of_mul_eq_mul_right (by omega) this
  cases ha : s.a with
  | none => have := hrw.nil ha; omega
  | some a =>
    refine ⟨a, _, ha, by omega, by omega, rfl, v, ?_, h w hw⟩
    simp only [Int.toNat_natCast]
    have h2 := flat_at f esz hf hrw ha hx off (by simpa [hf] using ho)
    rw [h2]
    simpa using hv
theorem s_idxF0 {α β : Type} (f : α → List Value) {esz : Nat} {L : List α} {s : Sl} {j : Nat} {jj : Int} {x : α} {c : β → Value} {v : β} {k : β → K} (hf : ∀ x, (f x).length = esz) (hr : ∀ w, Holds B Γ w → RdC w s esz (L.flatMap f)) (hx : L[j]? = some x) (hv : (f x)[0]? = some (c v)) (h : HG B Γ (k v)) (hj : jj = (j : Int) := by first | rfl | omega) :
    HG B Γ (Idx s jj esz fun t => Ld t c k) := fun w hw => by
  obtain ⟨a, t, h1, h2, h3, h4, h5⟩ := s_idxF1 f (off := 0) hf hr hx hv h hj w hw
  rw [add0] at h5
  exact ⟨a, t, h1, h2, h3, h4, h5⟩
theorem tx_lens {w : World} {t : TxX} (h : txRd w t) : t.rs.n = t.reads.length ∧ t.ws.n = t.writes.length ∧ t.os.n = t.ops.length :=
  ⟨by have := h.1.len; simpa using this.symm, by have := h.2.1.len; simpa using this.symm, rd_len opF_len (by omega) h.2.2.1⟩
theorem great05_hg {t : TxX} {Q : Bool → K} (hr : ∀ w, Holds B Γ w → txRd w t) (h : HG B Γ (Q (decide (GreatP t)))) : HG B Γ (ref05_Great.call (txL t).toArray Q) := fun w hw => by
  refine ref05_Great_ok _ _ _ ?_
  obtain ⟨n1, n2, n3⟩ := tx_lens (hr w hw)
  refine Sep.hg hw ?_
  clear hw w
  unfold ref05_Great
  refine s_new fun t1 => ?_
  have yes : GreatP t → HG B (blk t1 (.cells (txL t).toArray ty_api_Txn (0, 0)) :: Γ) (Q true) := fun hg => by
    rw [show decide (GreatP t) = true from decide_eq_true hg] at h
    exact s_end h
  repeat refine s_nx ?_
  refine s_ite (fun hb => ?_) fun hb => ?_
  · unfold ref05_Great.s1
    exact s_t (yes (.inl (by simp only [decide_eq_true_eq] at hb; omega)))
  repeat refine s_nx ?_
  refine s_ite (fun hb2 => ?_) fun hb2 => ?_
  · unfold ref05_Great.s1
    exact s_t (yes (.inr (.inl (by simp only [decide_eq_true_eq] at hb2; omega))))
  repeat refine s_nx ?_
  by_cases hb3 : 60 < t.os.n
  · rw [show decide ((60 : Int) < (t.os.n : Int)) = true by simp; omega]
    unfold ref05_Great.s1
    exact s_t (yes (.inr (.inr (.inl (by omega)))))
  rw [show decide ((60 : Int) < (t.os.n : Int)) = false by simp; omega]
  simp only [decide_eq_false_iff_not] at hb hb2
  unfold ref05_Great.s1
  repeat refine s_nx ?_
  refine s_loopC (α := Int) (fun x => ∃ i : Nat, x = (i : Int) ∧ i ≤ t.reads.length ∧ ∀ k ∈ t.reads.take i, k.length ≤ 200) (fun x => t.reads.length - x.toNat) ⟨0, rfl, Nat.zero_le _, by simp⟩ fun k1 x hx hk1 => ?_
  obtain ⟨i, rfl, hi, hs1⟩ := hx
  unfold ref05_Great.b2
  repeat refine s_nx ?_
  refine s_ite (fun hc => ?_) fun hc => ?_
  · have hil : i < t.reads.length := by simp only [decide_eq_true_eq] at hc; omega
    have hge : t.reads[i]? = some t.reads[i] := List.getElem?_eq_getElem hil
    have hmem : t.reads[i] ∈ t.reads := List.getElem_mem hil
    have htk : t.reads.take (i + 1) = t.reads.take i ++ [t.reads[i]] := List.take_succ_eq_append_getElem hil
    generalize t.reads[i] = x at hge hmem htk
    repeat refine s_nx ?_
    refine s_idxS (L := t.reads) (fun w hw => (hr w hw.tail).1) hge ?_
    have hsz : (bs x).size = x.length := rfl
    refine s_ite (fun hd => ?_) fun hd => ?_
    · exact yes (.inr (.inr (.inr (.inl ⟨x, hmem, by simp only [decide_eq_true_eq] at hd; omega⟩))))
    · refine s_ai ?_
      refine hk1 _ ⟨i + 1, by simp, hil, fun y hy => ?_⟩ (by omega)
      rw [htk] at hy
      rcases List.mem_append.1 hy with hy | hy
      · exact hs1 y hy
      · rw [List.mem_singleton.1 hy]; simp only [decide_eq_false_iff_not] at hd; omega
  have hil : i = t.reads.length := by simp only [decide_eq_false_iff_not] at hc; omega
  rw [hil, List.take_length] at hs1
  refine s_loopC (α := Int) (fun x => ∃ i : Nat, x = (i : Int) ∧ i ≤ t.writes.length ∧ ∀ k ∈ t.writes.take i, k.length ≤ 200) (fun x => t.writes.length - x.toNat) ⟨0, rfl, Nat.zero_le _, by simp⟩ fun k2 x hx hk2 => ?_
  obtain ⟨j, rfl, hj, hs2⟩ := hx
  unfold ref05_Great.b3
  repeat refine s_nx ?_
  refine s_ite (fun hc2 => ?_) fun hc2 => ?_
  · have hil : j < t.writes.length := by simp only [decide_eq_true_eq] at hc2; omega
    have hge : t.writes[j]? = some t.writes[j] := List.getElem?_eq_getElem hil
    have hmem : t.writes[j] ∈ t.writes := List.getElem_mem hil
    have htk : t.writes.take (j + 1) = t.writes.take j ++ [t.writes[j]] := List.take_succ_eq_append_getElem hil
    generalize t.writes[j] = x at hge hmem htk
    repeat refine s_nx ?_
    refine s_idxS (L := t.writes) (fun w hw => (hr w hw.tail).2.1) hge ?_
    have hsz : (bs x).size = x.length := rfl
    refine s_ite (fun hd => ?_) fun hd => ?_
    · exact yes (.inr (.inr (.inr (.inr (.inl ⟨x, hmem, by simp only [decide_eq_true_eq] at hd; omega⟩)))))
    · refine s_ai ?_
      refine hk2 _ ⟨j + 1, by simp, hil, fun y hy => ?_⟩ (by omega)
      rw [htk] at hy
      rcases List.mem_append.1 hy with hy | hy
      · exact hs2 y hy
      · rw [List.mem_singleton.1 hy]; simp only [decide_eq_false_iff_not] at hd; omega
  have hjl : j = t.writes.length := by simp only [decide_eq_false_iff_not] at hc2; omega
  rw [hjl, List.take_length] at hs2
  refine s_loopC (α := Int) (fun x => ∃ i : Nat, x = (i : Int) ∧ i ≤ t.ops.length ∧ ∀ y ∈ t.ops.take i, y.1.key.length ≤ 200 ∧ y.1.val.length ≤ 200) (fun x => t.ops.length - x.toNat) ⟨0, rfl, Nat.zero_le _, by simp⟩ fun k3 x hx hk3 => ?_
  obtain ⟨m, rfl, hm, hs3⟩ := hx
  unfold ref05_Great.b4
  repeat refine s_nx ?_
  refine s_ite (fun hc3 => ?_) fun hc3 => ?_
  · have hil : m < t.ops.length := by simp only [decide_eq_true_eq] at hc3; omega
    have hge : t.ops[m]? = some t.ops[m] := List.getElem?_eq_getElem hil
    have hmem : t.ops[m] ∈ t.ops := List.getElem_mem hil
    have htk : t.ops.take (m + 1) = t.ops.take m ++ [t.ops[m]] := List.take_succ_eq_append_getElem hil
    generalize t.ops[m] = x at hge hmem htk
    repeat refine s_nx ?_
    refine s_idxF1 opF (off := 1) (c := Value.string) (x := x) (v := bs x.1.key) opF_len (fun w hw => (hr w hw.tail).2.2.1) hge rfl ?_
    have hsz : (bs x.1.key).size = x.1.key.length := rfl
    unfold ref05_Great.s5
    refine s_ite (fun hd => ?_) fun hd => ?_
    · refine s_t ?_
      exact yes (.inr (.inr (.inr (.inr (.inr ⟨x, hmem, .inl (by simp only [decide_eq_true_eq] at hd; omega)⟩)))))
    · repeat refine s_nx ?_
      refine fun w hw => ?_
      have hxl : x.2.n = x.1.val.length := by have := ((hr w hw.tail).2.2.2 x hmem).len; simpa using this.symm
      refine Sep.hg hw ?_
      clear hw w
      refine s_idxF1 opF (off := 2) (c := Sl.val) (x := x) (v := x.2) opF_len (fun w hw => (hr w hw.tail).2.2.1) hge rfl ?_
      refine s_ite (fun he => ?_) fun he => ?_
      · exact yes (.inr (.inr (.inr (.inr (.inr ⟨x, hmem, .inr (by simp only [decide_eq_true_eq] at he; omega)⟩)))))
      · refine s_ai ?_
        refine hk3 _ ⟨m + 1, by simp, hil, fun y hy => ?_⟩ (by omega)
        rw [htk] at hy
        rcases List.mem_append.1 hy with hy | hy
        · exact hs3 y hy
        · rw [List.mem_singleton.1 hy]; simp only [decide_eq_false_iff_not] at hd he; omega
  · have hml : m = t.ops.length := by simp only [decide_eq_false_iff_not] at hc3; omega
    rw [hml, List.take_length] at hs3
    rw [show decide (GreatP t) = false by
      simp only [decide_eq_false_iff_not]
      rintro (g | g | g | ⟨k, hk, g⟩ | ⟨k, hk, g⟩ | ⟨x, hx, g⟩)
      · omega
      · omega
      · omega
      · have := hs1 k hk; omega
      · have := hs2 k hk; omega
      · have := hs3 x hx; omega] at h
    exact s_end h
end
end Go.Proofs.Yteolfpghafdmdaa
/- Bytes in memory: what is appended, copied, read. (By the types' names: for every seat.) -/
namespace Go.Proofs.Yteolfpghafdmdaa
open Go Go.Sep
set_option linter.unusedSimpArgs false
set_option linter.unusedVariables false
set_option maxRecDepth 100000
section
variable {B w : World} {Γ : List HProp}
theorem r_byte {s : Sl} {xs : List UInt8} {j : Nat} {x : UInt8} {k : Int → K} (hr : RdB w s xs) (hx : xs[j]? = some x) (hk : k (x.toNat : Int) w) : Idx s (j : Int) 1 (fun t => Ld t (Value.int .u8) k) w := by
  have e : xs.map byteV = (xs.map fun b => (b.toNat : Int)).map (Value.int .u8) := by rw [List.map_map]; rfl
  have hr2 : RdC w s 1 ((xs.map fun b => (b.toNat : Int)).map (Value.int .u8)) := by rw [← e]; exact hr
  exact r_idx1 hr2 (by rw [List.getElem?_map, hx]; rfl) hk
theorem rd_spot {w : World} {s : Sl} {xs : List UInt8} (h : RdB w s xs) (hx : xs ≠ []) : ∀ a, s.a = some a → a.spot = none := by
  intro a ha
  have h1 := h.at' a ha 0 (by have := List.length_pos_iff.2 hx; simpa using this)
  have e : a.add 0 = a := by simp [Addr.add]
  rw [e] at h1
  unfold World.cell? at h1
  cases hs : a.spot with
  | none => rfl
  | some y =>
    exfalso
    have h2 : (xs.map byteV)[0]? ≠ none := by
      cases xs with
      | nil => exact absurd rfl hx
      | cons x xs => simp
    split at h1
    · simp only [hs, Option.isSome_some, if_true] at h1
      exact h2 h1.symm
    · exact h2 h1.symm
/-- Bytes behind one's own bytes. -/
theorem r_appB {g x : Sl} {xs ys : List UInt8} {k : Sl → K} (h : Holds B (Bytes ty_uint8 g xs :: Γ) w) (hy : RdB w x ys) (hroom : xs.length + ys.length ≤ 1000000000)
    (hk : ∀ s w, Holds B (Bytes ty_uint8 s (xs ++ ys) :: Γ) w → s.n = xs.length + ys.length → (g.a.isSome = true → s.a.isSome = true) → k s w) :
    Do Try.prog (Builtin.append_ #[ty_s_uint8, ty_s_uint8] ty_s_uint8 #[g.val, x.val]) Sl.val k w := by
  have h1 : xs.length = g.n := by have := h.slCap.1; simpa using this
  have h2 : ys.length = x.n := by have := hy.len; simpa using this
  refine r_append h (by kernel_rfl) (by kernel_rfl) (by' := 1) (by kernel_rfl) zero_ty_uint8 rfl hy (byteV_flat _) (by omega) (by decide) fun s' w h hn ha => hk s' w ?_ (by omega) ha
  have e : xs.map byteV ++ ys.map byteV = (xs ++ ys).map byteV := by simp
  rw [e] at h
  exact h
theorem bytes_new {b n : Nat} {cs : Array Value} {xs : List UInt8} (hc : cs.toList = xs.map byteV) (hn : xs.length = n) (h : Holds B (blk b (.cells cs ty_uint8 (0, 0)) :: Γ) w) : Holds B (Bytes ty_uint8 ⟨some ⟨b, 0, none⟩, n, n⟩ xs :: Γ) w :=
  h.imp (blk_SlC hc (by simp [hn]))
theorem Bytes.len {s : Sl} {xs : List UInt8} (h : Holds B (Bytes ty_uint8 s xs :: Γ) w) : xs.length = s.n := by have := h.slCap.1; simpa using this
theorem Bytes.rd {s : Sl} {xs : List UInt8} (h : Holds B Γ w) (hm : Bytes ty_uint8 s xs ∈ Γ) : RdB w s xs := h.rdC (E := ty_uint8) hm
theorem r_strS {S : World → Prop} {s : Sl} {xs : List UInt8} {src dst : TypeId} {k : ByteArray → K} (hT : strT Try.prog src dst = true) (hr : ∀ w, S w → RdB w s xs) (hk : k (ByteArray.mk xs.toArray) w) :
    RdS Try.prog S (convert src dst s.val) Value.string k w := by
  refine ⟨ByteArray.mk xs.toArray, fun w h => ?_, hk⟩
  obtain ⟨y, h1, h2⟩ := r_str (k := fun y _ => y = ByteArray.mk xs.toArray) hT (hr w h) rfl
  rw [h1, h2]
theorem rdB_take {w : World} {s : Sl} {d : List UInt8} {n c : Nat} (h : RdB w s d) (hn : n ≤ s.n) : RdB w ⟨s.a, n, c⟩ (d.take n) := by
  have h1 := h.take (m := n) (c := c) hn
  show RdC w _ 1 ((d.take n).map byteV)
  rw [List.map_take]
  simpa using h1
end
end Go.Proofs.Yteolfpghafdmdaa
/- Plain forms of functions, and that their code comes to them (package prog). -/
namespace Go.Proofs.Yteolfpghafdmdaa
open Go Go.Sep
set_option linter.unusedVariables false
set_option linter.unusedSimpArgs false
set_option maxRecDepth 100000
set_option maxHeartbeats 4000000
attribute [local irreducible] G Gp Cx Tx Ex Sx Dx Ox Ax Lx Rx Fx Bx Bj Al Do Ld LdN St StN New CallF Ar DoU Rd Rd2 Pu Cd Ite Fv CallV CallY Ans0 Ans1 Ans2 Ans3 Ans4 Ans5 Ext Dead Dr WithS Sv LdS LdNS RdS Rd2S Nn Idx IdxA IdxS Fld Bld Slc SlcS Cat All LoopK RangeF RangeJ TakeD
namespace F_IRProg
instance at_36 : AT Try.prog 36 5 := ⟨by kernel_rfl⟩
instance at_83 : AT Try.prog 83 4 := ⟨by kernel_rfl⟩
instance cb_24 : CB Try.prog 24 := ⟨by kernel_rfl⟩
instance cb_27 : CB Try.prog 27 := ⟨by kernel_rfl⟩
instance cb_29 : CB Try.prog 29 := ⟨by kernel_rfl⟩
instance cb_30 : CB Try.prog 30 := ⟨by kernel_rfl⟩
instance cb_31 : CB Try.prog 31 := ⟨by kernel_rfl⟩
instance cb_32 : CB Try.prog 32 := ⟨by kernel_rfl⟩
instance cb_38 : CB Try.prog 38 := ⟨by kernel_rfl⟩
instance cb_39 : CB Try.prog 39 := ⟨by kernel_rfl⟩
instance cb_41 : CB Try.prog 41 := ⟨by kernel_rfl⟩
instance cb_48 : CB Try.prog 48 := ⟨by kernel_rfl⟩
instance cb_49 : CB Try.prog 49 := ⟨by kernel_rfl⟩
instance cb_50 : CB Try.prog 50 := ⟨by kernel_rfl⟩
instance ct_2 : CT Try.prog 2 := ⟨by kernel_rfl⟩
instance ct_3 : CT Try.prog 3 := ⟨by kernel_rfl⟩
instance ct_33 : CT Try.prog 33 := ⟨by kernel_rfl⟩
instance ct_34 : CT Try.prog 34 := ⟨by kernel_rfl⟩
instance ct_81 : CT Try.prog 81 := ⟨by kernel_rfl⟩
instance ct_9 : CT Try.prog 9 := ⟨by kernel_rfl⟩
instance ft_36_0 : FT Try.prog 36 0 0 1 := ⟨by kernel_rfl⟩
instance ft_36_1 : FT Try.prog 36 1 1 1 := ⟨by kernel_rfl⟩
instance ft_36_2 : FT Try.prog 36 2 2 1 := ⟨by kernel_rfl⟩
instance ft_36_3 : FT Try.prog 36 3 3 1 := ⟨by kernel_rfl⟩
instance ft_36_4 : FT Try.prog 36 4 4 1 := ⟨by kernel_rfl⟩
instance ft_83_0 : FT Try.prog 83 0 0 1 := ⟨by kernel_rfl⟩
instance ft_83_1 : FT Try.prog 83 1 1 1 := ⟨by kernel_rfl⟩
instance ft_83_2 : FT Try.prog 83 2 2 1 := ⟨by kernel_rfl⟩
instance ft_83_3 : FT Try.prog 83 3 3 1 := ⟨by kernel_rfl⟩
instance mx : MX Try.prog := ⟨mixed⟩
instance sl_144 : SLT Try.prog 144 33 1 := ⟨by kernel_rfl⟩
instance sl_33 : SLT Try.prog 33 9 1 := ⟨by kernel_rfl⟩
instance sl_34 : SLT Try.prog 34 83 4 := ⟨by kernel_rfl⟩
instance sl_81 : SLT Try.prog 81 5 1 := ⟨by kernel_rfl⟩
instance st_9 : STT Try.prog 9 := ⟨by kernel_rfl⟩
instance sz_33 : SZ Try.prog 33 1 := ⟨by kernel_rfl⟩
instance sz_34 : SZ Try.prog 34 1 := ⟨by kernel_rfl⟩
instance sz_36 : SZ Try.prog 36 5 := ⟨by kernel_rfl⟩
instance sz_81 : SZ Try.prog 81 1 := ⟨by kernel_rfl⟩
instance sz_83 : SZ Try.prog 83 4 := ⟨by kernel_rfl⟩
instance zt_33 : ZT Try.prog 33 (Sl.val ⟨none, 0, 0⟩) := ⟨Try.t33, by kernel_rfl, by kernel_rfl⟩
instance zt_36 : ZT Try.prog 36 (.agg #[(.int .i64 0), (Sl.val ⟨none, 0, 0⟩), (Sl.val ⟨none, 0, 0⟩), (Sl.val ⟨none, 0, 0⟩), (.int .i64 0)]) := ⟨Try.t36, by kernel_rfl, by kernel_rfl⟩
instance zt_83 : ZT Try.prog 83 (.agg #[(.int .i64 0), (.string ⟨#[]⟩), (Sl.val ⟨none, 0, 0⟩), (.int .i64 0)]) := ⟨Try.t83, by kernel_rfl, by kernel_rfl⟩
end F_IRProg
def prog_Check.s2 (Q : Int → K)  (ok5_2 : Bool) : K :=
  Ite (!ok5_2)
    (Q 1)
    (Q 0)
def prog_Check.s1 (Q : Int → K)  (regions1_1 : Int) (t2_1 : Addr) (ok5_1 : Bool) : K :=
  Ld t2_1 (Value.int .i64) fun t18 =>
  Ite (decide (t18 = 1))
    (Ite ok5_1
      (Ld (t2_1.add 4) (Value.int .i64) fun t25 =>
      Ite (decide (t25 = 0))
        (Ld (t2_1.add 3) Sl.val fun t30 =>
        Ite (decide ((t30.n : Int) ≤ 16))
          (Ld (t2_1.add 3) Sl.val fun t36 =>
          slices_ContainsFunc_s_api_Op_api_Op.call t36 (.func (.func 28) #[] #[(.pointer (some t2_1))]) fun t38 =>
          prog_Check.s2 Q (!t38))
          (prog_Check.s2 Q false))
        (prog_Check.s2 Q false))
      (prog_Check.s2 Q false))
    (Ite (decide (t18 = 2))
      (Ite ok5_1
        (Ld (t2_1.add 1) Sl.val fun t46 =>
        Ite (decide ((t46.n : Int) = 0))
          (Ld (t2_1.add 3) Sl.val fun t52 =>
          Ite (decide ((t52.n : Int) = 0))
            (Ld (t2_1.add 2) Sl.val fun t58 =>
            Ite (decide ((t58.n : Int) = 1))
              (Ld (t2_1.add 4) (Value.int .i64) fun t64 =>
              Ite (decide ((0 : Int) ≤ t64))
                (Ld (t2_1.add 4) (Value.int .i64) fun t69 =>
                prog_Check.s2 Q (decide (t69 < regions1_1)))
                (prog_Check.s2 Q false))
              (prog_Check.s2 Q false))
            (prog_Check.s2 Q false))
          (prog_Check.s2 Q false))
        (prog_Check.s2 Q false))
      (prog_Check.s2 Q false))
def prog_Check (t0 : (Array Value)) (regions1 : Int) (Q : Int → K) : K :=
  New 36 t0 fun t2 =>
  Ite (decide ((1 : Int) ≤ regions1))
    (Ite (decide (regions1 ≤ 3))
      (LdN t2 5 fun t14 =>
      prog_declared.call t14 fun t15 =>
      prog_Check.s1 Q regions1 t2 t15)
      (prog_Check.s1 Q regions1 t2 false))
    (prog_Check.s1 Q regions1 t2 false)
theorem prog_Check_ok (t0 : (Array Value)) (regions1 : Int) (Q : Int → K) (w : World) (h : prog_Check t0 regions1 Q w) : prog_Check.call t0 regions1 Q w := by
  have hJ9 : JH 9 fun D => D [] (fun C => ∀ (ok5_2 : Bool), C [(5, (.bool ok5_2))] (prog_Check.s2 Q ok5_2)) := by intros; exact ⟨fun _ h => ⟨_, _, h⟩⟩
  have hJ2 : JH 2 fun D => ∃ (regions1_1 : Int) (t2_1 : Addr), D [(1, (.int .i64 regions1_1)), (2, (.pointer (some t2_1)))] (fun C => ∀ (ok5_1 : Bool), C [(1, (.int .i64 regions1_1)), (2, (.pointer (some t2_1))), (5, (.bool ok5_1))] (prog_Check.s1 Q regions1_1 t2_1 ok5_1)) := by intros; exact ⟨fun _ ⟨_, _, h⟩ => ⟨_, _, h⟩⟩
  exact g_walk 75 h Try.func18
def prog_Copy.b1 (Q : (Array Value) → K)  (X1 : Int → K) (t1_1 : Addr) (t2_1 : Addr) (t18_1 : Sl) (t19_1 : Int) (t20_1 : Int) : K :=
  Ite (decide (t20_1 < t19_1))
    (Idx t18_1 t20_1 4 fun t23 =>
    LdN t23 4 fun t24 =>
    New 83 #[(.int .i64 0), (.string ⟨#[]⟩), (Sl.val ⟨none, 0, 0⟩), (.int .i64 0)] fun o4 =>
    StN o4 4 t24 <|
    Dr <| WithS fun S =>
    LdS S (t1_1.add 3) Sl.val fun t26 =>
    LdS S (o4.add 2) Sl.val fun t29 =>
    bytes_Clone.call t29 fun t30 =>
    Sv S <|
    Idx t26 t20_1 4 fun t31 =>
    St (t31.add 2) (Sl.val t30) <|
    Ar (IntKind.wrap .i64 (t20_1 + 1)) fun t33 =>
    X1 t33)
    (LdN t1_1 5 fun t34 =>
    StN t2_1 5 t34 <|
    LdN t2_1 5 fun r0 =>
    Q r0)
def prog_Copy (t0 : (Array Value)) (Q : (Array Value) → K) : K :=
  New 36 t0 fun t1 =>
  New 36 #[(.int .i64 0), (Sl.val ⟨none, 0, 0⟩), (Sl.val ⟨none, 0, 0⟩), (Sl.val ⟨none, 0, 0⟩), (.int .i64 0)] fun t2 =>
  Dr <| WithS fun S =>
  LdS S (t1.add 1) Sl.val fun t6 =>
  LdS S (t1.add 2) Sl.val fun t9 =>
  LdS S (t1.add 3) Sl.val fun t12 =>
  slices_Clone_s_string_string.call t6 fun t7 =>
  Sv S <|
  slices_Clone_s_string_string.call t9 fun t10 =>
  Sv S <|
  slices_Clone_s_api_Op_api_Op.call t12 fun t13 =>
  St (t1.add 1) (Sl.val t7) <|
  St (t1.add 2) (Sl.val t10) <|
  St (t1.add 3) (Sl.val t13) <|
  Ld (t1.add 3) Sl.val fun t18 =>
  LoopK (α := Int) (fun X x => prog_Copy.b1 Q X t1 t2 t18 (t18.n : Int) x) 0
theorem prog_Copy_ok (t0 : (Array Value)) (Q : (Array Value) → K) (w : World) (h : prog_Copy t0 Q w) : prog_Copy.call t0 Q w := by
  have hD5 : DH 5 2 [8] (.s [0, 2, 3, 1, 4] (.a [(5, 1, .s [6, 7] (.a [(8, 0, .e)]))])) := by intros; exact ⟨⟩
  have hL3 : ∀ (t1_1 : Addr) (t2_1 : Addr) (t18_1 : Sl) (t19_1 : Int), LH 3 (fun x : Int => [(1, (.pointer (some t1_1))), (2, (.pointer (some t2_1))), (18, (Sl.val t18_1)), (19, (.int .i64 t19_1)), (20, (.int .i64 x))]) (fun X x => prog_Copy.b1 Q X t1_1 t2_1 t18_1 t19_1 x) := by intros; exact ⟨⟩
  have hD1 : DH 1 2 [8, 10, 12, 14] (.s [0, 3, 6, 1, 4, 7] (.a [(2, 1, .s [9] (.a [(5, 1, .a [(8, 0, .a [(10, 0, .s [11] (.a [(12, 0, .s [13] (.a [(14, 0, .e)]))]))])])]))])) := by intros; exact ⟨⟩
  exact g_walk 35 h Try.func19
def prog_declared.s1 (Q : Bool → K)  (t1_1 : Addr) (t28_1 : Bool) : K :=
  Ite t28_1
    (Q false)
    (Ld (t1_1.add 1) Sl.val fun t30 =>
    slices_ContainsFunc_s_string_string.call t30 (.func (.func 40) #[] #[(.pointer (some t1_1))]) fun t32 =>
    Q (!t32))
def prog_declared (t0 : (Array Value)) (Q : Bool → K) : K :=
  New 36 t0 fun t1 =>
  Ld (t1.add 1) Sl.val fun t4 =>
  Ite (decide ((8 : Int) < (t4.n : Int)))
    (prog_declared.s1 Q t1 true)
    (Ld (t1.add 2) Sl.val fun t9 =>
    Ld (t1.add 1) Sl.val fun t12 =>
    Ar (IntKind.wrap .i64 (8 - (t12.n : Int))) fun t14 =>
    Ite (decide (t14 < (t9.n : Int)))
      (prog_declared.s1 Q t1 true)
      (Ld (t1.add 1) Sl.val fun t19 =>
      prog_rises.call t19 fun t20 =>
      Ite (!t20)
        (prog_declared.s1 Q t1 true)
        (Ld (t1.add 2) Sl.val fun t25 =>
        prog_rises.call t25 fun t26 =>
        prog_declared.s1 Q t1 (!t26))))
theorem prog_declared_ok (t0 : (Array Value)) (Q : Bool → K) (w : World) (h : prog_declared t0 Q w) : prog_declared.call t0 Q w := by
  have hJ2 : JH 2 fun D => ∃ (t1_1 : Addr), D [(1, (.pointer (some t1_1)))] (fun C => ∀ (t28_1 : Bool), C [(1, (.pointer (some t1_1))), (28, (.bool t28_1))] (prog_declared.s1 Q t1_1 t28_1)) := by intros; exact ⟨fun _ ⟨_, h⟩ => ⟨_, _, h⟩⟩
  exact g_walk 34 h Try.func27
def prog_Check_1 (o0 : (Array Value)) (t1 : Addr) (Q : Bool → K) : K :=
  New 83 o0 fun o2 =>
  LdN t1 5 fun t4 =>
  LdN o2 4 fun t5 =>
  prog_step.call t4 t5 fun t6 =>
  Q (!t6)
theorem prog_Check_1_ok (o0 : (Array Value)) (t1 : Addr) (Q : Bool → K) (w : World) (h : prog_Check_1 o0 t1 Q w) : prog_Check_1.call o0 t1 Q w := by
  exact g_walk 8 h Try.func28
def prog_step.s4 (Q : Bool → K)  (t4_4 : Bool) : K :=
  Q t4_4
def prog_step.s6 (Q : Bool → K)  (t4_6 : Bool) : K :=
  Q t4_6
def prog_step.s5 (Q : Bool → K)  (o3_5 : Addr) (known6_5 : Bool) (t35_5 : Int) (t52_5 : Bool) : K :=
  Ite t52_5
    (Ite known6_5
      (Ld (o3_5.add 2) Sl.val fun t58 =>
      prog_step.s6 Q (decide ((t58.n : Int) = 0)))
      (prog_step.s6 Q false))
    (Ite (decide (t35_5 = 7))
      (Ld (o3_5.add 1) Value.string fun t65 =>
      Q (t65.toList == (⟨#[]⟩ : ByteArray).toList))
      (Q false))
def prog_step.s3 (Q : Bool → K)  (o3_3 : Addr) (written5_3 : Bool) (known6_3 : Bool) (t35_3 : Int) (t39_3 : Bool) : K :=
  Ite t39_3
    (Ite written5_3
      (Ld (o3_3.add 2) Sl.val fun t45 =>
      prog_step.s4 Q (decide ((t45.n : Int) = 0)))
      (prog_step.s4 Q false))
    (Ite (decide (t35_3 = 4))
      (Q known6_3)
      (Ite (decide (t35_3 = 1))
        (prog_step.s5 Q o3_3 known6_3 t35_3 (decide (t35_3 = 1)))
        (prog_step.s5 Q o3_3 known6_3 t35_3 (decide (t35_3 = 5)))))
def prog_step.s2 (Q : Bool → K)  (o3_2 : Addr) (written5_2 : Bool) (known6_2 : Bool) : K :=
  Ld o3_2 (Value.int .i64) fun t35 =>
  Ite (decide (t35 = 2))
    (Q written5_2)
    (Ite (decide (t35 = 3))
      (prog_step.s3 Q o3_2 written5_2 known6_2 t35 (decide (t35 = 3)))
      (prog_step.s3 Q o3_2 written5_2 known6_2 t35 (decide (t35 = 6))))
def prog_step.s1 (Q : Bool → K)  (t2_1 : Addr) (o3_1 : Addr) (t20_1 : Bool) : K :=
  Ite t20_1
    (Q false)
    (Ld (t2_1.add 2) Sl.val fun t22 =>
    Ld (o3_1.add 1) Value.string fun t24 =>
    slices_Contains_s_string_string.call t22 t24 fun t25 =>
    Ite t25
      (prog_step.s2 Q o3_1 true true)
      (Ld (t2_1.add 1) Sl.val fun t29 =>
      Ld (o3_1.add 1) Value.string fun t31 =>
      slices_Contains_s_string_string.call t29 t31 fun t32 =>
      prog_step.s2 Q o3_1 false t32))
def prog_step (t0 : (Array Value)) (o1 : (Array Value)) (Q : Bool → K) : K :=
  New 36 t0 fun t2 =>
  New 83 o1 fun o3 =>
  Ld (o3.add 2) Sl.val fun t8 =>
  Ite (decide ((32 : Int) < (t8.n : Int)))
    (prog_step.s1 Q t2 o3 true)
    (Ld (o3.add 3) (Value.int .i64) fun t13 =>
    Ite (decide (t13 ≠ 0))
      (Ld o3 (Value.int .i64) fun t17 =>
      prog_step.s1 Q t2 o3 (decide (t17 ≠ 6)))
      (prog_step.s1 Q t2 o3 false))
theorem prog_step_ok (t0 : (Array Value)) (o1 : (Array Value)) (Q : Bool → K) (w : World) (h : prog_step t0 o1 Q w) : prog_step.call t0 o1 Q w := by
  have hJ1000010 : JH 1000010 fun D => D [] (fun C => ∀ (t4_4 : Bool), C [(4, (.bool t4_4))] (prog_step.s4 Q t4_4)) := by intros; exact ⟨fun _ h => ⟨_, _, h⟩⟩
  have hJ1000015 : JH 1000015 fun D => D [] (fun C => ∀ (t4_6 : Bool), C [(4, (.bool t4_6))] (prog_step.s6 Q t4_6)) := by intros; exact ⟨fun _ h => ⟨_, _, h⟩⟩
  have hJ15 : JH 15 fun D => ∃ (o3_5 : Addr) (t35_5 : Int), D [(3, (.pointer (some o3_5))), (35, (.int .i64 t35_5))] (fun C => ∀ (known6_5 : Bool) (t52_5 : Bool), C [(3, (.pointer (some o3_5))), (6, (.bool known6_5)), (35, (.int .i64 t35_5)), (52, (.bool t52_5))] (prog_step.s5 Q o3_5 known6_5 t35_5 t52_5)) := by intros; exact ⟨fun _ ⟨_, _, h⟩ => ⟨_, _, h⟩⟩
  have hJ10 : JH 10 fun D => ∃ (o3_3 : Addr) (t35_3 : Int), D [(3, (.pointer (some o3_3))), (35, (.int .i64 t35_3))] (fun C => ∀ (written5_3 : Bool) (known6_3 : Bool) (t39_3 : Bool), C [(3, (.pointer (some o3_3))), (5, (.bool written5_3)), (6, (.bool known6_3)), (35, (.int .i64 t35_3)), (39, (.bool t39_3))] (prog_step.s3 Q o3_3 written5_3 known6_3 t35_3 t39_3)) := by intros; exact ⟨fun _ ⟨_, _, h⟩ => ⟨_, _, h⟩⟩
  have hJ5 : JH 5 fun D => ∃ (o3_2 : Addr), D [(3, (.pointer (some o3_2)))] (fun C => ∀ (written5_2 : Bool) (known6_2 : Bool), C [(3, (.pointer (some o3_2))), (5, (.bool written5_2)), (6, (.bool known6_2))] (prog_step.s2 Q o3_2 written5_2 known6_2)) := by intros; exact ⟨fun _ ⟨_, h⟩ => ⟨_, _, h⟩⟩
  have hJ2 : JH 2 fun D => ∃ (t2_1 : Addr) (o3_1 : Addr), D [(2, (.pointer (some t2_1))), (3, (.pointer (some o3_1)))] (fun C => ∀ (t20_1 : Bool), C [(2, (.pointer (some t2_1))), (3, (.pointer (some o3_1))), (20, (.bool t20_1))] (prog_step.s1 Q t2_1 o3_1 t20_1)) := by intros; exact ⟨fun _ ⟨_, _, h⟩ => ⟨_, _, h⟩⟩
  exact g_walk 67 h Try.func29
def prog_rises.s2 (Q : Bool → K) (X1 : Int → K) (keys0_2 : Sl) (t5_2 : Sl) (t6_2 : Int) (t7_2 : Int) (t31_2 : Bool) : K :=
  Ite t31_2
    (Q false)
    (Ar (IntKind.wrap .i64 (t7_2 + 1)) fun t32 =>
    X1 t32)
def prog_rises.b1 (Q : Bool → K)  (X1 : Int → K) (keys0_1 : Sl) (t5_1 : Sl) (t6_1 : Int) (t7_1 : Int) : K :=
  Ite (decide (t7_1 < t6_1))
    (Idx t5_1 t7_1 1 fun t10 =>
    Ld t10 Value.string fun t11 =>
    Ite (t11.toList == (⟨#[]⟩ : ByteArray).toList)
      (prog_rises.s2 Q X1 keys0_1 t5_1 t6_1 t7_1 true)
      (Ite (decide ((16 : Int) < (t11.size : Int)))
        (prog_rises.s2 Q X1 keys0_1 t5_1 t6_1 t7_1 true)
        (Ite (decide ((0 : Int) < t7_1))
          (Ar (IntKind.wrap .i64 (t7_1 - 1)) fun t25 =>
          Idx keys0_1 t25 1 fun t26 =>
          Ld t26 Value.string fun t27 =>
          prog_rises.s2 Q X1 keys0_1 t5_1 t6_1 t7_1 (!(Op.bytesLess t27.toList t11.toList)))
          (prog_rises.s2 Q X1 keys0_1 t5_1 t6_1 t7_1 false))))
    (Q true)
def prog_rises (keys0 : Sl) (Q : Bool → K) : K :=
  LoopK (α := Int) (fun X x => prog_rises.b1 Q X keys0 keys0 (keys0.n : Int) x) 0
theorem prog_rises_ok (keys0 : Sl) (Q : Bool → K) (w : World) (h : prog_rises keys0 Q w) : prog_rises.call keys0 Q w := by
  have hJ5 : ∀ (X1 : Int → K), XH 2 X1 → JH 5 fun D => ∃ (keys0_2 : Sl) (t5_2 : Sl) (t6_2 : Int) (t7_2 : Int), D [(0, (Sl.val keys0_2)), (5, (Sl.val t5_2)), (6, (.int .i64 t6_2)), (7, (.int .i64 t7_2))] (fun C => ∀ (t31_2 : Bool), C [(0, (Sl.val keys0_2)), (5, (Sl.val t5_2)), (6, (.int .i64 t6_2)), (7, (.int .i64 t7_2)), (31, (.bool t31_2))] (prog_rises.s2 Q X1 keys0_2 t5_2 t6_2 t7_2 t31_2)) := by intros; exact ⟨fun _ ⟨_, _, _, _, h⟩ => ⟨_, _, h⟩⟩
  have hL2 : ∀ (keys0_1 : Sl) (t5_1 : Sl) (t6_1 : Int), LH 2 (fun x : Int => [(0, (Sl.val keys0_1)), (5, (Sl.val t5_1)), (6, (.int .i64 t6_1)), (7, (.int .i64 x))]) (fun X x => prog_rises.b1 Q X keys0_1 t5_1 t6_1 x) := by intros; exact ⟨⟩
  exact g_walk 33 h Try.func38
def prog_declared_1 (k0 : ByteArray) (t1 : Addr) (Q : Bool → K) : K :=
  Ld (t1.add 2) Sl.val fun t5 =>
  slices_Contains_s_string_string.call t5 k0 fun t7 =>
  Q t7
theorem prog_declared_1_ok (k0 : ByteArray) (t1 : Addr) (Q : Bool → K) (w : World) (h : prog_declared_1 k0 t1 Q w) : prog_declared_1.call k0 t1 Q w := by
  exact g_walk 8 h Try.func40
def prog_Keys (t0 : (Array Value)) (Q : Sl → K) : K :=
  New 36 t0 fun t1 =>
  Ld (t1.add 1) Sl.val fun t5 =>
  Ld (t1.add 2) Sl.val fun t7 =>
  New 33 #[(Sl.val t5), (Sl.val t7)] fun t8 =>
  slices_Concat_s_string_string.call (Sl.mk (some t8) 2 2) fun t9 =>
  slices_Sort_s_string_string.call t9 <|
  slices_Compact_s_string_string.call t9 fun t13 =>
  Q t13
theorem prog_Keys_ok (t0 : (Array Value)) (Q : Sl → K) (w : World) (h : prog_Keys t0 Q w) : prog_Keys.call t0 Q w := by
  exact g_walk 14 h Try.func46
end Go.Proofs.Yteolfpghafdmdaa
/- Plain forms of functions, and that their code comes to them (package lib_bytes). -/
namespace Go.Proofs.Yteolfpghafdmdaa
open Go Go.Sep
set_option linter.unusedVariables false
set_option linter.unusedSimpArgs false
set_option maxRecDepth 100000
set_option maxHeartbeats 4000000
attribute [local irreducible] G Gp Cx Tx Ex Sx Dx Ox Ax Lx Rx Fx Bx Bj Al Do Ld LdN St StN New CallF Ar DoU Rd Rd2 Pu Cd Ite Fv CallV CallY Ans0 Ans1 Ans2 Ans3 Ans4 Ans5 Ext Dead Dr WithS Sv LdS LdNS RdS Rd2S Nn Idx IdxA IdxS Fld Bld Slc SlcS Cat All LoopK RangeF RangeJ TakeD
namespace F_IRLibBytes
instance mx : MX Try.prog := ⟨mixed⟩
instance sl_81 : SLT Try.prog 81 5 1 := ⟨by kernel_rfl⟩
instance un_81 : UN Try.prog 81 (.slice 5) := ⟨Try.underlying81⟩
instance zt_5 : ZT Try.prog 5 (.int .u8 0) := ⟨Try.t5, by kernel_rfl, by kernel_rfl⟩
end F_IRLibBytes
def bytes_Clone (b0 : Sl) (Q : Sl → K) : K :=
  Ite ((b0).a.isNone)
    (Q (Sl.mk none 0 0))
    (New 5 #[] fun t5 =>
    Do Try.prog (Builtin.append_ #[81, 81] 81 #[(Sl.val (Sl.mk (some t5) 0 0)), (Sl.val b0)]) Sl.val fun t7 =>
    Q t7)
theorem bytes_Clone_ok (b0 : Sl) (Q : Sl → K) (w : World) (h : bytes_Clone b0 Q w) : bytes_Clone.call b0 Q w := by
  exact g_walk 8 h Try.func24
end Go.Proofs.Yteolfpghafdmdaa
/- What prog makes of a transaction: its keys, a copy of it. -/
namespace Go.Proofs.Yteolfpghafdmdaa
open Go Go.Sep
set_option linter.unusedSimpArgs false
set_option linter.unusedVariables false
set_option maxRecDepth 100000

abbrev opB (x : OpX) : HProp := Bytes ty_uint8 x.2 x.1.val
/-- A transaction's own memory. -/
abbrev txC (t : TxX) (Γ : List HProp) : List HProp := SlS t.rs t.reads :: SlS t.ws t.writes :: SlC ty_api_Op 4 t.os (t.ops.flatMap opF) :: Sep.stars (t.ops.map opB) :: Γ
/-- A transaction is as another one. -/
abbrev TxIs (a b : TxX) : Prop := SameP a b
section
variable {B : World} {Γ Δ : List HProp} {k : K}
theorem stars_get {α : Type} {F : α → HProp} {l : List α} {x : α} {w : World} (hx : x ∈ l) (h : Holds B (Sep.stars (l.map F) :: Γ) w) : ∃ Δ, Holds B (F x :: Δ) w := by
  obtain ⟨i, hi⟩ := List.getElem?_of_mem hx
  exact ⟨_, stars_take i hi h⟩
theorem txC_rd {t : TxX} {w : World} (h : Holds B (txC t Γ) w) : txRd w t :=
  ⟨(own_rd (s := t.rs) h).1, (own_rd (s := t.ws) h).1, (own_rd (s := t.os) h).1, fun x hx => by
    obtain ⟨Δ, hd⟩ := stars_get (F := opB) hx h.tail.tail.tail
    exact hd.rdC (E := ty_uint8) List.mem_cons_self⟩
theorem s_clone {E T esz : Nat} {us : List Value} {s : Sl} {Q : Sl → K} (hr : ∀ w, Holds B Γ w → RdC w s esz us) (hfl : ∀ u ∈ us, flatV u = true) (hroom : us.length ≤ 100000000) (he : 0 < esz) (h : ∀ s', s'.n = s.n → HG B (SlC E esz s' us :: Γ) (Q s')) (hT : appT Try.prog T T E esz = true := by kernel_rfl) :
    HG B Γ (Ite s.a.isNone (Q (Sl.mk none 0 0)) (New E #[] fun t5 => Do Try.prog (Builtin.append_ #[T, T] T #[Sl.val (Sl.mk (some t5) 0 0), s.val]) Sl.val fun t7 => Q t7)) := fun w hw => by
  have hrw := hr w hw
  have hl := hrw.len
  have hsn : s.n ≤ us.length := by rw [hl]; exact Nat.le_mul_of_pos_right _ he
  refine Sep.hg hw ?_
  clear hw
  refine s_ite (fun hb => ?_) fun hb => ?_
  · have ha : s.a = none := by cases hs : s.a with
      | none => rfl
      | some a => rw [hs] at hb; cases hb
    have hn : s.n = 0 := hrw.nil ha
    have hus : us = [] := List.length_eq_zero_iff.1 (by rw [hl, hn, Nat.zero_mul])
    refine fun w2 hw2 => h ⟨none, 0, 0⟩ hn.symm w2 ?_
    rw [hus]
    exact hw2.nilSl E esz
  · refine s_new fun t5 => ?_
    refine s_conv (A' := SlC E esz ⟨some ⟨t5, 0, none⟩, 0, 0⟩ []) (blk_SlC (vs := []) rfl (by simp)) ?_
    refine s_append (s := ⟨some ⟨t5, 0, none⟩, 0, 0⟩) (us := us) (fun w hw => hr w hw.drops) hfl (by simp only; omega) (hT := hT) fun s' hs' => ?_
    exact h s' (by simp only at hs'; omega)
theorem bclone_hg {s : Sl} {xs : List UInt8} {Q : Sl → K} (hr : ∀ w, Holds B Γ w → RdB w s xs) (hl : xs.length ≤ 90000000) (h : ∀ s', HG B (Bytes ty_uint8 s' xs :: Γ) (Q s')) : HG B Γ (bytes_Clone.call s Q) := fun w hw => by
  refine bytes_Clone_ok _ _ _ ?_
  refine Sep.hg hw ?_
  clear hw w
  unfold bytes_Clone
  exact s_clone (us := xs.map byteV) hr (byteV_flat _) (by rw [List.length_map]; omega) (by omega) fun s' _ => h s'
theorem sclone_hg {s : Sl} {L : List TX} {Q : Sl → K} (hr : ∀ w, Holds B Γ w → RdC w s 1 (L.map strV)) (hl : L.length ≤ 90000000) (h : ∀ s', HG B (SlS s' L :: Γ) (Q s')) : HG B Γ (slices_Clone_s_string_string.call s Q) := fun w hw => by
  refine slices_Clone_s_string_string_ok _ _ _ ?_
  refine Sep.hg hw ?_
  clear hw w
  unfold slices_Clone_s_string_string
  exact s_clone (us := L.map strV) hr (fun v hv => by obtain ⟨y, _, rfl⟩ := List.mem_map.1 hv; rfl) (by rw [List.length_map]; omega) (by omega) fun s' _ => h s'
theorem opF_flat (L : List OpX) : ∀ v ∈ L.flatMap opF, flatV v = true := fun v hv => by
  obtain ⟨x, _, hx⟩ := List.mem_flatMap.1 hv
  simp only [opF, List.mem_cons, List.not_mem_nil, or_false] at hx
  rcases hx with rfl | rfl | rfl | rfl <;> rfl
theorem oclone_hg {s : Sl} {L : List OpX} {Q : Sl → K} (hr : ∀ w, Holds B Γ w → RdC w s 4 (L.flatMap opF)) (hl : L.length ≤ 20000000) (h : ∀ s', HG B (SlC ty_api_Op 4 s' (L.flatMap opF) :: Γ) (Q s')) : HG B Γ (slices_Clone_s_api_Op_api_Op.call s Q) := fun w hw => by
  refine slices_Clone_s_api_Op_api_Op_ok _ _ _ ?_
  refine Sep.hg hw ?_
  clear hw w
  unfold slices_Clone_s_api_Op_api_Op
  exact s_clone (us := L.flatMap opF) hr (opF_flat L) (by rw [flatMap_len _ 4 opF_len]; omega) (by omega) fun s' _ => h s'
theorem flatMap_setAt {α : Type} {f : α → List Value} {esz : Nat} (hf : ∀ x, (f x).length = esz) : ∀ {L : List α} {i off : Nat} {x y : α} {v : Value}, L[i]? = some x → off < esz → (f x).set off v = f y → (L.flatMap f).set (i * esz + off) v = (L.set i y).flatMap f
  | [], i, off, x, y, v, hx, _, _ => by simp at hx
  | z :: L, 0, off, x, y, v, hx, ho, hy => by
    have hzx : z = x := by simpa using hx
    subst hzx
    rw [Nat.zero_mul, Nat.zero_add, List.flatMap_cons, List.set_cons_zero, List.flatMap_cons, List.set_append_left _ _ (by rw [hf]; exact ho), hy]
  | z :: L, i + 1, off, x, y, v, hx, ho, hy => by
    have ih := flatMap_setAt hf (L := L) (i := i) (by simpa using hx) ho hy
    rw [List.flatMap_cons, List.set_cons_succ, List.flatMap_cons, ← ih, List.set_append_right _ _ (by rw [hf, Nat.succ_mul]; omega), hf]
    congr 2
    rw [Nat.succ_mul]; omega
/-- A transaction as new memory. -/
theorem copy_hg {t : TxX} {Q : Array Value → K} (hr : ∀ w, Holds B Γ w → txRd w t) (hl : t.reads.length ≤ 1000 ∧ t.writes.length ≤ 1000 ∧ t.ops.length ≤ 1000 ∧ ∀ x ∈ t.ops, x.1.val.length ≤ 1000000) (h : ∀ t', TxIs t' t → HG B (txC t' Γ) (Q (txL t').toArray)) : HG B Γ (prog_Copy.call (txL t).toArray Q) := fun w hw => by
  refine prog_Copy_ok _ _ _ ?_
  refine Sep.hg hw ?_
  clear hw w
  obtain ⟨hl1, hl2, hl3, hl4⟩ := hl
  unfold prog_Copy
  refine s_new fun t1 => ?_
  refine s_new fun t2 => ?_
  repeat refine s_nx ?_
  refine sclone_hg (fun w hw => (hr w hw.drops).1) (by omega) fun rs => ?_
  refine s_sv ?_
  refine sclone_hg (fun w hw => (hr w hw.drops).2.1) (by omega) fun ws => ?_
  refine s_sv ?_
  refine oclone_hg (fun w hw => (hr w hw.drops).2.2.1) (by omega) fun os => ?_
  repeat refine s_nx ?_
  refine fun w hw => Sep.hg (show Holds B (Sep.stars (([] : List OpX).map opB) :: _) w from hw.starsNil) ?_
  clear hw w
  refine s_cap os fun a1 a2 a3 a4 => ?_
  rw [flatMap_len _ 4 opF_len] at a1
  refine s_end (Δ := SlC ty_api_Op 4 os (t.ops.flatMap opF) :: Sep.stars (([] : List OpX).map opB) :: blk t1 (.cells [.int .i64 t.kind, rs.val, ws.val, os.val, .int .i64 t.to].toArray ty_api_Txn (0, 0)) :: blk t2 (.cells [.int .i64 0, Sl.val ⟨none, 0, 0⟩, Sl.val ⟨none, 0, 0⟩, Sl.val ⟨none, 0, 0⟩, .int .i64 0].toArray ty_api_Txn (0, 0)) :: SlS ws t.writes :: SlS rs t.reads :: Γ) ?_
  refine s_loop (α := Int) (ι := Nat × List OpX) (fun x i => x = (i.1 : Int) ∧ i.1 ≤ t.ops.length ∧ i.2.map Prod.fst = t.ops.map Prod.fst ∧ i.2.drop i.1 = t.ops.drop i.1)
    (fun x i => SlC ty_api_Op 4 os (i.2.flatMap opF) :: Sep.stars ((i.2.take i.1).map opB) :: blk t1 (.cells [.int .i64 t.kind, rs.val, ws.val, os.val, .int .i64 t.to].toArray ty_api_Txn (0, 0)) :: blk t2 (.cells [.int .i64 0, Sl.val ⟨none, 0, 0⟩, Sl.val ⟨none, 0, 0⟩, Sl.val ⟨none, 0, 0⟩, .int .i64 0].toArray ty_api_Txn (0, 0)) :: SlS ws t.writes :: SlS rs t.reads :: Γ)
    (fun x i => t.ops.length - i.1) (0, t.ops) ⟨rfl, Nat.zero_le _, rfl, rfl⟩ ?_
  rintro k' _ ⟨i, L⟩ ⟨rfl, hi, hm, hd⟩ hk'
  simp only at hi hm hd hk' ⊢
  have hLl : L.length = t.ops.length := by have := congrArg List.length hm; simpa using this
  unfold prog_Copy.b1
  refine s_ite (fun hb => ?_) fun hb => ?_
  · have hil : i < t.ops.length := by simp only [decide_eq_true_eq] at hb; omega
    have hge : L[i]? = some t.ops[i] := by
      have := congrArg (·[0]?) hd
      simp only [List.getElem?_drop, Nat.add_zero] at this
      rw [this, List.getElem?_eq_getElem hil]
    have hmem : t.ops[i] ∈ t.ops := List.getElem_mem hil
    generalize t.ops[i] = x at hge hmem
    have hvl := hl4 x hmem
    refine s_idxN opF opF_len (fun w hw => (own_rd (s := os) hw).1) hge ?_
    refine s_new fun o4 => ?_
    repeat refine s_nx ?_
    refine bclone_hg (xs := x.1.val) (fun w hw => (hr w hw.drops).2.2.2 x hmem) (by omega) fun vs => ?_
    repeat refine s_nx ?_
    refine s_idx (s := os) (i := i) ?_
    refine s_stE (s := os) ?_ (by rw [flatMap_len _ 4 opF_len]; omega)
    rw [flatMap_setAt (y := ((x.1, vs) : OpX)) opF_len hge (by omega) rfl]
    refine s_ai ?_
    have hA : (L.set i (x.1, vs)).map Prod.fst = t.ops.map Prod.fst := by
      rw [← hm, List.map_set]
      refine List.ext_getElem? fun j => ?_
      rw [List.getElem?_set]
      split
      · rename_i hij
        subst hij
        split
        · simp [hge]
        · rename_i hj; simp only [List.length_map] at hj; omega
      · rfl
    have hB : (L.set i (x.1, vs)).drop (i + 1) = t.ops.drop (i + 1) := by
      rw [List.drop_set_of_lt (by omega), ← List.drop_drop, hd, List.drop_drop]
    have h := hk' ((i : Int) + 1) (i + 1, L.set i (x.1, vs)) ⟨by simp, hil, hA, hB⟩ (by simp only; omega)
    have ht : (L.set i (x.1, vs)).take (i + 1) = L.take i ++ [((x.1, vs) : OpX)] := by
      have hx : (L.set i (x.1, vs))[i]? = some (x.1, vs) := by rw [List.getElem?_set_self (by omega)]
      rw [List.take_add_one, hx, List.take_set_of_le (Nat.le_refl _)]
      rfl
    simp only at h
    rw [ht] at h
    have := s_unmid (F := opB) (A := L.take i) (C := []) (x := ((x.1, vs) : OpX)) (Γ := SlC ty_api_Op 4 os ((L.set i (x.1, vs)).flatMap opF) :: blk t1 (.cells [.int .i64 t.kind, rs.val, ws.val, os.val, .int .i64 t.to].toArray ty_api_Txn (0, 0)) :: blk t2 (.cells [.int .i64 0, Sl.val ⟨none, 0, 0⟩, Sl.val ⟨none, 0, 0⟩, Sl.val ⟨none, 0, 0⟩, .int .i64 0].toArray ty_api_Txn (0, 0)) :: SlS ws t.writes :: SlS rs t.reads :: Γ) (s_end h)
    rw [List.append_nil] at this
    exact s_end this
  · have hil : i = t.ops.length := by simp only [decide_eq_false_iff_not] at hb; omega
    rw [hil, ← hLl, List.take_length]
    repeat refine s_nx ?_
    have := h ⟨t.kind, t.reads, t.writes, L, t.to, rs, ws, os⟩ ⟨rfl, rfl, rfl, rfl, hm⟩
    exact s_end this
/-- The keys of a transaction. -/
theorem keys_hg {t : TxX} {Q : Sl → K} (hr1 : ∀ w, Holds B Γ w → RdC w t.rs 1 (t.reads.map strV)) (hr2 : ∀ w, Holds B Γ w → RdC w t.ws 1 (t.writes.map strV)) (hl : t.reads.length ≤ 400000) (hl2 : t.writes.length ≤ 400000) (h : ∀ s, HG B (SlS s (keysT (t.reads ++ t.writes)) :: Γ) (Q s)) : HG B Γ (prog_Keys.call (txL t).toArray Q) := fun w hw => by
  refine prog_Keys_ok _ _ _ ?_
  refine Sep.hg hw ?_
  clear hw w
  unfold prog_Keys
  refine s_new fun t1 => ?_
  repeat refine s_nx ?_
  refine s_new fun t8 => ?_
  refine concat2_hg (La := t.reads) (Lb := t.writes) (by omega) (by omega) (fun w hw => hr1 w hw.drops) (fun w hw => hr2 w hw.drops) fun s => ?_
  have hln : (t.reads ++ t.writes).length = t.reads.length + t.writes.length := List.length_append
  refine fun w hw => slices_Sort_spec (by omega) hw fun w hw => ?_
  refine Sep.hg hw ?_
  clear hw w
  refine compact_hg (by rw [sortL_len]; omega) fun s' => ?_
  have := h s'
  unfold keysT at this
  exact s_end this
end
end Go.Proofs.Yteolfpghafdmdaa
/- The document's transactions: which are right. -/
namespace Go.Proofs.Yteolfpghafdmdaa
open Go Go.Sep
set_option linter.unusedSimpArgs false
set_option linter.unusedVariables false
set_option maxRecDepth 100000

def opRight (t : TxX) (o : OpM) : Bool :=
  if 32 < o.val.length ∨ o.kind < 1 ∨ 7 < o.kind then false
  else if o.kind = 7 then decide (o.key = []) && decide (o.n = 0)
  else if o.key ∉ t.writes ∧ (o.key ∉ t.reads ∨ o.kind = 2 ∨ o.kind = 3 ∨ o.kind = 6) then false
  else if o.kind ≠ 6 ∧ o.n ≠ 0 then false
  else decide (o.kind = 2) || (decide (o.kind = 4) || decide (o.val.length = 0))
abbrev Rises (L : List TX) : Prop := L.Pairwise (· < ·)
abbrev headBad (n : Int) (t : TxX) : Prop := n < 1 ∨ 3 < n ∨ ¬ Rises t.reads ∨ ¬ Rises t.writes ∨ 8 < t.reads.length ∨ 8 < t.writes.length ∨ 8 < t.reads.length + t.writes.length
abbrev keysBad (t : TxX) : Prop := (∃ k ∈ t.reads ++ t.writes, k.length < 1 ∨ 16 < k.length) ∨ ∃ k ∈ t.reads, k ∈ t.writes
def rightT (n : Int) (t : TxX) : Bool :=
  if headBad n t then false
  else if keysBad t then false
  else if t.kind = 2 then decide (t.reads.length = 0) && (decide (t.ops.length = 0) && (decide (t.writes.length = 1) && (decide (0 ≤ t.to) && decide (t.to < n))))
  else if t.kind ≠ 1 ∨ t.to ≠ 0 ∨ 16 < t.ops.length then false
  else t.ops.all fun x => opRight t x.1
theorem right_same {a b : TxX} (h : SameP a b) (n : Int) : rightT n a = rightT n b := by
  obtain ⟨h1, h2, h3, h4, h5⟩ := h
  have hl : a.ops.length = b.ops.length := by have := congrArg List.length h5; simpa using this
  have ho : (a.ops.all fun x => opRight a x.1) = (b.ops.all fun x => opRight b x.1) := by
    have e : ∀ o, opRight a o = opRight b o := fun o => by unfold opRight; rw [h3, h4]
    have e2 : ∀ (t : TxX), (t.ops.all fun x => opRight b x.1) = ((t.ops.map Prod.fst).all fun o => opRight b o) := fun t => by rw [List.all_map]; rfl
    simp only [e]
    rw [e2 a, e2 b, h5]
  unfold rightT headBad keysBad
  rw [h1, h2, h3, h4, hl, ho]
theorem flatMap_1 {α β : Type} (f : α → β) (L : List α) : L.flatMap (fun x => [f x]) = L.map f := by induction L <;> simp_all
section
variable {B : World} {Γ Δ : List HProp} {k : K}
theorem s_ldA0 {α : Type} {a : Addr} {cs : List Value} {c : α → Value} {x : α} {k : α → K} (hn : ∀ w, Holds B Γ w → RdN w a cs.toArray) (hv : cs[0]? = some (c x)) (h : HG B Γ (k x)) : HG B Γ (Ld a c k) := fun w hw => ⟨x, by
  have := hn w hw 0 (by have := (List.getElem?_eq_some_iff.1 hv).1; simpa using this)
  rw [add0] at this
  rw [this]; simpa using hv, h w hw⟩
theorem s_ldSA {Γ0 : List HProp} {α : Type} {a : Addr} {off : Nat} {cs : List Value} {c : α → Value} {x : α} {k : α → K} (hn : ∀ w, Holds B Γ0 w → RdN w a cs.toArray) (hv : cs[off]? = some (c x)) (h : HG B Γ (k x)) : HG B Γ (LdS (Holds B Γ0) (a.add off) c k) := fun w hw => ⟨x, fun w' hw' => by
  have := hn w' hw' off (by have := (List.getElem?_eq_some_iff.1 hv).1; simpa using this)
  rw [this]; simpa using hv, h w hw⟩
theorem s_ldSA0 {Γ0 : List HProp} {α : Type} {a : Addr} {cs : List Value} {c : α → Value} {x : α} {k : α → K} (hn : ∀ w, Holds B Γ0 w → RdN w a cs.toArray) (hv : cs[0]? = some (c x)) (h : HG B Γ (k x)) : HG B Γ (LdS (Holds B Γ0) a c k) := by
  have := s_ldSA (off := 0) hn hv h
  rwa [add0] at this
theorem s_ldNSA {Γ0 : List HProp} {a : Addr} {n : Nat} {cs : List Value} {k : Array Value → K} (hn : ∀ w, Holds B Γ0 w → RdN w a cs.toArray) (hl : cs.length = n) (h : HG B Γ (k cs.toArray)) : HG B Γ (LdNS (Holds B Γ0) a n k) := fun w hw => ⟨cs.toArray, by simpa using hl, fun w' hw' => hn w' hw', h w hw⟩
/-- An element's place, in every state. -/
theorem s_idxFA {α : Type} (f : α → List Value) {esz : Nat} {L : List α} {s : Sl} {j : Nat} {jj : Int} {x : α} {k : Addr → K} (hf : ∀ x, (f x).length = esz) (he : 0 < esz) (hr : ∀ w, Holds B Γ w → RdC w s esz (L.flatMap f)) (hx : L[j]? = some x) (h : ∀ t, (∀ w, RdC w s esz (L.flatMap f) → RdN w t (f x).toArray) → HG B Γ (k t)) (hj : jj = (j : Int) := by first | rfl | omega) :
    HG B Γ (Idx s jj esz k) := fun w hw => by
  subst hj
  have hrw := hr w hw
  have hj : j < L.length := (List.getElem?_eq_some_iff.1 hx).1
  have hn : L.length = s.n := by
    have := hrw.len; rw [flatMap_len f esz hf] at this
    exact Nat.eq_of_mul_eq_mul_right he this
  cases ha : s.a with
  | none => have := hrw.nil ha; omega
  | some a =>
    refine ⟨a, _, ha, by omega, by omega, rfl, h _ (fun w' hw' => ?_) w hw⟩
    simp only [Int.toNat_natCast]
    exact flat_at f esz hf hw' ha hx
end
end Go.Proofs.Yteolfpghafdmdaa
/- A B-tree, whatever its keys and values: the plain forms of its functions (printed by tools/mkbt.py), and what they do. Holds for every program. -/
namespace Go.Sep
open Go Go.RowKit
set_option linter.unusedSimpArgs false
set_option linter.unusedVariables false
namespace Bt

/-- What a tree's functions are told of types and of each other. -/
structure BtT (κ : Type) where
  P : Program
  tI : Nat
  tSI : Nat
  tV : Nat
  tK : Nat
  tSK : Nat
  tN : Nat
  tT : Nat
  nv : Nat
  kz : Value
  vz : List Value
  kV : κ → Value
  cv : Value
  bsC : Sl → κ → Value → (Int → Bool → K) → K
  nsearchC : Option Addr → κ → (Int → Bool → K) → K
  nputC : Option Addr → Array Value → (Array Value → Bool → Option Addr → Option Addr → K) → K
  insIC : Sl → Int → Sl → (Sl → K) → K
  insKC : Sl → Int → Sl → (Sl → K) → K
  cloneIC : Sl → (Sl → K) → K
  cloneKC : Sl → (Sl → K) → K

section
variable {κ : Type}
def tnew (G : BtT κ)  (Q : (Option Addr) → K) : K :=
  New G.tN #[(Sl.val ⟨none, 0, 0⟩), (Sl.val ⟨none, 0, 0⟩)] fun t2 =>
  New G.tT #[(.pointer (some t2)), (.int .i64 0)] fun t4 =>
  Q (some t4)
def nsearch (G : BtT κ) (n0 : (Option Addr)) (key1 : κ) (Q : Int → Bool → K) : K :=
  Nn n0 fun t7 =>
  Ld t7 Sl.val fun t9 =>
  G.bsC t9 key1 G.cv fun t11x0 t11x1 =>
  Q t11x0 t11x1
def tget_b1 (G : BtT κ) (Q : (Array Value) → Bool → K)  (X1 : (Option Addr) → K) (key1_1 : κ) (value4_1 : Addr) (n6_1 : (Option Addr)) : K :=
  G.nsearchC n6_1 key1_1 fun t16x0 t16x1 =>
  Ite t16x1
    (Nn n6_1 fun t21 =>
    Ld t21 Sl.val fun t23 =>
    Idx t23 t16x0 (G.nv + 1) fun t25 =>
    LdN (t25.add 1) G.nv fun t27 =>
    StN value4_1 G.nv t27 <|
    LdN value4_1 G.nv fun r0 =>
    Q r0 true)
    (Nn n6_1 fun t29 =>
    Ld (t29.add 1) Sl.val fun t31 =>
    Ite (decide ((t31.n : Int) = 0))
      (LdN value4_1 G.nv fun t34 =>
      StN value4_1 G.nv t34 <|
      LdN value4_1 G.nv fun r0 =>
      Q r0 false)
      (Ld (t29.add 1) Sl.val fun t38 =>
      Idx t38 t16x0 1 fun t40 =>
      Ld t40 Value.pointer fun t41 =>
      X1 t41))
def tget (G : BtT κ) (t0 : (Option Addr)) (key1 : κ) (Q : (Array Value) → Bool → K) : K :=
  New G.tV G.vz.toArray fun value4 =>
  Nn t0 fun t10 =>
  Ld t10 Value.pointer fun t12 =>
  LoopK (α := (Option Addr)) (fun X x => tget_b1 G Q X key1 value4 x) t12
def nput_s2 (G : BtT κ) (Q : (Array Value) → Bool → (Option Addr) → (Option Addr) → K)  (old4_2 : Addr) (had5_2 : Bool) (right7_2 : Addr) (m12_2 : Addr) : K :=
  LdN old4_2 G.nv fun t153 =>
  StN old4_2 G.nv t153 <|
  LdN old4_2 G.nv fun r0 =>
  Q r0 had5_2 (some m12_2) (some right7_2)
def nput_s1 (G : BtT κ) (Q : (Array Value) → Bool → (Option Addr) → (Option Addr) → K)  (n0_1 : (Option Addr)) (old4_1 : Addr) (had5_1 : Bool) : K :=
  Nn n0_1 fun t101 =>
  Ld t101 Sl.val fun t103 =>
  Ite (decide ((t103.n : Int) ≤ 5))
    (LdN old4_1 G.nv fun t106 =>
    StN old4_1 G.nv t106 <|
    LdN old4_1 G.nv fun r0 =>
    Q r0 had5_1 none none)
    (Ld t101 Sl.val fun t111 =>
    Idx t111 2 (G.nv + 1) fun t112 =>
    LdN t112 (G.nv + 1) fun t113 =>
    New G.tI (G.kz :: G.vz).toArray fun m12 =>
    StN m12 (G.nv + 1) t113 <|
    Ld t101 Sl.val fun t117 =>
    Slc t117 3 (t117.n : Int) (t117.c : Int) (G.nv + 1) fun t118 =>
    G.cloneIC t118 fun t119 =>
    New G.tN #[(Sl.val t119), (Sl.val ⟨none, 0, 0⟩)] fun t121 =>
    Ld t101 Sl.val fun t126 =>
    Slc t126 0 2 2 (G.nv + 1) fun t127 =>
    St t101 (Sl.val t127) <|
    Ld (t101.add 1) Sl.val fun t133 =>
    Ite (decide ((0 : Int) < (t133.n : Int)))
      (Ld (t101.add 1) Sl.val fun t140 =>
      Slc t140 3 (t140.n : Int) (t140.c : Int) 1 fun t141 =>
      G.cloneKC t141 fun t142 =>
      St (t121.add 1) (Sl.val t142) <|
      Ld (t101.add 1) Sl.val fun t149 =>
      Slc t149 0 3 3 1 fun t150 =>
      St (t101.add 1) (Sl.val t150) <|
      nput_s2 G Q old4_1 had5_1 t121 m12)
      (nput_s2 G Q old4_1 had5_1 t121 m12))
def nput (G : BtT κ) (n0 : (Option Addr)) (x1 : (Array Value)) (Q : (Array Value) → Bool → (Option Addr) → (Option Addr) → K) : K :=
  New G.tI x1 fun x3 =>
  New G.tV G.vz.toArray fun old4 =>
  Ld x3 G.kV fun t16 =>
  G.nsearchC n0 t16 fun t17x0 t17x1 =>
  Ite t17x1
    (Nn n0 fun t64 =>
    Ld t64 Sl.val fun t66 =>
    Idx t66 t17x0 (G.nv + 1) fun t68 =>
    LdN (t68.add 1) G.nv fun t70 =>
    StN old4 G.nv t70 <|
    Dr <|
    Ld t64 Sl.val fun t74 =>
    LdN (x3.add 1) G.nv fun t77 =>
    Idx t74 t17x0 (G.nv + 1) fun t78 =>
    StN (t78.add 1) G.nv t77 <|
    LdN old4 G.nv fun t80 =>
    StN old4 G.nv t80 <|
    LdN old4 G.nv fun r0 =>
    Q r0 true none none)
    (Nn n0 fun t84 =>
    Ld (t84.add 1) Sl.val fun t86 =>
    Ite (decide ((t86.n : Int) = 0))
      (Dr <| WithS fun S =>
      LdS S t84 Sl.val fun t93 =>
      LdNS S x3 (G.nv + 1) fun t95 =>
      Bld (G.kz :: G.vz).toArray (fun i => some (i * (G.nv + 1), (G.nv + 1))) [(0, (.agg t95))] fun ct96 =>
      New G.tI ct96 fun t96 =>
      Sv S <|
      G.insIC t93 t17x0 (Sl.mk (some t96) 1 1) fun t97 =>
      St t84 (Sl.val t97) <|
      nput_s1 G Q (some t84) old4 false)
      (Dr <|
      Ld (t84.add 1) Sl.val fun t24 =>
      Idx t24 t17x0 1 fun t26 =>
      Ld t26 Value.pointer fun t27 =>
      LdN x3 (G.nv + 1) fun t28 =>
      G.nputC t27 t28 fun t29x0 t29x1 t29x2 t29x3 =>
      StN old4 G.nv t29x0 <|
      Ite (!(t29x2).isNone)
        (Dr <| WithS fun S =>
        Nn t29x2 fun t43 =>
        LdS S t84 Sl.val fun t40 =>
        LdNS S t43 (G.nv + 1) fun t44 =>
        Bld (G.kz :: G.vz).toArray (fun i => some (i * (G.nv + 1), (G.nv + 1))) [(0, (.agg t44))] fun ct45 =>
        New G.tI ct45 fun t45 =>
        Sv S <|
        G.insIC t40 t17x0 (Sl.mk (some t45) 1 1) fun t46 =>
        St t84 (Sl.val t46) <|
        Ld (t84.add 1) Sl.val fun t53 =>
        Ar (IntKind.wrap .i64 (t17x0 + 1)) fun t55 =>
        New G.tK #[(.pointer t29x3)] fun t57 =>
        G.insKC t53 t55 (Sl.mk (some t57) 1 1) fun t58 =>
        St (t84.add 1) (Sl.val t58) <|
        nput_s1 G Q (some t84) old4 t29x1)
        (nput_s1 G Q (some t84) old4 t29x1)))
def tput_s3 (G : BtT κ) (Q : (Array Value) → Bool → K)  (t6_3 : Addr) (old8_3 : Addr) (had9_3 : Bool) : K :=
  LdN old8_3 G.nv fun t51 =>
  StN t6_3 G.nv t51 <|
  LdN t6_3 G.nv fun r0 =>
  Q r0 had9_3
def tput_s2 (G : BtT κ) (Q : (Array Value) → Bool → K)  (t0_2 : (Option Addr)) (t6_2 : Addr) (old8_2 : Addr) (had9_2 : Bool) : K :=
  Ite (!had9_2)
    (Nn t0_2 fun t45 =>
    Ld (t45.add 1) (Value.int .i64) fun t47 =>
    Ar (IntKind.wrap .i64 (t47 + 1)) fun t48 =>
    St (t45.add 1) (.int .i64 t48) <|
    tput_s3 G Q t6_2 old8_2 had9_2)
    (tput_s3 G Q t6_2 old8_2 had9_2)
def tput_s1 (G : BtT κ) (Q : (Array Value) → Bool → K)  (t0_1 : (Option Addr)) (t6_1 : Addr) (old8_1 : Addr) (had9_1 : Bool) (mid10_1 : (Option Addr)) (right11_1 : (Option Addr)) : K :=
  Ite (!(mid10_1).isNone)
    (Dr <| WithS fun S =>
    Nn mid10_1 fun t29 =>
    Nn t0_1 fun t33 =>
    LdNS S t29 (G.nv + 1) fun t30 =>
    LdS S t33 Value.pointer fun t35 =>
    All [
      (Bld (G.kz :: G.vz).toArray (fun i => some (i * (G.nv + 1), (G.nv + 1))) [(0, (.agg t30))] fun ct31 =>
      New G.tI ct31 fun t31 =>
      Sv S <|
      New G.tK #[(.pointer t35), (.pointer right11_1)] fun t37 =>
      Sv S <|
      New G.tN #[(Sl.val (Sl.mk (some t31) 1 1)), (Sl.val (Sl.mk (some t37) 2 2))] fun t39 =>
      St t33 (.pointer (some t39)) <|
      tput_s2 G Q (some t33) t6_1 old8_1 had9_1),
      (New G.tK #[(.pointer t35), (.pointer right11_1)] fun t37 =>
      Sv S <|
      Bld (G.kz :: G.vz).toArray (fun i => some (i * (G.nv + 1), (G.nv + 1))) [(0, (.agg t30))] fun ct31 =>
      New G.tI ct31 fun t31 =>
      Sv S <|
      New G.tN #[(Sl.val (Sl.mk (some t31) 1 1)), (Sl.val (Sl.mk (some t37) 2 2))] fun t39 =>
      St t33 (.pointer (some t39)) <|
      tput_s2 G Q (some t33) t6_1 old8_1 had9_1)
      ])
    (tput_s2 G Q t0_1 t6_1 old8_1 had9_1)
def tput (G : BtT κ) (t0 : (Option Addr)) (key1 : κ) (value2 : (Array Value)) (Q : (Array Value) → Bool → K) : K :=
  New G.tV value2 fun value5 =>
  New G.tV G.vz.toArray fun t6 =>
  Dr <| WithS fun S =>
  Nn t0 fun t14 =>
  LdS S t14 Value.pointer fun t16 =>
  LdNS S value5 G.nv fun t18 =>
  Bld (G.kz :: G.vz).toArray ([(0, 1), (1, G.nv)][·]?) [(0, (G.kV key1)), (1, (.agg t18))] fun t19 =>
  All [
    (G.nputC t16 t19 fun t20x0 t20x1 t20x2 t20x3 =>
    New G.tV G.vz.toArray fun old8 =>
    StN old8 G.nv t20x0 <|
    tput_s1 G Q (some t14) t6 old8 t20x1 t20x2 t20x3),
    (New G.tV G.vz.toArray fun old8 =>
    Sv S <|
    G.nputC t16 t19 fun t20x0 t20x1 t20x2 t20x3 =>
    StN old8 G.nv t20x0 <|
    tput_s1 G Q (some t14) t6 old8 t20x1 t20x2 t20x3)
    ]
end

/-- A value's cells. -/
abbrev Cel (n : Nat) := {l : List Value // l.length = n ∧ l.all flatV = true}
section
variable {κ : Type} (G : BtT κ)
abbrev BtT.It := κ × Cel G.nv
def BtT.f (x : G.It) : List Value := G.kV x.1 :: x.2.1
abbrev BtT.z0 (h : G.vz.length = G.nv ∧ G.vz.all flatV = true) : Cel G.nv := ⟨G.vz, h⟩
theorem BtT.f_len (x : G.It) : (G.f x).length = G.nv + 1 := by simp [BtT.f, x.2.2.1]

/-- What is asked of a tree's functions, and of how keys are compared. -/
structure BtOk (c : κ → κ → Int) : Prop where
  kf : ∀ k, flatV (G.kV k) = true
  kzf : flatV G.kz = true
  vz : G.vz.length = G.nv ∧ G.vz.all flatV = true
  TI : appT G.P G.tSI G.tSI G.tI (G.nv + 1) = true
  ZI : apZT G.P G.tSI 3 G.tI (G.nv + 1) = true
  TK : appT G.P G.tSK G.tSK G.tK 1 = true
  ZK : apZT G.P G.tSK 3 G.tK 1 = true
  tr : ∀ {a b d}, c a b < 0 → c b d < 0 → c a d < 0
  eq : ∀ {a b}, c a b = 0 ↔ a = b
  sw : ∀ {a b}, c a b < 0 ↔ 0 < c b a
  cmp : ∀ {B : World} {Γ : List HProp} (a b : κ) (vs : List Value) (q : Int → K), vs.length = G.nv → HG B Γ (q (c a b)) → HG B Γ (CallV G.P G.cv [(.agg (G.kV a :: vs).toArray), G.kV b] (Ans1 (fun (t : Int) => (Value.int .i64) t) q))
  bs : ∀ s k Q w, bsK G.P (G.nv + 1) s (G.kV k) G.cv Q w → G.bsC s k G.cv Q w
  search : ∀ n k Q w, nsearch G n k Q w → G.nsearchC n k Q w
  put : ∀ n x Q w, nput G n x Q w → G.nputC n x Q w
  insI : ∃ R rot, ∀ s i v Q w, insK G.P G.tSI 3 R (G.nv + 1) rot s i v Q w → G.insIC s i v Q w
  insK : ∃ R rot, ∀ s i v Q w, insK G.P G.tSK 3 R 1 rot s i v Q w → G.insKC s i v Q w
  cloneI : ∀ s Q w, cloneK G.P G.tI G.tSI s Q w → G.cloneIC s Q w
  cloneK : ∀ s Q w, cloneK G.P G.tK G.tSK s Q w → G.cloneKC s Q w
end

section
variable {κ : Type} {G : BtT κ} {c : κ → κ → Int} {B : World} {Γ Δ : List HProp}
/-- Keys rise. -/
def Srt (c : κ → κ → Int) {ν : Type} (L : List (κ × ν)) : Prop := L.Pairwise fun x y => c x.1 y.1 < 0
theorem f_flat (ok : BtOk G c) (x : G.It) : ∀ v ∈ G.f x, flatV v = true := fun v hv => by
  rcases List.mem_cons.1 hv with rfl | hv
  · exact ok.kf _
  · exact List.all_eq_true.1 x.2.2.2 v hv
theorem fl_flat (ok : BtOk G c) (L : List G.It) : ∀ v ∈ L.flatMap G.f, flatV v = true := fun v hv => by
  obtain ⟨x, _, hx⟩ := List.mem_flatMap.1 hv
  exact f_flat ok x v hx
theorem cc (ok : BtOk G c) {a b : κ} (h : 0 < c a b) (h2 : c a b < 0) : False := by omega

theorem s_search (ok : BtOk G c) {b : Nat} {s kd : Sl} {its : List G.It} {k : κ} {Q : Int → Bool → K} [p : Own b Γ (blk b (.cells [s.val, kd.val].toArray G.tN (0, 0))) Δ] {Δ2 : List HProp} [q : OwnS s Γ (SlC G.tI (G.nv + 1) s (its.flatMap G.f)) Δ2]
    (hs : Srt c its) (hl : its.length ≤ 1000) (hfound : ∀ A v C, its = A ++ (k, v) :: C → HG B Γ (Q A.length true)) (hnot : ∀ A C, its = A ++ C → (∀ x ∈ A, c x.1 k < 0) → (∀ x ∈ C, c k x.1 < 0) → HG B Γ (Q A.length false)) :
    HG B Γ (G.nsearchC (some ⟨b, 0, none⟩) k Q) := by
  refine fun w hw => ok.search _ _ _ _ ?_
  refine hg hw ?_
  clear hw w
  unfold nsearch
  refine s_nn ?_
  refine s_ld (b := b) (x := s) ?_
  refine fun w hw => ok.bs _ _ _ _ ?_
  refine hg hw ?_
  clear hw w
  obtain ⟨A, C, hAC, hA, hC⟩ : ∃ A C, its = A ++ C ∧ (∀ x ∈ A, c x.1 k < 0) ∧ ∀ x ∈ C, 0 ≤ c x.1 k := by
    clear hfound hnot q hl
    induction its with
    | nil => exact ⟨[], [], rfl, by simp, by simp⟩
    | cons x L ih =>
      have hs' := List.pairwise_cons.1 hs
      by_cases h : c x.1 k < 0
      · obtain ⟨A, C, h1, h2, h3⟩ := ih hs'.2
        exact ⟨x :: A, C, by rw [h1]; rfl, List.forall_mem_cons.2 ⟨h, h2⟩, h3⟩
      · refine ⟨[], x :: L, rfl, by simp, fun y hy => ?_⟩
        rcases List.mem_cons.1 hy with rfl | hy
        · omega
        · have h1 := hs'.1 y hy
          refine Int.not_lt.1 fun h2 => h (ok.tr h1 h2)
  subst hAC
  have hlen : (A ++ C).length = A.length + C.length := List.length_append
  refine s_bs (s := s) (L := A ++ C) (f := G.f) (c := fun x => c x.1 k) (p := A.length) G.f_len (by omega) (fun i x hx hi => ?_) (fun i x hx hi => ?_) (by omega) (fun x hx q hq => ok.cmp _ _ _ _ x.2.2.1 hq) ?_ (by omega)
  · rw [List.getElem?_append_left hi] at hx
    exact hA x (List.mem_of_getElem? hx)
  · rw [List.getElem?_append_right hi] at hx
    exact hC x (List.mem_of_getElem? hx)
  · have e : (A ++ C)[A.length]? = C.head? := by rw [List.getElem?_append_right (Nat.le_refl _), Nat.sub_self, List.head?_eq_getElem?]
    rw [e]
    cases C with
    | nil => simpa using hnot A [] rfl hA (by simp)
    | cons x C =>
      have hs2 := (List.pairwise_append.1 hs).2.1
      by_cases h0 : c x.1 k = 0
      · have := ok.eq.1 h0
        obtain ⟨xk, v⟩ := x
        simp only at this; subst this
        simpa [h0] using hfound A v C rfl
      · have h1 : 0 < c x.1 k := by have := hC x List.mem_cons_self; omega
        have := hnot A (x :: C) rfl hA (fun y hy => by
          rcases List.mem_cons.1 hy with rfl | hy
          · exact ok.sw.2 h1
          · exact ok.tr (ok.sw.2 h1) ((List.pairwise_cons.1 hs2).1 y hy))
        simpa [h0] using this
end
end Bt
end Go.Sep
/- A B-tree's node, and what put does to it. Holds for every program. -/
namespace Go.Sep
open Go Go.RowKit
set_option linter.unusedSimpArgs false
set_option linter.unusedVariables false
namespace Bt
section
variable {κ : Type} {G : BtT κ} {c : κ → κ → Int} {B : World} {Γ Δ : List HProp}
theorem flatMap_drop {α : Type} {f : α → List Value} {esz : Nat} (hf : ∀ x, (f x).length = esz) : ∀ (L : List α) (i : Nat), (L.flatMap f).drop (i * esz) = (L.drop i).flatMap f
  | L, 0 => by simp
  | [], i + 1 => by simp
  | x :: L, i + 1 => by
    rw [List.flatMap_cons, List.drop_succ_cons, ← flatMap_drop hf L i, Nat.add_mul, Nat.one_mul, Nat.add_comm, ← List.drop_drop, ← hf x, List.drop_left]
theorem flatMap_take {α : Type} {f : α → List Value} {esz : Nat} (hf : ∀ x, (f x).length = esz) : ∀ (L : List α) (i : Nat), (L.flatMap f).take (i * esz) = (L.take i).flatMap f
  | L, 0 => by simp
  | [], i + 1 => by simp
  | x :: L, i + 1 => by
    rw [List.flatMap_cons, List.take_succ_cons, List.flatMap_cons, ← flatMap_take hf L i, Nat.add_mul, Nat.one_mul, Nat.add_comm, ← hf x, List.take_length_add_append]
theorem s_ldEl {α : Type} {f : α → List Value} {esz E : Nat} {s : Sl} {L : List α} {i : Nat} {x : α} {k : Array Value → K} (hf : ∀ x, (f x).length = esz) (hx : L[i]? = some x) (h : HG B Γ (k (f x).toArray)) [o : OwnS s Γ (SlC E esz s (L.flatMap f)) Δ] : HG B Γ (LdN (elA s i esz) esz k) := by
  rw [← add0 (elA s i esz)]
  exact s_ldEN (s := s) (by simpa using flatMap_el hf hx) (hf x) h
abbrev nodeB (G : BtT κ) (b : Nat) (s kd : Sl) : HProp := blk b (.cells [s.val, kd.val].toArray G.tN (0, 0))
abbrev itsR (G : BtT κ) (s : Sl) (its : List G.It) : HProp := SlC G.tI (G.nv + 1) s (its.flatMap G.f)
abbrev kpsR (G : BtT κ) (s : Sl) (kp : List (Option Addr)) : HProp := SlC G.tK 1 s (kp.map Value.pointer)
abbrev valB (G : BtT κ) (b : Nat) (v : Cel G.nv) : HProp := blk b (.cells v.1.toArray G.tV (0, 0))
/-- A value's block is read, written and read. -/
theorem s_ret3 {o : Nat} {v : Cel G.nv} {k : Array Value → K} (h : HG B Γ (k v.1.toArray)) [p : Own o Γ (valB G o v) Δ] : HG B Γ (LdN ⟨o, 0, none⟩ G.nv fun t => StN ⟨o, 0, none⟩ G.nv t <| LdN ⟨o, 0, none⟩ G.nv k) := by
  have e : (v.1.drop 0).take G.nv = v.1 := by rw [List.drop_zero, List.take_of_length_le (Nat.le_of_eq v.2.1)]
  refine fun w hw => ?_
  refine hg (hw.perm p.perm) ?_
  refine s_ldN (b := o) ?_ e v.2.1
  refine s_stN (b := o) ?_ v.2.1 v.2.1 v.2.2
  refine s_ldN (b := o) ?_ e v.2.1
  exact fun w hw => h w (hw.perm p.perm.symm)
theorem kp_flat (kp : List (Option Addr)) : ∀ v ∈ kp.map Value.pointer, flatV v = true := fun v hv => by obtain ⟨a, _, rfl⟩ := List.mem_map.1 hv; rfl
theorem kp_len (kp : List (Option Addr)) : (kp.map Value.pointer).length = kp.length * 1 := by simp

theorem s_s1 (ok : BtOk G c) {o b : Nat} {old : Cel G.nv} {had : Bool} {s kd : Sl} {its : List G.It} {kp : List (Option Addr)} {Q : Array Value → Bool → Option Addr → Option Addr → K} (hs : its.length ≤ 6) (hk : kp = [] ∨ kp.length = its.length + 1)
    (h1 : its.length ≤ 5 → HG B (nodeB G b s kd :: itsR G s its :: kpsR G kd kp :: Γ) (Q old.1.toArray had none none))
    (h2 : ∀ x, its.length = 6 → its = its.take 2 ++ x :: its.drop 3 → ∀ s1 c1 r s2 c2 mb, HG B (blk mb (.cells (G.f x).toArray G.tI (0, 0)) :: nodeB G b s1 c1 :: itsR G s1 (its.take 2) :: kpsR G c1 (kp.take 3) :: nodeB G r s2 c2 :: itsR G s2 (its.drop 3) :: kpsR G c2 (kp.drop 3) :: Γ) (Q old.1.toArray had (some ⟨mb, 0, none⟩) (some ⟨r, 0, none⟩))) :
    HG B (valB G o old :: nodeB G b s kd :: itsR G s its :: kpsR G kd kp :: Γ) (nput_s1 G Q (some ⟨b, 0, none⟩) ⟨o, 0, none⟩ had) := by
  refine s_cap s fun l1 l2 l3 l4 => ?_
  refine s_cap kd fun m1 m2 m3 m4 => ?_
  rw [flatMap_len G.f _ G.f_len] at l1
  have hn : s.n = its.length := (Nat.eq_of_mul_eq_mul_right (by omega) l1).symm
  have hkn : kd.n = kp.length := by rw [kp_len] at m1; omega
  unfold nput_s1
  refine s_nn ?_
  refine s_ld (b := b) (x := s) ?_
  refine s_ite (fun hb => ?_) fun hb => ?_
  · refine s_ret3 ?_
    exact s_end (h1 (by simp only [decide_eq_true_eq] at hb; omega))
  have h6 : its.length = 6 := by simp only [decide_eq_false_iff_not] at hb; omega
  obtain ⟨x, hx⟩ : ∃ x, its[2]? = some x := ⟨_, List.getElem?_eq_getElem (by omega)⟩
  have hsplit : its = its.take 2 ++ x :: its.drop 3 := by
    have := List.drop_eq_getElem_cons (l := its) (i := 2) (by omega)
    rw [List.getElem?_eq_getElem (by omega), Option.some.injEq] at hx
    rw [hx] at this
    rw [← this, List.take_append_drop]
  refine s_ld (b := b) (x := s) ?_
  refine s_idx (s := s) (i := 2) ?_
  refine s_ldEl (s := s) G.f_len hx ?_
  refine s_new fun mb => ?_
  refine s_stN (b := mb) ?_ (by simp [ok.vz.1]) (G.f_len x) (List.all_eq_true.2 (f_flat ok x))
  refine s_ld (b := b) (x := s) ?_
  refine s_slc (lo := 3) (hi := s.n) (mx := s.c) ?_
  refine fun w hw => ok.cloneI _ _ _ ?_
  refine hg hw ?_
  clear hw w
  have hfl := fl_flat ok its
  refine s_clone0 (s := ⟨cutA s.a 3 s.c (G.nv + 1), s.n - 3, s.c - 3⟩) (us := (its.drop 3).flatMap G.f) (esz := G.nv + 1) (fun w hw => ?_) (fl_flat ok _) (by simp only; omega) (fun s2 hs2 => ?_) ok.TI
  · rw [← flatMap_drop G.f_len]
    exact (own_rd (s := s) hw).1.drop (by omega) l2 l3
  refine s_new fun r => ?_
  refine s_ld (b := b) (x := s) ?_
  refine s_slc (lo := 0) (hi := 2) (mx := 2) ?_
  rw [cut0 l3]
  refine s_st (b := b) ?_
  refine s_shrink (s := s) (m := 2) (c' := 2) (by omega) (by omega) (by omega) ?_
  rw [flatMap_take G.f_len]
  refine s_ld (b := b) (x := kd) ?_
  refine s_ite (fun hb2 => ?_) fun hb2 => ?_
  · have hk7 : kp.length = 7 := by
      simp only [decide_eq_true_eq] at hb2
      rcases hk with rfl | hk
      · simp only [List.length_nil] at hkn; omega
      · omega
    refine s_ld (b := b) (x := kd) ?_
    refine s_slc (lo := 3) (hi := kd.n) (mx := kd.c) ?_
    refine fun w hw => ok.cloneK _ _ _ ?_
    refine hg hw ?_
    clear hw w
    refine s_clone0 (s := ⟨cutA kd.a 3 kd.c 1, kd.n - 3, kd.c - 3⟩) (us := (kp.drop 3).map Value.pointer) (esz := 1) (fun w hw => ?_) (kp_flat _) (by simp only; omega) (fun c2 hc2 => ?_) ok.TK
    · have := (own_rd (s := kd) hw).1.drop (l := 3) (c := kd.c) (by omega) m2 m3
      simpa using this
    refine s_st (b := r) ?_
    refine s_ld (b := b) (x := kd) ?_
    refine s_slc (lo := 0) (hi := 3) (mx := 3) ?_
    rw [cut0 m3]
    refine s_st (b := b) ?_
    refine s_shrink (s := kd) (m := 3) (c' := 3) (by omega) (by omega) (by omega) ?_
    rw [show (kp.map Value.pointer).take (3 * 1) = (kp.take 3).map Value.pointer by simp]
    unfold nput_s2
    refine s_ret3 ?_
    exact s_end (h2 x h6 hsplit ⟨s.a, 2, 2⟩ ⟨kd.a, 3, 3⟩ r s2 c2 mb)
  · have hk0 : kp = [] := by
      simp only [decide_eq_false_iff_not] at hb2
      rcases hk with rfl | hk
      · rfl
      · omega
    have e1 : kp.take 3 = kp := by rw [hk0]; rfl
    have e2 : kp.drop 3 = [] := by rw [hk0]; rfl
    simp only [e1, e2] at h2
    unfold nput_s2
    refine s_ret3 ?_
    refine fun w hw => ?_
    refine hg (show Holds B (kpsR G ⟨none, 0, 0⟩ [] :: _) w from hw.nilSl G.tK 1) ?_
    exact s_end (h2 x h6 hsplit ⟨s.a, 2, 2⟩ kd r s2 ⟨none, 0, 0⟩ mb)
end
end Bt
end Go.Sep
/- A B-tree's node by its depth, and what put does to it. Holds for every program. -/
namespace Go.Sep
open Go Go.RowKit
set_option linter.unusedSimpArgs false
set_option linter.unusedVariables false
namespace Bt
section
variable {κ : Type} {G : BtT κ} {c : κ → κ → Int} {B : World} {Γ Δ : List HProp}

/-! ### kids and items in turn -/
abbrev Kid (G : BtT κ) := Nat × List G.It
def ptr (q : Kid G) : Option Addr := some ⟨q.1, 0, none⟩
def psL (q0 : Kid G) (ps : List (G.It × Kid G)) : List G.It := q0.2 ++ ps.flatMap fun p => p.1 :: p.2.2
def preL (l : List (Kid G × G.It)) : List G.It := l.flatMap fun p => p.1.2 ++ [p.2]
def postL (r : List (G.It × Kid G)) : List G.It := r.flatMap fun p => p.1 :: p.2.2
theorem zfwd : ∀ (i : Nat) (q0 : Kid G) (ps : List (G.It × Kid G)), i ≤ ps.length → ∃ l q r, l.length = i ∧ ps.map Prod.fst = l.map Prod.snd ++ r.map Prod.fst ∧ q0 :: ps.map Prod.snd = l.map Prod.fst ++ q :: r.map Prod.snd ∧ psL q0 ps = preL l ++ q.2 ++ postL r
  | 0, q0, ps, _ => ⟨[], q0, ps, rfl, rfl, rfl, by simp [psL, preL, postL]⟩
  | i + 1, q0, [], h => by simp at h
  | i + 1, q0, (x, q1) :: ps, h => by
    obtain ⟨l, q, r, h1, h2, h3, h4⟩ := zfwd i q1 ps (by simpa using h)
    refine ⟨(q0, x) :: l, q, r, by simp [h1], by simp [h2], by simp only [List.map_cons, List.cons_append, ← h3], ?_⟩
    have : psL q0 ((x, q1) :: ps) = q0.2 ++ x :: psL q1 ps := by simp [psL]
    rw [this, h4]
    simp [preL]
theorem zback : ∀ (l : List (Kid G × G.It)) (q : Kid G) (r : List (G.It × Kid G)), ∃ q0 ps, ps.length = l.length + r.length ∧ ps.map Prod.fst = l.map Prod.snd ++ r.map Prod.fst ∧ q0 :: ps.map Prod.snd = l.map Prod.fst ++ q :: r.map Prod.snd ∧ psL q0 ps = preL l ++ q.2 ++ postL r
  | [], q, r => ⟨q, r, by simp, rfl, rfl, by simp [psL, preL, postL]⟩
  | (p, x) :: l, q, r => by
    obtain ⟨q0, ps, h1, h2, h3, h4⟩ := zback l q r
    refine ⟨p, (x, q0) :: ps, by simp [h1]; omega, by simp [h2], by simp only [List.map_cons, List.cons_append, ← h3], ?_⟩
    have : psL p ((x, q0) :: ps) = p.2 ++ x :: psL q0 ps := by simp [psL]
    rw [this, h4]
    simp [preL]
theorem Srt.sub {ν : Type} {L M : List (κ × ν)} (h : Srt c L) (hs : M.Sublist L) : Srt c M := List.Pairwise.sublist hs h
theorem pre_lt (ok : BtOk G c) {k : κ} : ∀ (l : List (Kid G × G.It)), Srt c (preL l) → (∀ x ∈ l.map Prod.snd, c x.1 k < 0) → ∀ y ∈ preL l, c y.1 k < 0
  | [], _, _, y, hy => by simp [preL] at hy
  | (p, x) :: l, hs, h, y, hy => by
    have e : preL ((p, x) :: l) = (p.2 ++ [x]) ++ preL l := rfl
    rw [e] at hs hy
    have hx : c x.1 k < 0 := h x (by simp)
    rcases List.mem_append.1 hy with hy | hy
    · rcases List.mem_append.1 hy with hy | hy
      · have h1 := (List.pairwise_append.1 (List.pairwise_append.1 hs).1).2.2 y hy x (by simp)
        exact ok.tr h1 hx
      · rw [List.mem_singleton.1 hy]; exact hx
    · exact pre_lt ok l (List.pairwise_append.1 hs).2.1 (fun z hz => h z (by simp at hz ⊢; exact .inr hz)) y hy
theorem post_gt (ok : BtOk G c) {k : κ} : ∀ (r : List (G.It × Kid G)), Srt c (postL r) → (∀ x ∈ r.map Prod.fst, c k x.1 < 0) → ∀ y ∈ postL r, c k y.1 < 0
  | [], _, _, y, hy => by simp [postL] at hy
  | (x, q) :: r, hs, h, y, hy => by
    have e : postL ((x, q) :: r) = (x :: q.2) ++ postL r := rfl
    rw [e] at hs hy
    have hx : c k x.1 < 0 := h x (by simp)
    rcases List.mem_append.1 hy with hy | hy
    · rcases List.mem_cons.1 hy with rfl | hy
      · exact hx
      · exact ok.tr hx ((List.pairwise_cons.1 (List.pairwise_append.1 hs).1).1 y hy)
    · exact post_gt ok r (List.pairwise_append.1 hs).2.1 (fun z hz => h z (by simp at hz ⊢; exact .inr hz)) y hy
theorem its_sub (q0 : Kid G) : ∀ (ps : List (G.It × Kid G)), (ps.map Prod.fst).Sublist (psL q0 ps)
  | [] => by simp
  | (x, q) :: ps => by
    have : psL q0 ((x, q) :: ps) = q0.2 ++ x :: psL q ps := by simp [psL]
    rw [this, List.map_cons]
    exact ((its_sub q ps).cons_cons x).trans (List.sublist_append_right _ _)

/-! ### what put tells -/
def PutR (c : κ → κ → Int) {ν : Type} (z : ν) (L : List (κ × ν)) (k : κ) (v : ν) (L' : List (κ × ν)) (old : ν) (had : Bool) : Prop :=
  (∃ A C, L = A ++ (k, old) :: C ∧ L' = A ++ (k, v) :: C ∧ had = true) ∨ (∃ A C, L = A ++ C ∧ (∀ x ∈ A, c x.1 k < 0) ∧ (∀ x ∈ C, c k x.1 < 0) ∧ L' = A ++ (k, v) :: C ∧ old = z ∧ had = false)
theorem PutR.mid {ν : Type} {z v old : ν} {A C L L' : List (κ × ν)} {k : κ} {had : Bool} (hA : ∀ x ∈ A, c x.1 k < 0) (hC : ∀ x ∈ C, c k x.1 < 0) (h : PutR c z L k v L' old had) : PutR c z (A ++ L ++ C) k v (A ++ L' ++ C) old had := by
  rcases h with ⟨A', C', rfl, rfl, rfl⟩ | ⟨A', C', rfl, h1, h2, rfl, rfl, rfl⟩
  · exact .inl ⟨A ++ A', C' ++ C, by simp, by simp, rfl⟩
  · refine .inr ⟨A ++ A', C' ++ C, by simp, fun x hx => ?_, fun x hx => ?_, by simp, rfl, rfl⟩
    · rcases List.mem_append.1 hx with hx | hx
      · exact hA x hx
      · exact h1 x hx
    · rcases List.mem_append.1 hx with hx | hx
      · exact h2 x hx
      · exact hC x hx

/-! ### a node -/
def NodeR (G : BtT κ) : Nat → Nat → Nat → List G.It → HProp
  | 0, m, b, L => ex fun s => ex fun kd => Sep.stars [pur ((m = 2 → L ≠ []) ∧ L.length ≤ 5), nodeB G b s kd, itsR G s L, kpsR G kd []]
  | d + 1, m, b, L => ex fun s => ex fun kd => ex fun q0 : Kid G => ex fun ps : List (G.It × Kid G) => Sep.stars [pur ((1 ≤ m → ps ≠ []) ∧ ps.length ≤ 5 ∧ L = psL q0 ps), nodeB G b s kd, itsR G s (ps.map Prod.fst), kpsR G kd ((q0 :: ps.map Prod.snd).map ptr),
      Sep.stars ((q0 :: ps.map Prod.snd).map fun q => NodeR G d 2 q.1 q.2)]
instance (priority := high) own_node {d m b : Nat} {L : List G.It} : Own b (NodeR G d m b L :: Γ) (NodeR G d m b L) Γ := ⟨.refl _⟩
theorem s_node0 {m b : Nat} {L : List G.It} {k : K} (h : ∀ s kd, (m = 2 → L ≠ []) → L.length ≤ 5 → HG B (nodeB G b s kd :: itsR G s L :: kpsR G kd [] :: Γ) k) : HG B (NodeR G 0 m b L :: Γ) k :=
  s_conv (A' := ex fun s => ex fun kd => Sep.stars [pur ((m = 2 → L ≠ []) ∧ L.length ≤ 5), nodeB G b s kd, itsR G s L, kpsR G kd []]) (fun _ h => h) <| s_ex fun s => s_ex fun kd => s_flat <| s_pur fun ⟨h1, h2⟩ => h s kd h1 h2
theorem s_mk0 {m b : Nat} {L : List G.It} {k : K} {s kd : Sl} (h1 : m = 2 → L ≠ []) (h2 : L.length ≤ 5) (h : HG B (NodeR G 0 m b L :: Γ) k) : HG B (nodeB G b s kd :: itsR G s L :: kpsR G kd [] :: Γ) k :=
  s_toPur (p := (m = 2 → L ≠ []) ∧ L.length ≤ 5) ⟨h1, h2⟩ <| s_unflat (Δ := [pur ((m = 2 → L ≠ []) ∧ L.length ≤ 5), nodeB G b s kd, itsR G s L, kpsR G kd []]) <| s_toEx (F := fun kd => Sep.stars [pur ((m = 2 → L ≠ []) ∧ L.length ≤ 5), nodeB G b s kd, itsR G s L, kpsR G kd []]) kd <|
    s_toEx (F := fun s => ex fun kd => Sep.stars [pur ((m = 2 → L ≠ []) ∧ L.length ≤ 5), nodeB G b s kd, itsR G s L, kpsR G kd []]) s <| s_conv (fun _ h => h) h
abbrev kidsR (G : BtT κ) (d : Nat) (ks : List (Kid G)) : HProp := Sep.stars (ks.map fun q => NodeR G d 2 q.1 q.2)
theorem s_nodeS {d m b : Nat} {L : List G.It} {k : K} (h : ∀ s kd q0 ps, (1 ≤ m → ps ≠ []) → ps.length ≤ 5 → L = psL q0 ps → HG B (nodeB G b s kd :: itsR G s (ps.map Prod.fst) :: kpsR G kd ((q0 :: ps.map Prod.snd).map ptr) :: kidsR G d (q0 :: ps.map Prod.snd) :: Γ) k) : HG B (NodeR G (d + 1) m b L :: Γ) k :=
  s_conv (A' := ex fun s => ex fun kd => ex fun q0 : Kid G => ex fun ps : List (G.It × Kid G) => Sep.stars [pur ((1 ≤ m → ps ≠ []) ∧ ps.length ≤ 5 ∧ L = psL q0 ps), nodeB G b s kd, itsR G s (ps.map Prod.fst), kpsR G kd ((q0 :: ps.map Prod.snd).map ptr), kidsR G d (q0 :: ps.map Prod.snd)]) (fun _ h => h) <|
    s_ex fun s => s_ex fun kd => s_ex fun q0 => s_ex fun ps => s_flat <| s_pur fun ⟨h1, h2, h3⟩ => h s kd q0 ps h1 h2 h3
theorem s_mkS {d m b : Nat} {q0 : Kid G} {ps : List (G.It × Kid G)} {k : K} {s kd : Sl} (h1 : 1 ≤ m → ps ≠ []) (h2 : ps.length ≤ 5) (h : HG B (NodeR G (d + 1) m b (psL q0 ps) :: Γ) k) :
    HG B (nodeB G b s kd :: itsR G s (ps.map Prod.fst) :: kpsR G kd ((q0 :: ps.map Prod.snd).map ptr) :: kidsR G d (q0 :: ps.map Prod.snd) :: Γ) k := fun w hw => by
  refine h w ?_
  have h3 : Holds B (Sep.stars [pur ((1 ≤ m → ps ≠ []) ∧ ps.length ≤ 5 ∧ psL q0 ps = psL q0 ps), nodeB G b s kd, itsR G s (ps.map Prod.fst), kpsR G kd ((q0 :: ps.map Prod.snd).map ptr), kidsR G d (q0 :: ps.map Prod.snd)] :: Γ) w := Holds.flat.2 (Holds.pur.2 ⟨⟨h1, h2, rfl⟩, hw⟩)
  exact h3.imp fun g hg => ⟨s, kd, q0, ps, hg⟩
/-- One kid among the kids. -/
theorem kid_perm {d : Nat} {A C : List (Kid G)} {q : Kid G} : (((A ++ q :: C).map fun q => NodeR G d 2 q.1 q.2) ++ Γ).Perm (((A ++ C).map fun q => NodeR G d 2 q.1 q.2) ++ NodeR G d 2 q.1 q.2 :: Γ) := by
  have h2 : ((A ++ q :: C).map fun q => NodeR G d 2 q.1 q.2).Perm (NodeR G d 2 q.1 q.2 :: (A ++ C).map fun q => NodeR G d 2 q.1 q.2) := (List.perm_middle (a := q) (l₁ := A) (l₂ := C)).map _
  refine (h2.append_right Γ).trans ?_
  exact (List.perm_middle (a := NodeR G d 2 q.1 q.2) (l₁ := (A ++ C).map fun q => NodeR G d 2 q.1 q.2) (l₂ := Γ)).symm
theorem s_kid {d : Nat} {A C : List (Kid G)} {q : Kid G} {k : K} (h : HG B (NodeR G d 2 q.1 q.2 :: kidsR G d (A ++ C) :: Γ) k) : HG B (kidsR G d (A ++ q :: C) :: Γ) k := fun w hw =>
  h w (Holds.flat.2 ((Holds.flat.1 hw).perm kid_perm)).swap
theorem s_unkid {d : Nat} {A C : List (Kid G)} {q : Kid G} {k : K} (h : HG B (kidsR G d (A ++ q :: C) :: Γ) k) : HG B (NodeR G d 2 q.1 q.2 :: kidsR G d (A ++ C) :: Γ) k := fun w hw =>
  h w (Holds.flat.2 ((Holds.flat.1 hw.swap).perm kid_perm.symm))
end
end Bt
end Go.Sep
/- What put does to a B-tree's node. Holds for every program. -/
namespace Go.Sep
open Go Go.RowKit
set_option linter.unusedSimpArgs false
set_option linter.unusedVariables false
namespace Bt
section
variable {κ : Type} {G : BtT κ} {c : κ → κ → Int} {B : World} {Γ Δ : List HProp}

theorem at_mid {α : Type} {A C : List α} {x : α} : (A ++ x :: C)[A.length]? = some x := by simp
/-- A value in the midst of items is another one. -/
theorem lay_val {A C : List G.It} {k : κ} {v0 v : Cel G.nv} : layAt ((A ++ (k, v0) :: C).flatMap G.f) (A.length * (G.nv + 1) + 1) v.1 = (A ++ (k, v) :: C).flatMap G.f := by
  have e1 : (A ++ (k, v0) :: C).flatMap G.f = (A.flatMap G.f ++ [G.kV k]) ++ (v0.1 ++ C.flatMap G.f) := by simp [BtT.f]
  have e2 : (A ++ (k, v) :: C).flatMap G.f = (A.flatMap G.f ++ [G.kV k]) ++ (v.1 ++ C.flatMap G.f) := by simp [BtT.f]
  rw [e1, e2, layAt_mid (by simp [flatMap_len G.f _ G.f_len]) (by rw [v0.2.1, v.2.1])]
theorem drop_val {A C : List G.It} {k : κ} {v0 : Cel G.nv} : (((A ++ (k, v0) :: C).flatMap G.f).drop (A.length * (G.nv + 1) + 1)).take G.nv = v0.1 := by
  have e1 : (A ++ (k, v0) :: C).flatMap G.f = (A.flatMap G.f ++ [G.kV k]) ++ (v0.1 ++ C.flatMap G.f) := by simp [BtT.f]
  rw [e1, show A.length * (G.nv + 1) + 1 = (A.flatMap G.f ++ [G.kV k]).length by simp [flatMap_len G.f _ G.f_len], List.drop_left, List.take_left' v0.2.1]
theorem ins_items {A C : List G.It} {x : G.It} : ((A ++ C).flatMap G.f).take (A.length * (G.nv + 1)) ++ G.f x ++ ((A ++ C).flatMap G.f).drop (A.length * (G.nv + 1)) = (A ++ x :: C).flatMap G.f := by
  rw [flatMap_take G.f_len, flatMap_drop G.f_len, List.take_left, List.drop_left]
  simp
theorem ins_kids {A C : List (Option Addr)} {x : Option Addr} : ((A ++ C).map Value.pointer).take (A.length * 1) ++ [Value.pointer x] ++ ((A ++ C).map Value.pointer).drop (A.length * 1) = (A ++ x :: C).map Value.pointer := by
  rw [Nat.mul_one, ← List.map_take, ← List.map_drop, List.take_left, List.drop_left]
  simp

theorem s_kids_split {d : Nat} {A C : List (Kid G)} {k : K} (h : HG B (kidsR G d A :: kidsR G d C :: Γ) k) : HG B (kidsR G d (A ++ C) :: Γ) k := fun w hw => by
  have h1 := Holds.flat.1 hw
  rw [List.map_append, List.append_assoc] at h1
  have h2 : Holds B ((C.map fun q => NodeR G d 2 q.1 q.2) ++ kidsR G d A :: Γ) w := (Holds.flat.2 h1).perm List.perm_middle.symm
  exact h w (Holds.flat.2 h2).swap
theorem zip_of {q0 : Kid G} {ps : List (G.It × Kid G)} {A C : List G.It} (e : ps.map Prod.fst = A ++ C) : ∃ l q r, A = l.map Prod.snd ∧ C = r.map Prod.fst ∧ q0 :: ps.map Prod.snd = l.map Prod.fst ++ q :: r.map Prod.snd ∧ psL q0 ps = preL l ++ q.2 ++ postL r ∧ ps.length = l.length + r.length := by
  have hl := congrArg List.length e
  simp only [List.length_map, List.length_append] at hl
  obtain ⟨l, q, r, h1, h2, h3, h4⟩ := zfwd A.length q0 ps (by omega)
  rw [e] at h2
  obtain ⟨h5, h6⟩ := List.append_inj h2 (by simp [h1])
  refine ⟨l, q, r, h5, h6, h3, h4, ?_⟩
  rw [hl, h6, h1, List.length_map]
theorem nput_spec (ok : BtOk G c) : ∀ (d : Nat) {m b : Nat} {M : List G.It} {k : κ} {v : Cel G.nv} {Γ : List HProp} {Q : Array Value → Bool → Option Addr → Option Addr → K}, 1 ≤ m → Srt c M →
    (∀ M' old had, PutR c (G.z0 ok.vz) M k v M' old had → HG B (NodeR G d 2 b M' :: Γ) (Q old.1.toArray had none none)) →
    (∀ M1 x M2 old had r mb, PutR c (G.z0 ok.vz) M k v (M1 ++ x :: M2) old had → HG B (blk mb (.cells (G.f x).toArray G.tI (0, 0)) :: NodeR G d 2 b M1 :: NodeR G d 2 r M2 :: Γ) (Q old.1.toArray had (some ⟨mb, 0, none⟩) (some ⟨r, 0, none⟩))) →
    HG B (NodeR G d m b M :: Γ) (G.nputC (some ⟨b, 0, none⟩) (G.f (k, v)).toArray Q) := by
  intro d
  induction d with
  | zero =>
    intro m b M k v Γ Q hm hs h1 h2
    refine fun w hw => ok.put _ _ _ _ ?_
    refine hg hw ?_
    clear hw w
    refine s_node0 fun s kd _ hl => ?_
    refine s_cap kd fun m1 m2 m3 m4 => ?_
    unfold nput
    refine s_new fun x3 => ?_
    refine s_new fun o => ?_
    refine s_ld (b := x3) (x := k) ?_
    refine s_search ok (s := s) (kd := kd) hs (by omega) (fun A v0 C e => ?_) fun A C e hA hC => ?_
    · subst e
      refine s_t ?_
      refine s_nn ?_
      refine s_cap s fun l1 l2 l3 l4 => ?_
      rw [flatMap_len G.f _ G.f_len] at l1
      have hn : s.n = (A ++ (k, v0) :: C).length := (Nat.eq_of_mul_eq_mul_right (by omega) l1).symm
      have hlen : (A ++ (k, v0) :: C).length = A.length + (C.length + 1) := List.length_append
      refine s_ld (b := b) (x := s) ?_
      refine s_idx (s := s) (i := A.length) ?_
      refine s_ldEN (s := s) (l' := v0.1) drop_val v0.2.1 ?_
      refine s_stN (b := o) ?_ ok.vz.1 v0.2.1 v0.2.2
      refine s_dr ?_
      refine s_ld (b := b) (x := s) ?_
      refine s_ldN (b := x3) (off := 0 + 1) (l := G.f (k, v)) (l' := v.1) ?_ (List.take_of_length_le (Nat.le_of_eq v.2.1)) v.2.1
      refine s_idx (s := s) (i := A.length) ?_
      refine s_stEN (s := s) ?_ v.2.1 ?_ v.2.2
      rotate_left
      · rw [flatMap_len G.f _ G.f_len, hlen, Nat.add_mul, Nat.add_mul]; omega
      rw [lay_val]
      refine s_ret3 (v := v0) ?_
      refine s_end (Δ := nodeB G b s kd :: itsR G s (A ++ (k, v) :: C) :: kpsR G kd [] :: Γ) ?_
      refine s_mk0 (m := 2) (by simp) (by simpa using hl) (h1 _ _ _ (.inl ⟨A, C, rfl, rfl, rfl⟩))
    · subst e
      refine s_f ?_
      refine s_nn ?_
      refine s_ld (b := b) (x := kd) ?_
      refine s_t ?_ (by simpa using m1.symm)
      refine s_dr ?_
      refine s_ws ?_
      refine s_ldS (b := b) (x := s) ?_
      refine s_ldNS (b := x3) (l' := G.f (k, v)) ?_ (List.take_of_length_le (by simp [G.f_len])) (G.f_len _)
      refine s_bld1 ?_ (by simp [ok.vz.1]) (G.f_len _)
      refine s_new fun t => ?_
      refine s_sv ?_
      obtain ⟨R, rot, hins⟩ := ok.insI
      refine s_cap s fun l1 l2 l3 l4 => ?_
      rw [flatMap_len G.f _ G.f_len] at l1
      have hn : s.n = (A ++ C).length := (Nat.eq_of_mul_eq_mul_right (by omega) l1).symm
      have hlen : (A ++ C).length = A.length + C.length := List.length_append
      refine fun w hw => hins _ _ _ _ _ ?_
      refine hg hw ?_
      clear hw w
      refine s_ins (s := s) (i := A.length) (t := t) (by omega) (by omega) (G.f_len _) (by omega) (fl_flat ok _) (f_flat ok _) (fun s' hs' => ?_) ok.TI ok.ZI
      rw [ins_items]
      refine s_st (b := b) ?_
      refine s_end (Δ := valB G o (G.z0 ok.vz) :: nodeB G b s' kd :: itsR G s' (A ++ (k, v) :: C) :: kpsR G kd [] :: Γ) ?_
      have hput : PutR c (G.z0 ok.vz) (A ++ C) k v (A ++ (k, v) :: C) (G.z0 ok.vz) false := .inr ⟨A, C, rfl, hA, hC, rfl, rfl, rfl⟩
      refine s_s1 ok (by simp; omega) (.inl rfl) (fun h5 => ?_) fun x h6 hx s1 c1 r s2 c2 mb => ?_
      · refine s_mk0 (m := 2) (by simp) h5 (h1 _ _ _ hput)
      · have h7 := h2 ((A ++ (k, v) :: C).take 2) x ((A ++ (k, v) :: C).drop 3) _ _ r mb (by rw [← hx]; exact hput)
        simp only [List.take_nil, List.drop_nil]
        refine s_end (Δ := nodeB G b s1 c1 :: itsR G s1 ((A ++ (k, v) :: C).take 2) :: kpsR G c1 [] :: nodeB G r s2 c2 :: itsR G s2 ((A ++ (k, v) :: C).drop 3) :: kpsR G c2 [] :: blk mb (.cells (G.f x).toArray G.tI (0, 0)) :: Γ) ?_
        refine s_mk0 (m := 2) (fun _ h => ?_) (by rw [List.length_take]; omega) ?_
        · have := congrArg List.length h; simp only [List.length_take, List.length_nil] at this; omega
        refine s_end (Δ := nodeB G r s2 c2 :: itsR G s2 ((A ++ (k, v) :: C).drop 3) :: kpsR G c2 [] :: blk mb (.cells (G.f x).toArray G.tI (0, 0)) :: NodeR G 0 2 b ((A ++ (k, v) :: C).take 2) :: Γ) ?_
        refine s_mk0 (m := 2) (fun _ h => ?_) (by rw [List.length_drop]; omega) ?_
        · have := congrArg List.length h; simp only [List.length_drop, List.length_nil] at this; omega
        exact s_end h7
  | succ d ih =>
    intro m b M k v Γ Q hm hs h1 h2
    refine fun w hw => ok.put _ _ _ _ ?_
    refine hg hw ?_
    clear hw w
    refine s_nodeS fun s kd q0 ps hne hl hM => ?_
    subst hM
    unfold nput
    refine s_new fun x3 => ?_
    refine s_new fun o => ?_
    refine s_ld (b := x3) (x := k) ?_
    refine s_search ok (s := s) (kd := kd) (hs.sub (its_sub q0 ps)) (by simp; omega) (fun A v0 C e => ?_) fun A C e hA hC => ?_
    · obtain ⟨l, q, r, hA, hC, hK, hL, hlen⟩ := zip_of (q0 := q0) e
      rw [e, hK]
      rw [hL] at hs h1 h2
      obtain ⟨⟨xx, q1⟩, r, rfl, hxx, hC'⟩ := List.map_eq_cons_iff.1 hC.symm
      simp only at hxx
      subst hxx
      subst hA
      subst hC'
      refine s_t ?_
      refine s_nn ?_
      refine s_cap s fun l1 l2 l3 l4 => ?_
      rw [flatMap_len G.f _ G.f_len] at l1
      have hil : (l.map Prod.snd ++ (k, v0) :: r.map Prod.fst).length = (l.map Prod.snd).length + (r.length + 1) := by simp
      have hn : s.n = (l.map Prod.snd).length + (r.length + 1) := by rw [← hil]; exact (Nat.eq_of_mul_eq_mul_right (by omega) l1).symm
      refine s_ld (b := b) (x := s) ?_
      refine s_idx (s := s) (i := (l.map Prod.snd).length) ?_
      refine s_ldEN (s := s) (l' := v0.1) drop_val v0.2.1 ?_
      refine s_stN (b := o) ?_ ok.vz.1 v0.2.1 v0.2.2
      refine s_dr ?_
      refine s_ld (b := b) (x := s) ?_
      refine s_ldN (b := x3) (off := 0 + 1) (l := G.f (k, v)) (l' := v.1) ?_ (List.take_of_length_le (Nat.le_of_eq v.2.1)) v.2.1
      refine s_idx (s := s) (i := (l.map Prod.snd).length) ?_
      refine s_stEN (s := s) ?_ v.2.1 ?_ v.2.2
      rotate_left
      · rw [flatMap_len G.f _ G.f_len, hil, Nat.add_mul, Nat.add_mul]; omega
      rw [lay_val]
      refine s_ret3 (v := v0) ?_
      obtain ⟨q0', ps', e1, e2, e3, e4⟩ := zback l q (((k, v), q1) :: r)
      have e5 : l.map Prod.fst ++ q :: (((k, v0), q1) :: r).map Prod.snd = q0' :: ps'.map Prod.snd := e3.symm
      have e6 : l.map Prod.snd ++ (k, v) :: r.map Prod.fst = ps'.map Prod.fst := e2.symm
      rw [e5, e6]
      refine s_end (Δ := nodeB G b s kd :: itsR G s (ps'.map Prod.fst) :: kpsR G kd ((q0' :: ps'.map Prod.snd).map ptr) :: kidsR G d (q0' :: ps'.map Prod.snd) :: Γ) ?_
      simp only [List.length_cons] at hlen e1
      refine s_mkS (m := 2) (fun _ h => ?_) (by omega) ?_
      · rw [h, List.length_nil] at e1; omega
      refine h1 _ _ _ (.inl ⟨preL l ++ q.2, q1.2 ++ postL r, ?_, ?_, rfl⟩)
      · simp [postL]
      · rw [e4]; simp [postL]
    · obtain ⟨l, q, r, rfl, rfl, hK, hL, hlen⟩ := zip_of (q0 := q0) e
      rw [e, hK]
      rw [hL] at hs h1 h2
      refine s_f ?_
      refine s_nn ?_
      have hkl : ((l.map Prod.fst ++ q :: r.map Prod.snd).map ptr).length = l.length + r.length + 1 := by simp; omega
      refine s_cap kd fun m1 m2 m3 m4 => ?_
      rw [kp_len, hkl] at m1
      refine s_cap s fun l1 l2 l3 l4 => ?_
      rw [flatMap_len G.f _ G.f_len] at l1
      have hil : (l.map Prod.snd ++ r.map Prod.fst).length = l.length + r.length := by simp
      have hn : s.n = l.length + r.length := by rw [← hil]; exact (Nat.eq_of_mul_eq_mul_right (by omega) l1).symm
      refine s_ld (b := b) (x := kd) ?_
      refine s_f ?_ (by simp; omega)
      refine s_dr ?_
      refine s_ld (b := b) (x := kd) ?_
      refine s_idx (s := kd) (i := l.length) ?_ (by simp)
      refine s_ldE0 (s := kd) (x := ptr q) (by simp) ?_
      refine s_ldN (b := x3) (l' := G.f (k, v)) ?_ (List.take_of_length_le (by simp [G.f_len])) (G.f_len _)
      refine s_pick (kidsR G d (l.map Prod.fst ++ q :: r.map Prod.snd)) ?_
      refine s_kid ?_
      have hs1 := List.pairwise_append.1 hs
      have hs2 := List.pairwise_append.1 hs1.1
      have hpre := pre_lt ok l hs2.1 hA
      have hpost := post_gt ok r hs1.2.1 hC
      refine ih (m := 2) (by omega) hs2.2.1 (fun M' old had hp => ?_) fun M1 x M2 old had rb mb hp => ?_
      · refine s_stN (b := o) ?_ ok.vz.1 old.2.1 old.2.2
        refine s_f ?_
        refine s_end (Δ := valB G o old :: nodeB G b s kd :: itsR G s (l.map Prod.snd ++ r.map Prod.fst) :: kpsR G kd ((l.map Prod.fst ++ q :: r.map Prod.snd).map ptr) :: NodeR G d 2 q.1 M' :: kidsR G d (l.map Prod.fst ++ r.map Prod.snd) :: Γ) ?_
        refine s_s1 ok (by omega) (.inr (by omega)) (fun h5 => ?_) fun x h6 hx s1 c1 r s2 c2 mb => (by omega)
        obtain ⟨q0', ps', e1, e2, e3, e4⟩ := zback l (q.1, M') r
        refine s_end (Δ := NodeR G d 2 q.1 M' :: kidsR G d (l.map Prod.fst ++ r.map Prod.snd) :: nodeB G b s kd :: itsR G s (l.map Prod.snd ++ r.map Prod.fst) :: kpsR G kd ((l.map Prod.fst ++ q :: r.map Prod.snd).map ptr) :: Γ) ?_
        refine s_unkid (q := (q.1, M')) ?_
        have e5 : (l.map Prod.fst ++ q :: r.map Prod.snd).map ptr = (l.map Prod.fst ++ (q.1, M') :: r.map Prod.snd).map ptr := by simp [ptr]
        rw [e5, ← e2, ← e3]
        refine s_end (Δ := nodeB G b s kd :: itsR G s (ps'.map Prod.fst) :: kpsR G kd ((q0' :: ps'.map Prod.snd).map ptr) :: kidsR G d (q0' :: ps'.map Prod.snd) :: Γ) ?_
        refine s_mkS (m := 2) (fun _ h => ?_) (by omega) ?_
        · rw [h] at e1; rw [List.length_nil] at e1
          exact hne hm (List.length_eq_zero_iff.1 (by omega))
        rw [e4]
        exact h1 _ _ _ (hp.mid hpre hpost)
      · refine s_stN (b := o) ?_ ok.vz.1 old.2.1 old.2.2
        refine s_t ?_
        refine s_dr ?_
        refine s_ws ?_
        refine s_nn ?_
        refine s_ldS (b := b) (x := s) ?_
        refine s_ldNS (b := mb) (l' := G.f x) ?_ (List.take_of_length_le (by simp [G.f_len])) (G.f_len _)
        refine s_bld1 ?_ (by simp [ok.vz.1]) (G.f_len _)
        refine s_new fun t => ?_
        refine s_sv ?_
        obtain ⟨R, rot, hins⟩ := ok.insI
        refine fun w hw => hins _ _ _ _ _ ?_
        refine hg hw ?_
        clear hw w
        refine s_ins (s := s) (i := (l.map Prod.snd).length) (t := t) (by simp; omega) (by omega) (G.f_len _) (by omega) (fl_flat ok _) (f_flat ok _) (fun s' hs' => ?_) ok.TI ok.ZI
        rw [ins_items]
        refine s_st (b := b) ?_
        refine s_ld (b := b) (x := kd) ?_
        refine s_ai ?_ (by simp; omega) (by simp; omega)
        refine s_new fun t2 => ?_
        have hkp : (l.map Prod.fst ++ q :: r.map Prod.snd).map ptr = (l.map Prod.fst ++ [q]).map ptr ++ (r.map Prod.snd).map ptr := by simp
        rw [hkp]
        have hkA : ((l.map Prod.fst ++ [q]).map ptr).length = l.length + 1 := by simp
        obtain ⟨R2, rot2, hins2⟩ := ok.insK
        refine fun w hw => hins2 _ _ _ _ _ ?_
        refine hg hw ?_
        clear hw w
        rw [show (((l.map Prod.snd).length : Nat) : Int) + 1 = (((l.map Prod.fst ++ [q]).map ptr).length : Nat) by rw [hkA]; simp]
        refine s_ins (s := kd) (i := ((l.map Prod.fst ++ [q]).map ptr).length) (t := t2) (us := [Value.pointer (some ⟨rb, 0, none⟩)]) (by omega) (by omega) rfl (by omega) (kp_flat _) (by simp [flatV]) (fun kd' hkd' => ?_) ok.TK ok.ZK
        rw [ins_kids]
        refine s_st (b := b) ?_
        obtain ⟨q0', ps', e1, e2, e3, e4⟩ := zback l (q.1, M1) ((x, (rb, M2)) :: r)
        simp only [List.length_cons] at e1
        have e5 : (l.map Prod.fst ++ [q]).map ptr ++ some ⟨rb, 0, none⟩ :: (r.map Prod.snd).map ptr = (q0' :: ps'.map Prod.snd).map ptr := by rw [e3]; simp [ptr]
        have e6 : l.map Prod.snd ++ x :: r.map Prod.fst = ps'.map Prod.fst := e2.symm
        rw [e5, e6]
        refine s_end (Δ := NodeR G d 2 rb M2 :: kidsR G d (l.map Prod.fst ++ r.map Prod.snd) :: NodeR G d 2 q.1 M1 :: valB G o old :: nodeB G b s' kd' :: itsR G s' (ps'.map Prod.fst) :: kpsR G kd' ((q0' :: ps'.map Prod.snd).map ptr) :: Γ) ?_
        refine s_unkid (q := (rb, M2)) ?_
        refine s_swap ?_
        refine s_unkid (q := (q.1, M1)) ?_
        rw [show l.map Prod.fst ++ (q.1, M1) :: (rb, M2) :: r.map Prod.snd = q0' :: ps'.map Prod.snd from e3.symm]
        have hput : PutR c (G.z0 ok.vz) (preL l ++ q.2 ++ postL r) k v (psL q0' ps') old had := by
          rw [e4]
          have := hp.mid hpre hpost
          simpa [postL] using this
        refine s_end (Δ := valB G o old :: nodeB G b s' kd' :: itsR G s' (ps'.map Prod.fst) :: kpsR G kd' ((q0' :: ps'.map Prod.snd).map ptr) :: kidsR G d (q0' :: ps'.map Prod.snd) :: Γ) ?_
        refine s_s1 ok (by simp; omega) (.inr (by simp)) (fun h5 => ?_) fun y h6 hy s1 c1 r2 s2 c2 mb2 => ?_
        · rw [List.length_map] at h5
          refine s_end (Δ := nodeB G b s' kd' :: itsR G s' (ps'.map Prod.fst) :: kpsR G kd' ((q0' :: ps'.map Prod.snd).map ptr) :: kidsR G d (q0' :: ps'.map Prod.snd) :: Γ) ?_
          refine s_mkS (m := 2) (fun _ h => ?_) h5 (h1 _ _ _ hput)
          rw [h, List.length_nil] at e1; omega
        · rw [List.length_map] at h6
          obtain ⟨P, p3, R, hP, e7⟩ : ∃ P p3 R, P.length = 2 ∧ ps' = P ++ p3 :: R := ⟨ps'.take 2, ps'[2], ps'.drop 3, by rw [List.length_take]; omega, by rw [← List.drop_eq_getElem_cons, List.take_append_drop]⟩
          have hRl : R.length = 3 := by have := congrArg List.length e7; simp only [List.length_append, List.length_cons] at this; omega
          have t1 : (ps'.map Prod.fst).take 2 = P.map Prod.fst := by rw [e7, List.map_append]; exact List.take_left' (by simp [hP])
          have t2 : (ps'.map Prod.fst).drop 3 = R.map Prod.fst := by rw [e7, show P ++ p3 :: R = (P ++ [p3]) ++ R by simp, List.map_append]; exact List.drop_left' (by simp [hP])
          have t3 : q0' :: ps'.map Prod.snd = (q0' :: P.map Prod.snd) ++ (p3.2 :: R.map Prod.snd) := by rw [e7]; simp
          have t4 : ((q0' :: ps'.map Prod.snd).map ptr).take 3 = (q0' :: P.map Prod.snd).map ptr := by rw [t3, List.map_append]; exact List.take_left' (by simp [hP])
          have t5 : ((q0' :: ps'.map Prod.snd).map ptr).drop 3 = (p3.2 :: R.map Prod.snd).map ptr := by rw [t3, List.map_append]; exact List.drop_left' (by simp [hP])
          have t6 : psL q0' ps' = psL q0' P ++ p3.1 :: psL p3.2 R := by rw [e7]; simp [psL]
          have t7 : y = p3.1 := by
            rw [t1, t2, e7] at hy
            simp only [List.map_append, List.map_cons, List.append_cancel_left_eq, List.cons.injEq] at hy
            exact hy.1.symm
          rw [t4, t5, t1, t2, t3, t7]
          refine s_pick (kidsR G d ((q0' :: P.map Prod.snd) ++ (p3.2 :: R.map Prod.snd))) ?_
          refine s_kids_split ?_
          refine s_end (Δ := nodeB G b s1 c1 :: itsR G s1 (P.map Prod.fst) :: kpsR G c1 ((q0' :: P.map Prod.snd).map ptr) :: kidsR G d (q0' :: P.map Prod.snd) :: nodeB G r2 s2 c2 :: itsR G s2 (R.map Prod.fst) :: kpsR G c2 ((p3.2 :: R.map Prod.snd).map ptr) :: kidsR G d (p3.2 :: R.map Prod.snd) :: blk mb2 (.cells (G.f p3.1).toArray G.tI (0, 0)) :: Γ) ?_
          refine s_mkS (m := 2) (fun _ h => by rw [h] at hP; cases hP) (by omega) ?_
          refine s_end (Δ := nodeB G r2 s2 c2 :: itsR G s2 (R.map Prod.fst) :: kpsR G c2 ((p3.2 :: R.map Prod.snd).map ptr) :: kidsR G d (p3.2 :: R.map Prod.snd) :: blk mb2 (.cells (G.f p3.1).toArray G.tI (0, 0)) :: NodeR G (d + 1) 2 b (psL q0' P) :: Γ) ?_
          refine s_mkS (m := 2) (fun _ h => by rw [h] at hRl; cases hRl) (by omega) ?_
          exact s_end (h2 _ _ _ _ _ r2 mb2 (t6 ▸ hput))
end
end Bt
end Go.Sep
/- A B-tree: New, Get and Put. Holds for every program. -/
namespace Go.Sep
open Go Go.RowKit
set_option linter.unusedSimpArgs false
set_option linter.unusedVariables false
namespace Bt
section
variable {κ : Type} {G : BtT κ} {c : κ → κ → Int} {B : World} {Γ Δ : List HProp}
/-- A tree of the items L, in their keys' order. -/
def TreeR (G : BtT κ) (c : κ → κ → Int) (t : Nat) (L : List G.It) : HProp := ex fun d => ex fun b => Sep.stars [pur (Srt c L), blk t (.cells [.pointer (some ⟨b, 0, none⟩), .int .i64 L.length].toArray G.tT (0, 0)), NodeR G d 1 b L]
instance (priority := high) own_tree {t : Nat} {L : List G.It} : Own t (TreeR G c t L :: Γ) (TreeR G c t L) Γ := ⟨.refl _⟩
theorem s_tree {t : Nat} {L : List G.It} {k : K} (h : ∀ d b, Srt c L → HG B (blk t (.cells [.pointer (some ⟨b, 0, none⟩), .int .i64 L.length].toArray G.tT (0, 0)) :: NodeR G d 1 b L :: Γ) k) : HG B (TreeR G c t L :: Γ) k :=
  s_ex fun d => s_ex fun b => s_flat <| s_pur fun h1 => h d b h1
theorem tree_of {t d b : Nat} {L : List G.It} {w : World} (h1 : Srt c L) (hw : Holds B (blk t (.cells [.pointer (some ⟨b, 0, none⟩), .int .i64 L.length].toArray G.tT (0, 0)) :: NodeR G d 1 b L :: Γ) w) : Holds B (TreeR G c t L :: Γ) w := by
  have h3 : Holds B (Sep.stars [pur (Srt c L), blk t (.cells [.pointer (some ⟨b, 0, none⟩), .int .i64 L.length].toArray G.tT (0, 0)), NodeR G d 1 b L] :: Γ) w := Holds.flat.2 (Holds.pur.2 ⟨h1, hw⟩)
  exact h3.imp fun g hg => ⟨d, b, hg⟩
theorem s_mkTree {t d b : Nat} {L : List G.It} {k : K} (h1 : Srt c L) (h : HG B (TreeR G c t L :: Γ) k) : HG B (blk t (.cells [.pointer (some ⟨b, 0, none⟩), .int .i64 L.length].toArray G.tT (0, 0)) :: NodeR G d 1 b L :: Γ) k := fun w hw => h w (tree_of h1 hw)
/-- Tree's facts. -/
theorem tree_srt {t : Nat} {L : List G.It} {k : K} (h : Srt c L → HG B (TreeR G c t L :: Γ) k) : HG B (TreeR G c t L :: Γ) k := s_tree fun d b h1 => s_mkTree h1 (h h1)

theorem tnew_spec {Q : Option Addr → K} (h : ∀ t, HG B (TreeR G c t [] :: Γ) (Q (some ⟨t, 0, none⟩))) : HG B Γ (tnew G Q) := by
  unfold tnew
  refine s_new fun b => ?_
  refine s_new fun t => ?_
  refine fun w hw => ?_
  refine hg (show Holds B (SlC G.tI (G.nv + 1) ⟨none, 0, 0⟩ [] :: _) w from hw.nilSl G.tI (G.nv + 1)) ?_
  refine fun w hw => ?_
  refine hg (show Holds B (SlC G.tK 1 ⟨none, 0, 0⟩ [] :: _) w from hw.nilSl G.tK 1) ?_
  refine s_end (Δ := nodeB G b ⟨none, 0, 0⟩ ⟨none, 0, 0⟩ :: SlC G.tI (G.nv + 1) ⟨none, 0, 0⟩ [] :: SlC G.tK 1 ⟨none, 0, 0⟩ [] :: blk t (.cells [.pointer (some ⟨b, 0, none⟩), .int .i64 0].toArray G.tT (0, 0)) :: Γ) ?_
  refine s_mk0 (m := 1) (L := []) (by simp) (by simp) ?_
  refine s_swap ?_
  exact s_mkTree (L := []) List.Pairwise.nil (h t)

theorem NodeR.weak {d m m' b : Nat} {L : List G.It} (hm : m' = 2 → m = 2) (hm' : 1 ≤ m' → 1 ≤ m) : ∀ h, NodeR G d m b L h → NodeR G d m' b L h := fun h hh => by
  cases d with
  | zero =>
    obtain ⟨s, kd, hh⟩ := hh
    exact ⟨s, kd, stars_cons_imp (fun g hg => ⟨fun h2 => hg.1 (hm h2), hg.2⟩) (fun _ h => h) hh⟩
  | succ d =>
    obtain ⟨s, kd, q0, ps, hh⟩ := hh
    exact ⟨s, kd, q0, ps, stars_cons_imp (fun g hg => ⟨fun h2 => hg.1 (hm' h2), hg.2⟩) (fun _ h => h) hh⟩

theorem PutR.srt (ok : BtOk G c) {ν : Type} {z v old : ν} {L L' : List (κ × ν)} {k : κ} {had : Bool} (h : PutR c z L k v L' old had) (hs : Srt c L) : Srt c L' := by
  rcases h with ⟨A, C, rfl, rfl, rfl⟩ | ⟨A, C, rfl, h1, h2, rfl, rfl, rfl⟩
  · obtain ⟨a1, a2, a3⟩ := List.pairwise_append.1 hs
    obtain ⟨b1, b2⟩ := List.pairwise_cons.1 a2
    refine List.pairwise_append.2 ⟨a1, List.pairwise_cons.2 ⟨fun y hy => b1 y hy, b2⟩, fun x hx y hy => ?_⟩
    rcases List.mem_cons.1 hy with rfl | hy
    · exact a3 x hx (k, old) List.mem_cons_self
    · exact a3 x hx y (List.mem_cons_of_mem _ hy)
  · obtain ⟨a1, a2, a3⟩ := List.pairwise_append.1 hs
    refine List.pairwise_append.2 ⟨a1, List.pairwise_cons.2 ⟨fun y hy => h2 y hy, a2⟩, fun x hx y hy => ?_⟩
    rcases List.mem_cons.1 hy with rfl | hy
    · exact h1 x hx
    · exact a3 x hx y hy
theorem PutR.len {ν : Type} {z v old : ν} {L L' : List (κ × ν)} {k : κ} {had : Bool} (h : PutR c z L k v L' old had) : L'.length = L.length + (if had then 0 else 1) := by
  rcases h with ⟨A, C, rfl, rfl, rfl⟩ | ⟨A, C, rfl, h1, h2, rfl, rfl, rfl⟩
  · simp
  · simp; omega

theorem fill_kv {kz a : Value} {vz us : List Value} {n : Nat} (ha : flatV a = true) (hz : vz.length = n) (hu : us.length = n) : Instr.fill ([(0, 1), (1, n)][·]?) (kz :: vz).toArray [(0, a), (1, .agg us.toArray)] = some (a :: us).toArray := by
  have h0 : a.cells = #[a] := by cases a <;> first | rfl | (simp [flatV] at ha)
  have h1 : (Value.agg us.toArray).cells = us.toArray := rfl
  have e0 : ([(0, 1), (1, n)] : List (Nat × Nat))[0]? = some (0, 1) := rfl
  have e1 : ([(0, 1), (1, n)] : List (Nat × Nat))[1]? = some (1, n) := rfl
  simp only [Instr.fill, h0, h1, e0, e1]
  have h2 := foldl_set_all us [a] vz (by simp; omega)
  simp [hu, hz]
  refine ⟨by omega, ?_⟩
  rw [show [a].length = 1 from rfl, List.zipIdx_eq_map_add, List.foldl_map] at h2
  simpa [Nat.add_comm] using h2
theorem s_tput3 (ok : BtOk G c) {o t6 : Nat} {old : Cel G.nv} {v6 : Cel G.nv} {had : Bool} {Q : Array Value → Bool → K} (h : HG B Γ (Q old.1.toArray had)) : HG B (valB G o old :: valB G t6 v6 :: Γ) (tput_s3 G Q ⟨t6, 0, none⟩ ⟨o, 0, none⟩ had) := by
  unfold tput_s3
  have e : (old.1.drop 0).take G.nv = old.1 := by rw [List.drop_zero, List.take_of_length_le (Nat.le_of_eq old.2.1)]
  refine s_ldN (b := o) ?_ e old.2.1
  refine s_stN (b := t6) ?_ v6.2.1 old.2.1 old.2.2
  refine s_ldN (b := t6) ?_ e old.2.1
  exact s_end h
theorem s_tput2 (ok : BtOk G c) {o t t6 d b n : Nat} {L L' : List G.It} {k : κ} {v old v6 : Cel G.nv} {had : Bool} {Q : Array Value → Bool → K} (hs : Srt c L) (hL : L.length < 1000000000) (hp : PutR c (G.z0 ok.vz) L k v L' old had)
    (h : HG B (TreeR G c t L' :: Γ) (Q old.1.toArray had)) :
    HG B (valB G o old :: valB G t6 v6 :: blk t (.cells [.pointer (some ⟨b, 0, none⟩), .int .i64 L.length].toArray G.tT (0, 0)) :: NodeR G d 1 b L' :: Γ) (tput_s2 G Q (some ⟨t, 0, none⟩) ⟨t6, 0, none⟩ ⟨o, 0, none⟩ had) := by
  unfold tput_s2
  have hlen := hp.len
  refine s_ite (fun hb => ?_) fun hb => ?_
  · have h0 : had = false := by simpa using hb
    refine s_nn ?_
    refine s_ld (b := t) (x := (L.length : Int)) ?_
    refine s_ai ?_
    refine s_st (b := t) ?_
    rw [show ((L.length : Nat) : Int) + 1 = ((L'.length : Nat) : Int) by rw [hlen, h0]; simp]
    refine s_end (Δ := valB G o old :: valB G t6 v6 :: blk t (.cells [.pointer (some ⟨b, 0, none⟩), .int .i64 L'.length].toArray G.tT (0, 0)) :: NodeR G d 1 b L' :: Γ) ?_
    refine s_tput3 ok ?_
    exact s_mkTree (hp.srt ok hs) h
  · have h0 : had = true := by simpa using hb
    rw [show ((L.length : Nat) : Int) = ((L'.length : Nat) : Int) by rw [hlen, h0]; simp]
    refine s_tput3 ok ?_
    exact s_mkTree (hp.srt ok hs) h

theorem s_tput1 (ok : BtOk G c) {o t t6 d b n : Nat} {L L' : List G.It} {k : κ} {v old v6 : Cel G.nv} {had : Bool} {Q : Array Value → Bool → K} (hs : Srt c L) (hL : L.length < 1000000000) (hp : PutR c (G.z0 ok.vz) L k v L' old had)
    (h : HG B (TreeR G c t L' :: Γ) (Q old.1.toArray had)) :
    HG B (valB G o old :: valB G t6 v6 :: blk t (.cells [.pointer (some ⟨b, 0, none⟩), .int .i64 L.length].toArray G.tT (0, 0)) :: NodeR G d 2 b L' :: Γ) (tput_s1 G Q (some ⟨t, 0, none⟩) ⟨t6, 0, none⟩ ⟨o, 0, none⟩ had none none) := by
  unfold tput_s1
  refine s_f ?_
  refine s_own b ?_
  refine s_conv (NodeR.weak (m' := 1) (by simp) (by simp)) ?_
  refine s_end (Δ := valB G o old :: valB G t6 v6 :: blk t (.cells [.pointer (some ⟨b, 0, none⟩), .int .i64 L.length].toArray G.tT (0, 0)) :: NodeR G d 1 b L' :: Γ) ?_
  exact s_tput2 ok (n := n) hs hL hp h
theorem s_root {b r b2 t1 t2 d : Nat} {M1 M2 : List G.It} {x : G.It} {k : K} (h : HG B (NodeR G (d + 1) 1 b2 (M1 ++ x :: M2) :: Γ) k) :
    HG B (nodeB G b2 ⟨some ⟨t1, 0, none⟩, 1, 1⟩ ⟨some ⟨t2, 0, none⟩, 2, 2⟩ :: blk t1 (.cells (G.f x).toArray G.tI (0, 0)) :: blk t2 (.cells [.pointer (some ⟨b, 0, none⟩), .pointer (some ⟨r, 0, none⟩)].toArray G.tK (0, 0)) :: NodeR G d 2 b M1 :: NodeR G d 2 r M2 :: Γ) k := by
  refine s_own t1 ?_
  refine s_conv (A' := itsR G ⟨some ⟨t1, 0, none⟩, 1, 1⟩ [x]) (blk_SlC (vs := [x].flatMap G.f) (by simp) (by simp [G.f_len])) ?_
  refine s_own t2 ?_
  refine s_conv (A' := kpsR G ⟨some ⟨t2, 0, none⟩, 2, 2⟩ [some ⟨b, 0, none⟩, some ⟨r, 0, none⟩]) (blk_SlC (vs := [Value.pointer (some ⟨b, 0, none⟩), Value.pointer (some ⟨r, 0, none⟩)]) (by simp) (by simp)) ?_
  refine fun w hw => ?_
  refine hg (show Holds B (kidsR G d [] :: _) w from Holds.flat.2 hw) ?_
  refine s_end (Δ := NodeR G d 2 r M2 :: kidsR G d [] :: NodeR G d 2 b M1 :: nodeB G b2 ⟨some ⟨t1, 0, none⟩, 1, 1⟩ ⟨some ⟨t2, 0, none⟩, 2, 2⟩ :: itsR G ⟨some ⟨t1, 0, none⟩, 1, 1⟩ [x] :: kpsR G ⟨some ⟨t2, 0, none⟩, 2, 2⟩ [some ⟨b, 0, none⟩, some ⟨r, 0, none⟩] :: Γ) ?_
  show HG B (_ :: kidsR G d ([] ++ []) :: _) k
  refine s_unkid (A := []) (C := []) (q := (r, M2)) ?_
  refine s_swap ?_
  refine s_unkid (A := []) (C := [(r, M2)]) (q := (b, M1)) ?_
  show HG B (kidsR G d (((b, M1) : Kid G) :: [(x, ((r, M2) : Kid G))].map Prod.snd) :: _ :: itsR G ⟨some ⟨t1, 0, none⟩, 1, 1⟩ ([(x, ((r, M2) : Kid G))].map Prod.fst) :: kpsR G ⟨some ⟨t2, 0, none⟩, 2, 2⟩ ((((b, M1) : Kid G) :: [(x, ((r, M2) : Kid G))].map Prod.snd).map ptr) :: _) k
  refine s_end (Δ := nodeB G b2 ⟨some ⟨t1, 0, none⟩, 1, 1⟩ ⟨some ⟨t2, 0, none⟩, 2, 2⟩ :: itsR G ⟨some ⟨t1, 0, none⟩, 1, 1⟩ ([(x, ((r, M2) : Kid G))].map Prod.fst) :: kpsR G ⟨some ⟨t2, 0, none⟩, 2, 2⟩ ((((b, M1) : Kid G) :: [(x, ((r, M2) : Kid G))].map Prod.snd).map ptr) :: kidsR G d (((b, M1) : Kid G) :: [(x, ((r, M2) : Kid G))].map Prod.snd) :: Γ) ?_
  refine s_mkS (m := 1) (by simp) (by simp) ?_
  have e : psL ((b, M1) : Kid G) [(x, (r, M2))] = M1 ++ x :: M2 := by simp [psL]
  rw [e]; exact h
theorem s_tput1b (ok : BtOk G c) {o t t6 d b n r mb : Nat} {L M1 M2 : List G.It} {x : G.It} {k : κ} {v old v6 : Cel G.nv} {had : Bool} {Q : Array Value → Bool → K} (hs : Srt c L) (hL : L.length < 1000000000) (hp : PutR c (G.z0 ok.vz) L k v (M1 ++ x :: M2) old had)
    (h : HG B (TreeR G c t (M1 ++ x :: M2) :: Γ) (Q old.1.toArray had)) :
    HG B (valB G o old :: valB G t6 v6 :: blk t (.cells [.pointer (some ⟨b, 0, none⟩), .int .i64 L.length].toArray G.tT (0, 0)) :: blk mb (.cells (G.f x).toArray G.tI (0, 0)) :: NodeR G d 2 b M1 :: NodeR G d 2 r M2 :: Γ) (tput_s1 G Q (some ⟨t, 0, none⟩) ⟨t6, 0, none⟩ ⟨o, 0, none⟩ had (some ⟨mb, 0, none⟩) (some ⟨r, 0, none⟩)) := by
  unfold tput_s1
  refine s_t ?_
  refine s_dr ?_
  refine s_ws ?_
  refine s_nn ?_
  refine s_nn ?_
  refine s_ldNS (b := mb) (l' := G.f x) ?_ (List.take_of_length_le (by simp [G.f_len])) (G.f_len _)
  refine s_ldS (b := t) (x := some ⟨b, 0, none⟩) ?_
  refine s_all2 ?_ ?_
  · refine s_bld1 ?_ (by simp [ok.vz.1]) (G.f_len _)
    refine s_new fun t1 => ?_
    refine s_sv ?_
    refine s_new fun t2 => ?_
    refine s_sv ?_
    refine s_new fun b2 => ?_
    refine s_st (b := t) ?_
    refine s_end (Δ := nodeB G b2 ⟨some ⟨t1, 0, none⟩, 1, 1⟩ ⟨some ⟨t2, 0, none⟩, 2, 2⟩ :: blk t1 (.cells (G.f x).toArray G.tI (0, 0)) :: blk t2 (.cells [.pointer (some ⟨b, 0, none⟩), .pointer (some ⟨r, 0, none⟩)].toArray G.tK (0, 0)) :: NodeR G d 2 b M1 :: NodeR G d 2 r M2 :: valB G o old :: valB G t6 v6 :: blk t (.cells [.pointer (some ⟨b2, 0, none⟩), .int .i64 L.length].toArray G.tT (0, 0)) :: Γ) ?_
    refine s_root ?_
    refine s_end (Δ := valB G o old :: valB G t6 v6 :: blk t (.cells [.pointer (some ⟨b2, 0, none⟩), .int .i64 L.length].toArray G.tT (0, 0)) :: NodeR G (d + 1) 1 b2 (M1 ++ x :: M2) :: Γ) ?_
    exact s_tput2 ok (n := n) hs hL hp h
  · refine s_new fun t2 => ?_
    refine s_sv ?_
    refine s_bld1 ?_ (by simp [ok.vz.1]) (G.f_len _)
    refine s_new fun t1 => ?_
    refine s_sv ?_
    refine s_new fun b2 => ?_
    refine s_st (b := t) ?_
    refine s_end (Δ := nodeB G b2 ⟨some ⟨t1, 0, none⟩, 1, 1⟩ ⟨some ⟨t2, 0, none⟩, 2, 2⟩ :: blk t1 (.cells (G.f x).toArray G.tI (0, 0)) :: blk t2 (.cells [.pointer (some ⟨b, 0, none⟩), .pointer (some ⟨r, 0, none⟩)].toArray G.tK (0, 0)) :: NodeR G d 2 b M1 :: NodeR G d 2 r M2 :: valB G o old :: valB G t6 v6 :: blk t (.cells [.pointer (some ⟨b2, 0, none⟩), .int .i64 L.length].toArray G.tT (0, 0)) :: Γ) ?_
    refine s_root ?_
    refine s_end (Δ := valB G o old :: valB G t6 v6 :: blk t (.cells [.pointer (some ⟨b2, 0, none⟩), .int .i64 L.length].toArray G.tT (0, 0)) :: NodeR G (d + 1) 1 b2 (M1 ++ x :: M2) :: Γ) ?_
    exact s_tput2 ok (n := n) hs hL hp h

/-- Put. -/
theorem tput_spec (ok : BtOk G c) {t : Nat} {L : List G.It} {k : κ} {v : Cel G.nv} {Q : Array Value → Bool → K} (hL : L.length < 1000000000) (h : ∀ L' old had, PutR c (G.z0 ok.vz) L k v L' old had → HG B (TreeR G c t L' :: Γ) (Q old.1.toArray had)) :
    HG B (TreeR G c t L :: Γ) (tput G (some ⟨t, 0, none⟩) k v.1.toArray Q) := by
  refine s_tree fun d b hs => ?_
  unfold tput
  refine s_new fun v5 => ?_
  refine s_new fun t6 => ?_
  refine s_dr ?_
  refine s_ws ?_
  refine s_nn ?_
  refine s_ldS (b := t) (x := some ⟨b, 0, none⟩) ?_
  refine s_ldNS (b := v5) (off := 0) (l := v.1) (l' := v.1) ?_ (List.take_of_length_le (Nat.le_of_eq v.2.1)) v.2.1
  refine s_bld (cs := G.f (k, v)) ?_ (fill_kv (ok.kf k) ok.vz.1 v.2.1)
  refine s_all2 ?_ ?_
  · refine s_end (Δ := NodeR G d 1 b L :: blk t (.cells [.pointer (some ⟨b, 0, none⟩), .int .i64 L.length].toArray G.tT (0, 0)) :: valB G t6 (G.z0 ok.vz) :: Γ) ?_
    refine nput_spec ok d (m := 1) (Nat.le_refl _) hs (fun M' old had hp => ?_) fun M1 x M2 old had r mb hp => ?_
    · refine s_new fun o => ?_
      refine s_stN (b := o) ?_ ok.vz.1 old.2.1 old.2.2
      refine s_end (Δ := valB G o old :: valB G t6 (G.z0 ok.vz) :: blk t (.cells [.pointer (some ⟨b, 0, none⟩), .int .i64 L.length].toArray G.tT (0, 0)) :: NodeR G d 2 b M' :: Γ) ?_
      exact s_tput1 ok (n := 0) hs hL hp (h _ _ _ hp)
    · refine s_new fun o => ?_
      refine s_stN (b := o) ?_ ok.vz.1 old.2.1 old.2.2
      refine s_end (Δ := valB G o old :: valB G t6 (G.z0 ok.vz) :: blk t (.cells [.pointer (some ⟨b, 0, none⟩), .int .i64 L.length].toArray G.tT (0, 0)) :: blk mb (.cells (G.f x).toArray G.tI (0, 0)) :: NodeR G d 2 b M1 :: NodeR G d 2 r M2 :: Γ) ?_
      exact s_tput1b ok (n := 0) hs hL hp (h _ _ _ hp)
  · refine s_new fun o => ?_
    refine s_sv ?_
    refine s_end (Δ := NodeR G d 1 b L :: blk t (.cells [.pointer (some ⟨b, 0, none⟩), .int .i64 L.length].toArray G.tT (0, 0)) :: valB G t6 (G.z0 ok.vz) :: valB G o (G.z0 ok.vz) :: Γ) ?_
    refine nput_spec ok d (m := 1) (Nat.le_refl _) hs (fun M' old had hp => ?_) fun M1 x M2 old had r mb hp => ?_
    · refine s_stN (b := o) ?_ ok.vz.1 old.2.1 old.2.2
      refine s_end (Δ := valB G o old :: valB G t6 (G.z0 ok.vz) :: blk t (.cells [.pointer (some ⟨b, 0, none⟩), .int .i64 L.length].toArray G.tT (0, 0)) :: NodeR G d 2 b M' :: Γ) ?_
      exact s_tput1 ok (n := 0) hs hL hp (h _ _ _ hp)
    · refine s_stN (b := o) ?_ ok.vz.1 old.2.1 old.2.2
      refine s_end (Δ := valB G o old :: valB G t6 (G.z0 ok.vz) :: blk t (.cells [.pointer (some ⟨b, 0, none⟩), .int .i64 L.length].toArray G.tT (0, 0)) :: blk mb (.cells (G.f x).toArray G.tI (0, 0)) :: NodeR G d 2 b M1 :: NodeR G d 2 r M2 :: Γ) ?_
      exact s_tput1b ok (n := 0) hs hL hp (h _ _ _ hp)

/-- Where a search in a tree stands. -/
structure At (G : BtT κ) where
  d : Nat
  m : Nat
  b : Nat
  M : List G.It
  W : List HProp
  A : List G.It
  C : List G.It
/-- Get. -/
theorem tget_spec (ok : BtOk G c) {t : Nat} {L : List G.It} {k : κ} {Q : Array Value → Bool → K} (hfound : ∀ A v C, L = A ++ (k, v) :: C → HG B (TreeR G c t L :: Γ) (Q v.1.toArray true)) (hnot : (∀ A C, L = A ++ C → (∀ x ∈ A, c x.1 k < 0) → (∀ x ∈ C, c k x.1 < 0) → HG B (TreeR G c t L :: Γ) (Q G.vz.toArray false))) :
    HG B (TreeR G c t L :: Γ) (tget G (some ⟨t, 0, none⟩) k Q) := by
  refine s_tree fun d b hs => ?_
  unfold tget
  refine s_new fun o => ?_
  refine s_nn ?_
  refine s_ld (b := t) (x := some ⟨b, 0, none⟩) ?_
  let W0 : List HProp := blk t (.cells [.pointer (some ⟨b, 0, none⟩), .int .i64 L.length].toArray G.tT (0, 0)) :: Γ
  refine s_end (Δ := NodeR G d 1 b L :: valB G o (G.z0 ok.vz) :: W0) ?_
  refine s_loop (ι := At G) (fun x i => x = some ⟨i.b, 0, none⟩ ∧ L = i.A ++ i.M ++ i.C ∧ (∀ x ∈ i.A, c x.1 k < 0) ∧ (∀ x ∈ i.C, c k x.1 < 0) ∧ ∀ k', HG B (TreeR G c t L :: Γ) k' → HG B (NodeR G i.d i.m i.b i.M :: i.W) k')
    (fun x i => NodeR G i.d i.m i.b i.M :: valB G o (G.z0 ok.vz) :: i.W) (fun x i => i.d) (⟨d, 1, b, L, W0, [], []⟩ : At G) ⟨rfl, by simp, by simp, by simp, fun k' hk => ?_⟩ ?_
  · refine s_end (Δ := blk t (.cells [.pointer (some ⟨b, 0, none⟩), .int .i64 L.length].toArray G.tT (0, 0)) :: NodeR G d 1 b L :: Γ) ?_
    exact s_mkTree hs hk
  clear d b W0
  rintro k' _ ⟨d, m, b, M, W, A, C⟩ ⟨rfl, hL, hA, hC, cl⟩ hk
  simp only at hL hA hC cl hk ⊢
  have hsM : Srt c M := by rw [hL] at hs; exact (List.pairwise_append.1 (List.pairwise_append.1 hs).1).2.1
  unfold tget_b1
  cases d with
  | zero =>
    refine s_node0 fun s kd hm hl => ?_
    refine s_search ok (s := s) (kd := kd) hsM (by omega) (fun A' v C' e => ?_) fun A' C' e hA' hC' => ?_
    · subst e
      refine s_t ?_
      refine s_nn ?_
      refine s_cap s fun l1 l2 l3 l4 => ?_
      rw [flatMap_len G.f _ G.f_len] at l1
      have hn : s.n = (A' ++ (k, v) :: C').length := (Nat.eq_of_mul_eq_mul_right (by omega) l1).symm
      have hlen : (A' ++ (k, v) :: C').length = A'.length + (C'.length + 1) := List.length_append
      refine s_ld (b := b) (x := s) ?_
      refine s_idx (s := s) (i := A'.length) ?_
      refine s_ldEN (s := s) (l' := v.1) drop_val v.2.1 ?_
      refine s_stN (b := o) ?_ ok.vz.1 v.2.1 v.2.2
      refine s_ldN (b := o) (off := 0) (l := v.1) (l' := v.1) ?_ (List.take_of_length_le (Nat.le_of_eq v.2.1)) v.2.1
      refine s_end (Δ := nodeB G b s kd :: itsR G s (A' ++ (k, v) :: C') :: kpsR G kd [] :: W) ?_
      refine s_mk0 hm hl (cl _ (hfound (A ++ A') v (C' ++ C) ?_))
      rw [hL]; simp
    · subst e
      refine s_f ?_
      refine s_nn ?_
      refine s_cap kd fun m1 m2 m3 m4 => ?_
      refine s_ld (b := b) (x := kd) ?_
      refine s_t ?_ (by simpa using m1.symm)
      refine s_ret3 (v := G.z0 ok.vz) ?_
      refine s_end (Δ := nodeB G b s kd :: itsR G s (A' ++ C') :: kpsR G kd [] :: W) ?_
      refine s_mk0 hm hl (cl _ (hnot (A ++ A') (C' ++ C) ?_ (fun x hx => ?_) fun x hx => ?_))
      · rw [hL]; simp
      · rcases List.mem_append.1 hx with hx | hx
        · exact hA x hx
        · exact hA' x hx
      · rcases List.mem_append.1 hx with hx | hx
        · exact hC' x hx
        · exact hC x hx
  | succ d =>
    refine s_nodeS fun s kd q0 ps hne hl hM => ?_
    subst hM
    refine s_search ok (s := s) (kd := kd) (hsM.sub (its_sub q0 ps)) (by simp; omega) (fun A' v C' e => ?_) fun A' C' e hA' hC' => ?_
    · rw [e]
      refine s_t ?_
      refine s_nn ?_
      refine s_cap s fun l1 l2 l3 l4 => ?_
      rw [flatMap_len G.f _ G.f_len] at l1
      have hn : s.n = (A' ++ (k, v) :: C').length := (Nat.eq_of_mul_eq_mul_right (by omega) l1).symm
      have hlen : (A' ++ (k, v) :: C').length = A'.length + (C'.length + 1) := List.length_append
      refine s_ld (b := b) (x := s) ?_
      refine s_idx (s := s) (i := A'.length) ?_
      refine s_ldEN (s := s) (l' := v.1) drop_val v.2.1 ?_
      refine s_stN (b := o) ?_ ok.vz.1 v.2.1 v.2.2
      refine s_ldN (b := o) (off := 0) (l := v.1) (l' := v.1) ?_ (List.take_of_length_le (Nat.le_of_eq v.2.1)) v.2.1
      rw [← e]
      refine s_end (Δ := nodeB G b s kd :: itsR G s (ps.map Prod.fst) :: kpsR G kd ((q0 :: ps.map Prod.snd).map ptr) :: kidsR G d (q0 :: ps.map Prod.snd) :: W) ?_
      obtain ⟨A2, C2, e2⟩ : ∃ A2 C2, psL q0 ps = A2 ++ (k, v) :: C2 := List.append_of_mem ((its_sub q0 ps).subset (by rw [e]; simp))
      refine s_mkS hne hl (cl _ (hfound (A ++ A2) v (C2 ++ C) ?_))
      rw [hL, e2]; simp
    · obtain ⟨l, q, r, rfl, rfl, hK, hL2, hlen⟩ := zip_of (q0 := q0) e
      rw [hK]
      rw [hL2] at hsM hL
      refine s_f ?_
      refine s_nn ?_
      have hkl : ((l.map Prod.fst ++ q :: r.map Prod.snd).map ptr).length = l.length + r.length + 1 := by simp; omega
      refine s_cap kd fun m1 m2 m3 m4 => ?_
      rw [kp_len, hkl] at m1
      refine s_ld (b := b) (x := kd) ?_
      refine s_f ?_ (by simp; omega)
      refine s_ld (b := b) (x := kd) ?_
      refine s_idx (s := kd) (i := l.length) ?_ (by simp)
      refine s_ldE0 (s := kd) (x := ptr q) (by simp) ?_
      refine s_pick (kidsR G d (l.map Prod.fst ++ q :: r.map Prod.snd)) ?_
      refine s_kid ?_
      have hs1 := List.pairwise_append.1 hsM
      have hs2 := List.pairwise_append.1 hs1.1
      have hpre := pre_lt ok l hs2.1 hA'
      have hpost := post_gt ok r hs1.2.1 hC'
      refine s_end (Δ := NodeR G d 2 q.1 q.2 :: valB G o (G.z0 ok.vz) :: kidsR G d (l.map Prod.fst ++ r.map Prod.snd) :: nodeB G b s kd :: itsR G s (ps.map Prod.fst) :: kpsR G kd ((l.map Prod.fst ++ q :: r.map Prod.snd).map ptr) :: W) ?_
      refine hk _ (⟨d, 2, q.1, q.2, kidsR G d (l.map Prod.fst ++ r.map Prod.snd) :: nodeB G b s kd :: itsR G s (ps.map Prod.fst) :: kpsR G kd ((l.map Prod.fst ++ q :: r.map Prod.snd).map ptr) :: W, A ++ preL l, postL r ++ C⟩ : At G) ⟨rfl, ?_, fun x hx => ?_, fun x hx => ?_, fun k' hk' => ?_⟩ (Nat.lt_succ_self _)
      · rw [hL]; simp
      · rcases List.mem_append.1 hx with hx | hx
        · exact hA x hx
        · exact hpre x hx
      · rcases List.mem_append.1 hx with hx | hx
        · exact hpost x hx
        · exact hC x hx
      · refine s_unkid ?_
        rw [← hK]
        refine s_end (Δ := nodeB G b s kd :: itsR G s (ps.map Prod.fst) :: kpsR G kd ((q0 :: ps.map Prod.snd).map ptr) :: kidsR G d (q0 :: ps.map Prod.snd) :: W) ?_
        exact s_mkS hne hl (cl k' hk')
end
end Bt
end Go.Sep
/- Plain forms of functions, and that their code comes to them (package btree). -/
namespace Go.Proofs.Yteolfpghafdmdaa
open Go Go.Sep
set_option linter.unusedVariables false
set_option linter.unusedSimpArgs false
set_option maxRecDepth 100000
set_option maxHeartbeats 4000000
attribute [local irreducible] G Gp Cx Tx Ex Sx Dx Ox Ax Lx Rx Fx Bx Bj Al Do Ld LdN St StN New CallF Ar DoU Rd Rd2 Pu Cd Ite Fv CallV CallY Ans0 Ans1 Ans2 Ans3 Ans4 Ans5 Ext Dead Dr WithS Sv LdS LdNS RdS Rd2S Nn Idx IdxA IdxS Fld Bld Slc SlcS Cat All LoopK RangeF RangeJ TakeD
namespace F_IRBtree
instance at_101 : AT Try.prog 101 4 := ⟨by kernel_rfl⟩
instance cb_56 : CB Try.prog 56 := ⟨by kernel_rfl⟩
instance cb_68 : CB Try.prog 68 := ⟨by kernel_rfl⟩
instance cb_70 : CB Try.prog 70 := ⟨by kernel_rfl⟩
instance ct_122 : CT Try.prog 122 := ⟨by kernel_rfl⟩
instance ct_123 : CT Try.prog 123 := ⟨by kernel_rfl⟩
instance ct_124 : CT Try.prog 124 := ⟨by kernel_rfl⟩
instance ct_9 : CT Try.prog 9 := ⟨by kernel_rfl⟩
instance ft_126_0 : FT Try.prog 126 0 0 1 := ⟨by kernel_rfl⟩
instance ft_126_1 : FT Try.prog 126 1 1 1 := ⟨by kernel_rfl⟩
instance ft_128_0 : FT Try.prog 128 0 0 1 := ⟨by kernel_rfl⟩
instance ft_152_0 : FT Try.prog 152 0 0 1 := ⟨by kernel_rfl⟩
instance ft_152_1 : FT Try.prog 152 1 1 4 := ⟨by kernel_rfl⟩
instance mx : MX Try.prog := ⟨mixed⟩
instance pl_126 : PLT Try.prog 126 [(0, 1), (1, 1)] := ⟨_, Try.underlying126, by kernel_rfl⟩
instance pl_128 : PLT Try.prog 128 [(0, 1), (1, 1)] := ⟨_, Try.underlying128, by kernel_rfl⟩
instance sl_123 : SLT Try.prog 123 152 5 := ⟨by kernel_rfl⟩
instance sl_124 : SLT Try.prog 124 122 1 := ⟨by kernel_rfl⟩
instance sz_101 : SZ Try.prog 101 4 := ⟨by kernel_rfl⟩
instance zt_101 : ZT Try.prog 101 (.agg #[(.bool false), (Sl.val ⟨none, 0, 0⟩), (.int .i64 0), (.int .u64 0)]) := ⟨Try.t101, by kernel_rfl, by kernel_rfl⟩
instance zt_126 : ZT Try.prog 126 (.agg #[(Sl.val ⟨none, 0, 0⟩), (Sl.val ⟨none, 0, 0⟩)]) := ⟨Try.t126, by kernel_rfl, by kernel_rfl⟩
instance zt_128 : ZT Try.prog 128 (.agg #[(.pointer none), (.int .i64 0)]) := ⟨Try.t128, by kernel_rfl, by kernel_rfl⟩
end F_IRBtree
def btree_New_string_api_Record  (Q : (Option Addr) → K) : K :=
  New 126 #[(Sl.val ⟨none, 0, 0⟩), (Sl.val ⟨none, 0, 0⟩)] fun t2 =>
  New 128 #[(.pointer (some t2)), (.int .i64 0)] fun t4 =>
  Q (some t4)
theorem btree_New_string_api_Record_ok  (Q : (Option Addr) → K) (w : World) (h : btree_New_string_api_Record  Q w) : btree_New_string_api_Record.call  Q w := by
  exact g_walk 5 h Try.func26
def btree_Tree_string_api_Record_Get.b1 (Q : (Array Value) → Bool → K)  (X1 : (Option Addr) → K) (key1_1 : ByteArray) (value4_1 : Addr) (n6_1 : (Option Addr)) : K :=
  btree_node_string_api_Record_search.call n6_1 key1_1 fun t16x0 t16x1 =>
  Ite t16x1
    (Nn n6_1 fun t21 =>
    Ld t21 Sl.val fun t23 =>
    Idx t23 t16x0 5 fun t25 =>
    LdN (t25.add 1) 4 fun t27 =>
    StN value4_1 4 t27 <|
    LdN value4_1 4 fun r0 =>
    Q r0 true)
    (Nn n6_1 fun t29 =>
    Ld (t29.add 1) Sl.val fun t31 =>
    Ite (decide ((t31.n : Int) = 0))
      (LdN value4_1 4 fun t34 =>
      StN value4_1 4 t34 <|
      LdN value4_1 4 fun r0 =>
      Q r0 false)
      (Ld (t29.add 1) Sl.val fun t38 =>
      Idx t38 t16x0 1 fun t40 =>
      Ld t40 Value.pointer fun t41 =>
      X1 t41))
def btree_Tree_string_api_Record_Get (t0 : (Option Addr)) (key1 : ByteArray) (Q : (Array Value) → Bool → K) : K :=
  New 101 #[(.bool false), (Sl.val ⟨none, 0, 0⟩), (.int .i64 0), (.int .u64 0)] fun value4 =>
  Nn t0 fun t10 =>
  Ld t10 Value.pointer fun t12 =>
  LoopK (α := (Option Addr)) (fun X x => btree_Tree_string_api_Record_Get.b1 Q X key1 value4 x) t12
theorem btree_Tree_string_api_Record_Get_ok (t0 : (Option Addr)) (key1 : ByteArray) (Q : (Array Value) → Bool → K) (w : World) (h : btree_Tree_string_api_Record_Get t0 key1 Q w) : btree_Tree_string_api_Record_Get.call t0 key1 Q w := by
  have hL2 : ∀ (key1_1 : ByteArray) (value4_1 : Addr), LH 2 (fun x : (Option Addr) => [(1, (.string key1_1)), (4, (.pointer (some value4_1))), (6, (.pointer x))]) (fun X x => btree_Tree_string_api_Record_Get.b1 Q X key1_1 value4_1 x) := by intros; exact ⟨⟩
  exact g_walk 42 h Try.func51
def btree_node_string_api_Record_search (n0 : (Option Addr)) (key1 : ByteArray) (Q : Int → Bool → K) : K :=
  Nn n0 fun t7 =>
  Ld t7 Sl.val fun t9 =>
  slices_BinarySearchFunc_s_btree_item_string_api_Record_btree_item_string_api_Record_string.call t9 key1 (.func (.func 69) #[] #[]) fun t11x0 t11x1 =>
  Q t11x0 t11x1
theorem btree_node_string_api_Record_search_ok (n0 : (Option Addr)) (key1 : ByteArray) (Q : Int → Bool → K) (w : World) (h : btree_node_string_api_Record_search n0 key1 Q w) : btree_node_string_api_Record_search.call n0 key1 Q w := by
  exact g_walk 14 h Try.func56
def btree_node_string_api_Record_search_1 (x0 : (Array Value)) (k1 : ByteArray) (Q : Int → K) : K :=
  New 152 x0 fun x2 =>
  Ld x2 Value.string fun t6 =>
  cmp_Compare_string.call t6 k1 fun t8 =>
  Q t8
theorem btree_node_string_api_Record_search_1_ok (x0 : (Array Value)) (k1 : ByteArray) (Q : Int → K) (w : World) (h : btree_node_string_api_Record_search_1 x0 k1 Q w) : btree_node_string_api_Record_search_1.call x0 k1 Q w := by
  exact g_walk 9 h Try.func69
end Go.Proofs.Yteolfpghafdmdaa
/- Plain forms of functions, and that their code comes to them (package lib_btree). -/
namespace Go.Proofs.Yteolfpghafdmdaa
open Go Go.Sep
set_option linter.unusedVariables false
set_option linter.unusedSimpArgs false
set_option maxRecDepth 100000
set_option maxHeartbeats 4000000
attribute [local irreducible] G Gp Cx Tx Ex Sx Dx Ox Ax Lx Rx Fx Bx Bj Al Do Ld LdN St StN New CallF Ar DoU Rd Rd2 Pu Cd Ite Fv CallV CallY Ans0 Ans1 Ans2 Ans3 Ans4 Ans5 Ext Dead Dr WithS Sv LdS LdNS RdS Rd2S Nn Idx IdxA IdxS Fld Bld Slc SlcS Cat All LoopK RangeF RangeJ TakeD
namespace F_IRLibBtree
instance at_152 : AT Try.prog 152 5 := ⟨by kernel_rfl⟩
instance in_148 : INT Try.prog 148 .u64 := ⟨by kernel_rfl⟩
instance in_3 : INT Try.prog 3 .i64 := ⟨by kernel_rfl⟩
instance mx : MX Try.prog := ⟨mixed⟩
instance sl_123 : SLT Try.prog 123 152 5 := ⟨by kernel_rfl⟩
end F_IRLibBtree
def slices_BinarySearchFunc_s_btree_item_string_api_Record_btree_item_string_api_Record_string.s2 (Q : Int → Bool → K) (X1 : Int → Int → K) (t6_2 : Int) (t7_2 : Bool) : K :=
  Q t6_2 t7_2
def slices_BinarySearchFunc_s_btree_item_string_api_Record_btree_item_string_api_Record_string.b1 (Q : Int → Bool → K)  (X1 : Int → Int → K) (x0_1 : Sl) (target1_1 : ByteArray) (cmp2_1 : Value) (n8_1 : Int) (i9_1 : Int) (j10_1 : Int) : K :=
  Ite (decide (i9_1 < j10_1))
    (Ar (IntKind.wrap .i64 (i9_1 + j10_1)) fun t20 =>
    Ar (IntKind.wrap .u64 t20) fun t21 =>
    Cd (0 ≤ (1 : Int)) <|
    Ar (shrOf .u64 t21 1) fun t22 =>
    Ar (IntKind.wrap .i64 t22) fun t23 =>
    Idx x0_1 t23 5 fun t27 =>
    LdN t27 5 fun t28 =>
    CallV Try.prog cmp2_1 [(.agg t28), (.string target1_1)] <| Ans1 (fun (t30 : Int) => (Value.int .i64) t30) fun t30 =>
    Ite (decide (t30 < 0))
      (Ar (IntKind.wrap .i64 (t23 + 1)) fun t33 =>
      X1 t33 j10_1)
      (X1 i9_1 t23))
    (Ite (decide (i9_1 < n8_1))
      (Idx x0_1 i9_1 5 fun t43 =>
      LdN t43 5 fun t44 =>
      CallV Try.prog cmp2_1 [(.agg t44), (.string target1_1)] <| Ans1 (fun (t46 : Int) => (Value.int .i64) t46) fun t46 =>
      slices_BinarySearchFunc_s_btree_item_string_api_Record_btree_item_string_api_Record_string.s2 Q X1 i9_1 (decide (t46 = 0)))
      (slices_BinarySearchFunc_s_btree_item_string_api_Record_btree_item_string_api_Record_string.s2 Q X1 i9_1 false))
def slices_BinarySearchFunc_s_btree_item_string_api_Record_btree_item_string_api_Record_string (x0 : Sl) (target1 : ByteArray) (cmp2 : Value) (Q : Int → Bool → K) : K :=
  LoopK (α := Int × Int) (fun X x => slices_BinarySearchFunc_s_btree_item_string_api_Record_btree_item_string_api_Record_string.b1 Q (fun i9_1 j10_1 => X (i9_1, j10_1)) x0 target1 cmp2 (x0.n : Int) x.1 x.2) (0, (x0.n : Int))
theorem slices_BinarySearchFunc_s_btree_item_string_api_Record_btree_item_string_api_Record_string_ok (x0 : Sl) (target1 : ByteArray) (cmp2 : Value) (Q : Int → Bool → K) (w : World) (h : slices_BinarySearchFunc_s_btree_item_string_api_Record_btree_item_string_api_Record_string x0 target1 cmp2 Q w) : slices_BinarySearchFunc_s_btree_item_string_api_Record_btree_item_string_api_Record_string.call x0 target1 cmp2 Q w := by
  have hJ1000008 : ∀ (X1 : (Int × Int) → K), XH 3 X1 → JH 1000008 fun D => D [] (fun C => ∀ (t6_2 : Int) (t7_2 : Bool), C [(6, (.int .i64 t6_2)), (7, (.bool t7_2))] (slices_BinarySearchFunc_s_btree_item_string_api_Record_btree_item_string_api_Record_string.s2 Q (fun i9_1 j10_1 => X1 (i9_1, j10_1)) t6_2 t7_2)) := by intros; exact ⟨fun _ h => ⟨_, _, h⟩⟩
  have hL3 : ∀ (x0_1 : Sl) (target1_1 : ByteArray) (cmp2_1 : Value) (n8_1 : Int), LH 3 (fun x : Int × Int => [(0, (Sl.val x0_1)), (1, (.string target1_1)), (2, cmp2_1), (8, (.int .i64 n8_1)), (9, (.int .i64 x.1)), (10, (.int .i64 x.2))]) (fun X x => slices_BinarySearchFunc_s_btree_item_string_api_Record_btree_item_string_api_Record_string.b1 Q (fun i9_1 j10_1 => X (i9_1, j10_1)) x0_1 target1_1 cmp2_1 n8_1 x.1 x.2) := by intros; exact ⟨⟩
  exact g_walk 49 h Try.func68
end Go.Proofs.Yteolfpghafdmdaa
/- Plain forms of functions, and that their code comes to them (package lib_cmp). -/
namespace Go.Proofs.Yteolfpghafdmdaa
open Go Go.Sep
set_option linter.unusedVariables false
set_option linter.unusedSimpArgs false
set_option maxRecDepth 100000
set_option maxHeartbeats 4000000
attribute [local irreducible] G Gp Cx Tx Ex Sx Dx Ox Ax Lx Rx Fx Bx Bj Al Do Ld LdN St StN New CallF Ar DoU Rd Rd2 Pu Cd Ite Fv CallV CallY Ans0 Ans1 Ans2 Ans3 Ans4 Ans5 Ext Dead Dr WithS Sv LdS LdNS RdS Rd2S Nn Idx IdxA IdxS Fld Bld Slc SlcS Cat All LoopK RangeF RangeJ TakeD
namespace F_IRLibCmp
instance cb_76 : CB Try.prog 76 := ⟨by kernel_rfl⟩
instance mx : MX Try.prog := ⟨mixed⟩
end F_IRLibCmp
def cmp_Less_string.s1 (Q : Bool → K)  (t4_1 : Bool) : K :=
  Q t4_1
def cmp_Less_string (x0 : ByteArray) (y1 : ByteArray) (Q : Bool → K) : K :=
  cmp_isNaN_string.call x0 fun t6 =>
  Ite t6
    (cmp_isNaN_string.call y1 fun t9 =>
    Ite (!t9)
      (cmp_Less_string.s1 Q true)
      (cmp_Less_string.s1 Q (Op.bytesLess x0.toList y1.toList)))
    (cmp_Less_string.s1 Q (Op.bytesLess x0.toList y1.toList))
theorem cmp_Less_string_ok (x0 : ByteArray) (y1 : ByteArray) (Q : Bool → K) (w : World) (h : cmp_Less_string x0 y1 Q w) : cmp_Less_string.call x0 y1 Q w := by
  have hJ1000001 : JH 1000001 fun D => D [] (fun C => ∀ (t4_1 : Bool), C [(4, (.bool t4_1))] (cmp_Less_string.s1 Q t4_1)) := by intros; exact ⟨fun _ h => ⟨_, _, h⟩⟩
  exact g_walk 17 h Try.func63
def cmp_Compare_string (x0 : ByteArray) (y1 : ByteArray) (Q : Int → K) : K :=
  cmp_isNaN_string.call x0 fun t8 =>
  cmp_isNaN_string.call y1 fun t10 =>
  Ite t8
    (Ite t10
      (Q 0)
      (Q (-1)))
    (Ite t10
      (Q 1)
      (Ite (Op.bytesLess x0.toList y1.toList)
        (Q (-1))
        (Ite (!(Op.bytesLess x0.toList y1.toList || x0.toList == y1.toList))
          (Q 1)
          (Q 0))))
theorem cmp_Compare_string_ok (x0 : ByteArray) (y1 : ByteArray) (Q : Int → K) (w : World) (h : cmp_Compare_string x0 y1 Q w) : cmp_Compare_string.call x0 y1 Q w := by
  exact g_walk 20 h Try.func70
def cmp_isNaN_string (x0 : ByteArray) (Q : Bool → K) : K :=
  Q (!(x0.toList == x0.toList))
theorem cmp_isNaN_string_ok (x0 : ByteArray) (Q : Bool → K) (w : World) (h : cmp_isNaN_string x0 Q w) : cmp_isNaN_string.call x0 Q w := by
  exact g_walk 6 h Try.func76
end Go.Proofs.Yteolfpghafdmdaa
/- The B-tree of records by strings is one of Bt's (where nothing is ever put). -/
namespace Go.Proofs.Yteolfpghafdmdaa
open Go Go.Sep Go.Sep.Bt
set_option linter.unusedSimpArgs false
set_option linter.unusedVariables false
set_option maxRecDepth 100000

noncomputable def btS : BtT ByteArray where
  P := Try.prog
  tI := ty_btree_item_string_api_Record
  tSI := ty_s_btree_item_string_api_Record
  tV := ty_api_Record
  tK := ty_p_btree_node_string_api_Record
  tSK := ty_s_p_btree_node_string_api_Record
  tN := ty_btree_node_string_api_Record
  tT := ty_btree_Tree_string_api_Record
  nv := 4
  kz := .string ⟨#[]⟩
  vz := [.bool false, Sl.val ⟨none, 0, 0⟩, .int .i64 0, .int .u64 0]
  kV := Value.string
  cv := .func (.func 69) #[] #[]
  bsC := slices_BinarySearchFunc_s_btree_item_string_api_Record_btree_item_string_api_Record_string.call
  nsearchC := btree_node_string_api_Record_search.call
  nputC := fun _ _ _ _ => True
  insIC := fun _ _ _ _ _ => True
  insKC := fun _ _ _ _ _ => True
  cloneIC := fun _ _ _ => True
  cloneKC := fun _ _ _ => True

/-- How strings are compared. -/
def cmpS (a b : ByteArray) : Int := if a.toList < b.toList then -1 else if a.toList = b.toList then 0 else 1
theorem toList_inj {a b : ByteArray} (h : a.toList = b.toList) : a = b := by
  obtain ⟨x, rfl⟩ := bs_of a
  obtain ⟨y, rfl⟩ := bs_of b
  rw [bs_list, bs_list] at h
  rw [h]
theorem cmpS_neg {a b : ByteArray} : cmpS a b < 0 ↔ a.toList < b.toList := by
  unfold cmpS
  split
  · simp [*]
  · split <;> simp [*]
theorem cmpS_zero {a b : ByteArray} : cmpS a b = 0 ↔ a = b := by
  unfold cmpS
  split
  · rename_i h
    simp only [show ¬ ((-1 : Int) = 0) by omega, false_iff]
    rintro rfl; exact List.lt_irrefl _ h
  · split
    · rename_i h; simp [toList_inj h]
    · rename_i h
      simp only [show ¬ ((1 : Int) = 0) by omega, false_iff]
      rintro rfl; exact h rfl
theorem list_tri {x y : List UInt8} (h1 : ¬ x < y) (h2 : ¬ x = y) : y < x := by
  have h4 : y ≤ x := by rw [← List.not_lt]; exact h1
  rcases List.le_iff_lt_or_eq.1 h4 with h5 | h5
  · exact h5
  · exact absurd h5.symm h2
theorem cmpS_pos {a b : ByteArray} : 0 < cmpS a b ↔ b.toList < a.toList := by
  unfold cmpS
  split
  · rename_i h
    simp only [show ¬ (0 < (-1 : Int)) by omega, false_iff]
    exact fun h2 => List.lt_irrefl _ (List.lt_trans h h2)
  · split
    · rename_i h
      simp only [show ¬ (0 < (0 : Int)) by omega, false_iff]
      rw [h]; exact List.lt_irrefl _
    · rename_i h1 h2
      simp only [show 0 < (1 : Int) by omega, true_iff]
      exact list_tri h1 h2
theorem isNaN_spec {B : World} {Γ : List HProp} {x : ByteArray} {q : Bool → K} (h : HG B Γ (q false)) : HG B Γ (cmp_isNaN_string.call x q) := fun w hw => cmp_isNaN_string_ok _ _ _ (by unfold cmp_isNaN_string; simpa using h w hw)
theorem Compare_spec {B : World} {Γ : List HProp} {x y : ByteArray} {q : Int → K} (h : HG B Γ (q (cmpS x y))) : HG B Γ (cmp_Compare_string.call x y q) := fun w hw => by
  refine cmp_Compare_string_ok _ _ _ _ ?_
  refine hg hw ?_
  unfold cmp_Compare_string
  refine isNaN_spec (isNaN_spec ?_)
  refine s_f ?_ rfl
  refine s_f ?_ rfl
  rw [gt_dec, bytesLess_dec]
  refine s_ite (fun h1 => ?_) fun h1 => ?_
  · have e : cmpS x y = -1 := by unfold cmpS; rw [if_pos (by simpa using h1)]
    rw [e] at h; exact h
  refine s_ite (fun h2 => ?_) fun h2 => ?_
  · have h3 : y.toList < x.toList := by simpa using h2
    have e : cmpS x y = 1 := by
      unfold cmpS
      rw [if_neg (by simpa using h1), if_neg fun h4 => by rw [h4] at h3; exact List.lt_irrefl _ h3]
    rw [e] at h; exact h
  · have h3 : ¬ y.toList < x.toList := by simpa using h2
    have e : cmpS x y = 0 := by
      unfold cmpS
      rw [if_neg (by simpa using h1), if_pos (Classical.byContradiction fun h4 => h3 (list_tri (by simpa using h1) h4))]
    rw [e] at h; exact h
theorem btS_ok : BtOk btS cmpS where
  kf := fun _ => rfl
  kzf := rfl
  vz := ⟨rfl, rfl⟩
  TI := by kernel_rfl
  ZI := by kernel_rfl
  TK := by kernel_rfl
  ZK := by kernel_rfl
  tr := fun h1 h2 => cmpS_neg.2 (List.lt_trans (cmpS_neg.1 h1) (cmpS_neg.1 h2))
  eq := cmpS_zero
  sw := by intro a b; rw [cmpS_neg, cmpS_pos]
  cmp := fun a b vs q hl h => by
    refine s_callv ?_
    refine fun w hw => btree_node_string_api_Record_search_1_ok _ _ _ _ ?_
    refine hg hw ?_
    clear hw w
    unfold btree_node_string_api_Record_search_1
    refine s_new fun t => ?_
    refine s_ld (b := t) (x := a) ?_
    refine Compare_spec ?_
    exact s_end h
  bs := fun s k Q w h => slices_BinarySearchFunc_s_btree_item_string_api_Record_btree_item_string_api_Record_string_ok _ _ _ _ _ h
  search := fun n k Q w h => btree_node_string_api_Record_search_ok _ _ _ _ h
  put := fun n x Q w h => trivial
  insI := ⟨0, fun _ _ _ _ => True, fun s i v Q w h => trivial⟩
  insK := ⟨0, fun _ _ _ _ => True, fun s i v Q w h => trivial⟩
  cloneI := fun s Q w h => trivial
  cloneK := fun s Q w h => trivial

section
variable {B : World} {Γ : List HProp}
theorem btNew_spec {Q : Option Addr → K} (h : ∀ t, HG B (TreeR btS cmpS t [] :: Γ) (Q (some ⟨t, 0, none⟩))) : HG B Γ (btree_New_string_api_Record.call Q) := fun w hw =>
  btree_New_string_api_Record_ok _ _ (show tnew btS Q w from hg hw (tnew_spec h))
theorem btGet_spec {t : Nat} {L : List btS.It} {k : ByteArray} {Q : Array Value → Bool → K} (hfound : ∀ A v C, L = A ++ (k, v) :: C → HG B (TreeR btS cmpS t L :: Γ) (Q v.1.toArray true)) (hnot : (∀ A C, L = A ++ C → (∀ x ∈ A, cmpS x.1 k < 0) → (∀ x ∈ C, cmpS k x.1 < 0) → HG B (TreeR btS cmpS t L :: Γ) (Q btS.vz.toArray false))) :
    HG B (TreeR btS cmpS t L :: Γ) (btree_Tree_string_api_Record_Get.call (some ⟨t, 0, none⟩) k Q) := fun w hw =>
  btree_Tree_string_api_Record_Get_ok _ _ _ _ (show tget btS (some ⟨t, 0, none⟩) k Q w from hg hw (tget_spec btS_ok hfound hnot))
end
end Go.Proofs.Yteolfpghafdmdaa
/- bytes.Clone gives the same bytes in memory of one's own. -/
namespace Go.Proofs.Yteolfpghafdmdaa
open Go Go.Sep
set_option linter.unusedSimpArgs false
set_option linter.unusedVariables false
section
variable {B w : World} {Γ : List HProp}
theorem bytes_Clone_spec {b : Sl} {xs : List UInt8} {k : Sl → K} (h : Holds B Γ w) (hr : ∀ w, Holds B Γ w → RdB w b xs) (hl : xs.length ≤ 1000000000)
    (hk : ∀ s w, Holds B (Bytes ty_uint8 s xs :: Γ) w → s.a.isNone = b.a.isNone → k s w) : bytes_Clone.call b k w := by
  refine bytes_Clone_ok _ _ _ ?_
  unfold bytes_Clone
  refine r_ite (fun hb => ?_) (fun hb => ?_)
  · have hx : xs = [] := by
      have h1 := (hr w h).nil (by simpa using hb)
      have h2 := (hr w h).len
      rw [h1] at h2; simpa using h2
    subst hx
    exact hk _ _ (h.nilSl _ _) (by rw [hb]; rfl)
  · refine r_new h ?_
    clear h
    intro t w h
    try simp only [add_mk, Nat.zero_add, Nat.reduceAdd]
    have hn : b.n = xs.length := by have h2 := (hr w h.tail).len; simpa using h2.symm
    refine r_append (vs := []) (h.imp (blk_SlC rfl rfl)) (by kernel_rfl) (by kernel_rfl) (by' := 1) (by kernel_rfl) zero_ty_uint8 rfl (hr w h.tail) (byteV_flat _) (by simp only [hn]; omega) (by decide) fun s w h hs ha => ?_
    refine hk s w h ?_
    rw [hb]
    have := ha rfl
    cases hh : s.a <;> simp [hh] at this ⊢
end
end Go.Proofs.Yteolfpghafdmdaa
/- Plain forms of functions, and that their code comes to them (package store). -/
namespace Go.Proofs.Yteolfpghafdmdaa
open Go Go.Sep
set_option linter.unusedVariables false
set_option linter.unusedSimpArgs false
set_option maxRecDepth 100000
set_option maxHeartbeats 4000000
attribute [local irreducible] G Gp Cx Tx Ex Sx Dx Ox Ax Lx Rx Fx Bx Bj Al Do Ld LdN St StN New CallF Ar DoU Rd Rd2 Pu Cd Ite Fv CallV CallY Ans0 Ans1 Ans2 Ans3 Ans4 Ans5 Ext Dead Dr WithS Sv LdS LdNS RdS Rd2S Nn Idx IdxA IdxS Fld Bld Slc SlcS Cat All LoopK RangeF RangeJ TakeD
namespace F_IRStore
instance at_101 : AT Try.prog 101 4 := ⟨by kernel_rfl⟩
instance cb_24 : CB Try.prog 24 := ⟨by kernel_rfl⟩
instance cb_26 : CB Try.prog 26 := ⟨by kernel_rfl⟩
instance cb_51 : CB Try.prog 51 := ⟨by kernel_rfl⟩
instance cb_52 : CB Try.prog 52 := ⟨by kernel_rfl⟩
instance ct_3 : CT Try.prog 3 := ⟨by kernel_rfl⟩
instance ct_81 : CT Try.prog 81 := ⟨by kernel_rfl⟩
instance ct_98 : CT Try.prog 98 := ⟨by kernel_rfl⟩
instance ft_101_1 : FT Try.prog 101 1 1 1 := ⟨by kernel_rfl⟩
instance ft_101_2 : FT Try.prog 101 2 2 1 := ⟨by kernel_rfl⟩
instance ft_103_0 : FT Try.prog 103 0 0 1 := ⟨by kernel_rfl⟩
instance ft_103_1 : FT Try.prog 103 1 1 1 := ⟨by kernel_rfl⟩
instance in_3 : INT Try.prog 3 .i64 := ⟨by kernel_rfl⟩
instance in_5 : INT Try.prog 5 .u8 := ⟨by kernel_rfl⟩
instance mx : MX Try.prog := ⟨mixed⟩
instance pl_103 : PLT Try.prog 103 [(0, 1), (1, 1)] := ⟨_, Try.underlying103, by kernel_rfl⟩
instance st_9 : STT Try.prog 9 := ⟨by kernel_rfl⟩
instance sz_101 : SZ Try.prog 101 4 := ⟨by kernel_rfl⟩
instance sz_3 : SZ Try.prog 3 1 := ⟨by kernel_rfl⟩
instance sz_81 : SZ Try.prog 81 1 := ⟨by kernel_rfl⟩
instance zt_101 : ZT Try.prog 101 (.agg #[(.bool false), (Sl.val ⟨none, 0, 0⟩), (.int .i64 0), (.int .u64 0)]) := ⟨Try.t101, by kernel_rfl, by kernel_rfl⟩
instance zt_103 : ZT Try.prog 103 (.agg #[(.int .i64 0), (.pointer none)]) := ⟨Try.t103, by kernel_rfl, by kernel_rfl⟩
end F_IRStore
def store_New.s1 (Q : (Option Addr) → Int → K)  (regions0_1 : Int) (t9_1 : Bool) : K :=
  Ite t9_1
    (Q none 1)
    (btree_New_string_api_Record.call  fun t11 =>
    New 103 #[(.int .i64 regions0_1), (.pointer t11)] fun t13 =>
    Q (some t13) 0)
def store_New (regions0 : Int) (Q : (Option Addr) → Int → K) : K :=
  Ite (decide (regions0 < 1))
    (store_New.s1 Q regions0 true)
    (store_New.s1 Q regions0 (decide ((3 : Int) < regions0)))
theorem store_New_ok (regions0 : Int) (Q : (Option Addr) → Int → K) (w : World) (h : store_New regions0 Q w) : store_New.call regions0 Q w := by
  have hJ2 : JH 2 fun D => ∃ (regions0_1 : Int), D [(0, (.int .i64 regions0_1))] (fun C => ∀ (t9_1 : Bool), C [(0, (.int .i64 regions0_1)), (9, (.bool t9_1))] (store_New.s1 Q regions0_1 t9_1)) := by intros; exact ⟨fun _ ⟨_, h⟩ => ⟨_, _, h⟩⟩
  exact g_walk 14 h Try.func15
def store_Store_Get.s1 (Q : (Array Value) → K)  (t4_1 : Addr) (r5_1 : Addr) : K :=
  Ld (r5_1.add 1) Sl.val fun t26 =>
  bytes_Clone.call t26 fun t27 =>
  St (r5_1.add 1) (Sl.val t27) <|
  LdN r5_1 4 fun t29 =>
  StN t4_1 4 t29 <|
  LdN t4_1 4 fun r0 =>
  Q r0
def store_Store_Get (s0 : (Option Addr)) (key1 : ByteArray) (Q : (Array Value) → K) : K :=
  New 101 #[(.bool false), (Sl.val ⟨none, 0, 0⟩), (.int .i64 0), (.int .u64 0)] fun t4 =>
  Nn s0 fun t9 =>
  Ld (t9.add 1) Value.pointer fun t11 =>
  btree_Tree_string_api_Record_Get.call t11 key1 fun t13x0 t13x1 =>
  New 101 #[(.bool false), (Sl.val ⟨none, 0, 0⟩), (.int .i64 0), (.int .u64 0)] fun r5 =>
  StN r5 4 t13x0 <|
  Ite (!t13x1)
    (Ld t9 (Value.int .i64) fun t22 =>
    store_Default.call key1 t22 fun t23 =>
    St (r5.add 2) (.int .i64 t23) <|
    store_Store_Get.s1 Q t4 r5)
    (store_Store_Get.s1 Q t4 r5)
theorem store_Store_Get_ok (s0 : (Option Addr)) (key1 : ByteArray) (Q : (Array Value) → K) (w : World) (h : store_Store_Get s0 key1 Q w) : store_Store_Get.call s0 key1 Q w := by
  have hJ4 : JH 4 fun D => ∃ (t4_1 : Addr) (r5_1 : Addr), D [(4, (.pointer (some t4_1))), (5, (.pointer (some r5_1)))] (fun C => C [(4, (.pointer (some t4_1))), (5, (.pointer (some r5_1)))] (store_Store_Get.s1 Q t4_1 r5_1)) := by intros; exact ⟨fun _ ⟨_, _, h⟩ => ⟨_, _, h⟩⟩
  exact g_walk 30 h Try.func47
def store_Default.b1 (Q : Int → K)  (X1 : Int → Int → K) (key0_1 : ByteArray) (regions1_1 : Int) (t10_1 : Int) (sum5_1 : Int) (t11_1 : Int) : K :=
  Ite (decide (t11_1 < t10_1))
    (IdxS key0_1 t11_1 fun t17 =>
    Ar (IntKind.wrap .i64 t17) fun t18 =>
    Ar (IntKind.wrap .i64 (sum5_1 + t18)) fun t19 =>
    Cd (regions1_1 ≠ 0) <|
    Ar (Int.tmod t19 regions1_1) fun t21 =>
    Ar (IntKind.wrap .i64 (t11_1 + 1)) fun t22 =>
    X1 t21 t22)
    (Q sum5_1)
def store_Default (key0 : ByteArray) (regions1 : Int) (Q : Int → K) : K :=
  Ite (decide (regions1 < 1))
    (Q 0)
    (LoopK (α := Int × Int) (fun X x => store_Default.b1 Q (fun sum5_1 t11_1 => X (sum5_1, t11_1)) key0 regions1 (key0.size : Int) x.1 x.2) (0, 0))
theorem store_Default_ok (key0 : ByteArray) (regions1 : Int) (Q : Int → K) (w : World) (h : store_Default key0 regions1 Q w) : store_Default.call key0 regions1 Q w := by
  have hL5 : ∀ (key0_1 : ByteArray) (regions1_1 : Int) (t10_1 : Int), LH 5 (fun x : Int × Int => [(0, (.string key0_1)), (1, (.int .i64 regions1_1)), (5, (.int .i64 x.1)), (10, (.int .i64 t10_1)), (11, (.int .i64 x.2))]) (fun X x => store_Default.b1 Q (fun sum5_1 t11_1 => X (sum5_1, t11_1)) key0_1 regions1_1 t10_1 x.1 x.2) := by intros; exact ⟨⟩
  exact g_walk 24 h Try.func52
end Go.Proofs.Yteolfpghafdmdaa
/- The store: its records; New, Get. -/
namespace Go.Proofs.Yteolfpghafdmdaa
open Go Go.Sep Go.Sep.Bt
set_option linter.unusedSimpArgs false
set_option linter.unusedVariables false
set_option maxRecDepth 100000

structure Rec where
  has : Bool
  val : List UInt8
  home : Int
  cnt : Int
def Rec.ok (r : Rec) : Prop := 0 ≤ r.cnt ∧ r.cnt ≤ 18446744073709551615 ∧ r.val.length ≤ 1000000000
abbrev recL (r : Rec) (s : Sl) : List Value := [.bool r.has, s.val, .int .i64 r.home, .int .u64 r.cnt]
abbrev recA (r : Rec) (s : Sl) : Array Value := #[.bool r.has, s.val, .int .i64 r.home, .int .u64 r.cnt]
abbrev recC (x : Rec × Sl) : Cel 4 := ⟨recL x.1 x.2, rfl, rfl⟩
abbrev Recs := List (ByteArray × Rec)
abbrev RecX := ByteArray × (Rec × Sl)
abbrev recB (x : RecX) : HProp := Bytes ty_uint8 x.2.2 x.2.1.val
abbrev recI (x : RecX) : btS.It := (x.1, recC x.2)
abbrev recM (x : RecX) : ByteArray × Rec := (x.1, x.2.1)
/-- The first home of a key. -/
def homeOf (k : List UInt8) (n : Nat) : Nat := k.foldl (fun s b => (s + b.toNat) % n) 0
def getM (M : Recs) (k : ByteArray) : Option Rec := (M.find? fun x => decide (x.1 = k)).map Prod.snd
def putM (M : Recs) (k : ByteArray) (r : Rec) : Recs := match M with
  | [] => [(k, r)]
  | x :: M => if cmpS x.1 k < 0 then x :: putM M k r else if x.1 = k then (k, r) :: M else (k, r) :: x :: M
def sGet (n : Nat) (M : Recs) (k : ByteArray) : Rec := (getM M k).getD ⟨false, [], homeOf k.toList n, 0⟩
def sMove (n : Nat) (M : Recs) (k : ByteArray) (h : Int) : Recs × Int :=
  if h < 0 ∨ (n : Int) ≤ h then (M, 1) else if (sGet n M k).cnt = 18446744073709551615 then (M, 111) else (putM M k { sGet n M k with home := h, cnt := (sGet n M k).cnt + 1 }, 0)
theorem getM_put (M : Recs) (k k' : ByteArray) (r : Rec) : getM (putM M k r) k' = if k' = k then some r else getM M k' := by
  induction M with
  | nil => by_cases h : k' = k <;> simp [putM, getM, h, eq_comm]
  | cons x M ih =>
    unfold putM
    split
    · rename_i h
      have hx : x.1 ≠ k := fun e => by rw [e] at h; have := cmpS_neg.1 h; exact List.lt_irrefl _ this
      by_cases h2 : k' = k
      · subst h2
        have := ih
        simp only [getM, List.find?_cons, if_true] at this ⊢
        rw [show decide (x.1 = k') = false by simpa using hx]
        simpa using this
      · simp only [if_neg h2] at ih ⊢
        by_cases h3 : x.1 = k'
        · simp [getM, List.find?_cons, h3]
        · simp only [getM, List.find?_cons, show decide (x.1 = k') = false by simpa using h3]
          simpa [getM] using ih
    · split
      · rename_i h h1
        by_cases h2 : k' = k
        · subst h2; simp [getM]
        · simp [getM, List.find?_cons, h2, Ne.symm h2, h1]
      · rename_i h h1
        by_cases h2 : k' = k
        · subst h2; simp [getM]
        · simp [getM, List.find?_cons, h2, Ne.symm h2]
theorem putM_len (M : Recs) (k : ByteArray) (r : Rec) : (putM M k r).length ≤ M.length + 1 := by
  induction M with
  | nil => simp [putM]
  | cons x M ih =>
    unfold putM
    split
    · simp; omega
    · split <;> simp
theorem putM_mem {M : Recs} {k : ByteArray} {r : Rec} {x : ByteArray × Rec} (h : x ∈ putM M k r) : x = (k, r) ∨ x ∈ M := by
  induction M with
  | nil => simpa [putM] using h
  | cons y M ih =>
    unfold putM at h
    split at h
    · rcases List.mem_cons.1 h with rfl | h
      · exact .inr List.mem_cons_self
      · rcases ih h with h | h
        · exact .inl h
        · exact .inr (List.mem_cons_of_mem _ h)
    · split at h
      · rcases List.mem_cons.1 h with rfl | h
        · exact .inl rfl
        · exact .inr (List.mem_cons_of_mem _ h)
      · rcases List.mem_cons.1 h with rfl | h
        · exact .inl rfl
        · exact .inr h
theorem sGet_put (n : Nat) (M : Recs) (k k' : ByteArray) (r : Rec) : sGet n (putM M k r) k' = if k' = k then r else sGet n M k' := by
  unfold sGet
  rw [getM_put]
  split <;> simp
theorem getM_mem {M : Recs} {k : ByteArray} {r : Rec} (h : getM M k = some r) : (k, r) ∈ M := by
  simp only [getM, Option.map_eq_some_iff] at h
  obtain ⟨x, hx, rfl⟩ := h
  have h1 := List.mem_of_find?_eq_some hx
  have h2 := List.find?_some hx
  simp only [decide_eq_true_eq] at h2
  rw [← h2]; exact h1
theorem getM_mid {A C : Recs} {k : ByteArray} {r : Rec} (hA : ∀ x ∈ A, x.1 ≠ k) : getM (A ++ (k, r) :: C) k = some r := by
  unfold getM
  rw [List.find?_append, List.find?_eq_none.2 (fun x hx => by simpa using hA x hx)]
  simp
theorem getM_none {M : Recs} {k : ByteArray} (h : ∀ x ∈ M, x.1 ≠ k) : getM M k = none := by
  unfold getM
  rw [List.find?_eq_none.2 (fun x hx => by simpa using h x hx)]; rfl
theorem putM_mid {A C : Recs} {k : ByteArray} {r0 r : Rec} (hA : ∀ x ∈ A, cmpS x.1 k < 0) : putM (A ++ (k, r0) :: C) k r = A ++ (k, r) :: C := by
  induction A with
  | nil =>
    have : ¬ cmpS k k < 0 := fun h => List.lt_irrefl _ (cmpS_neg.1 h)
    simp [putM, this]
  | cons x A ih =>
    rw [List.cons_append, putM, if_pos (hA x List.mem_cons_self), ih (fun y hy => hA y (List.mem_cons_of_mem _ hy))]; rfl
theorem putM_new {A C : Recs} {k : ByteArray} {r : Rec} (hA : ∀ x ∈ A, cmpS x.1 k < 0) (hC : ∀ x ∈ C, cmpS k x.1 < 0) : putM (A ++ C) k r = A ++ (k, r) :: C := by
  induction A with
  | nil =>
    cases C with
    | nil => rfl
    | cons y C =>
      have h := cmpS_neg.1 (hC y List.mem_cons_self)
      have h1 : ¬ cmpS y.1 k < 0 := fun h2 => List.lt_irrefl _ (List.lt_trans h (cmpS_neg.1 h2))
      have h2 : ¬ y.1 = k := fun e => by rw [e] at h; exact List.lt_irrefl _ h
      simp [putM, h1, h2]
  | cons x A ih =>
    rw [List.cons_append, putM, if_pos (hA x List.mem_cons_self), ih (fun y hy => hA y (List.mem_cons_of_mem _ hy))]; rfl

/-- A store of some regions. -/
def StoreR (st n : Nat) (M : Recs) : HProp := ex fun t => ex fun X : List RecX => Sep.stars [pur (M = X.map recM ∧ (∀ x ∈ M, x.2.ok) ∧ 1 ≤ n ∧ n ≤ 3), blk st (.cells [.int .i64 n, .pointer (some ⟨t, 0, none⟩)].toArray ty_store_Store (0, 0)), TreeR btS cmpS t (X.map recI), Sep.stars (X.map recB)]
section
variable {B : World} {Γ Δ : List HProp}
instance (priority := high) own_store {st n : Nat} {M : Recs} : Sep.Own st (StoreR st n M :: Γ) (StoreR st n M) Γ := ⟨.refl _⟩
theorem s_store {st n : Nat} {M : Recs} {k : K} (h : ∀ t (X : List RecX), M = X.map recM → (∀ x ∈ M, x.2.ok) → 1 ≤ n → n ≤ 3 → HG B (blk st (.cells [.int .i64 n, .pointer (some ⟨t, 0, none⟩)].toArray ty_store_Store (0, 0)) :: TreeR btS cmpS t (X.map recI) :: Sep.stars (X.map recB) :: Γ) k) : HG B (StoreR st n M :: Γ) k :=
  s_ex fun t => s_ex fun X => s_flat <| s_pur fun ⟨h1, h2, h3, h4⟩ => h t X h1 h2 h3 h4
theorem s_mkStore {st n t : Nat} {X : List RecX} {k : K} (h2 : ∀ x ∈ X.map recM, x.2.ok) (h3 : 1 ≤ n) (h4 : n ≤ 3) (h : HG B (StoreR st n (X.map recM) :: Γ) k) : HG B (blk st (.cells [.int .i64 n, .pointer (some ⟨t, 0, none⟩)].toArray ty_store_Store (0, 0)) :: TreeR btS cmpS t (X.map recI) :: Sep.stars (X.map recB) :: Γ) k := fun w hw => by
  refine h w ?_
  have h3 : Holds B (Sep.stars [pur (X.map recM = X.map recM ∧ (∀ x ∈ X.map recM, x.2.ok) ∧ 1 ≤ n ∧ n ≤ 3), blk st (.cells [.int .i64 n, .pointer (some ⟨t, 0, none⟩)].toArray ty_store_Store (0, 0)), TreeR btS cmpS t (X.map recI), Sep.stars (X.map recB)] :: Γ) w := Holds.flat.2 (Holds.pur.2 ⟨⟨rfl, h2, h3, h4⟩, hw⟩)
  exact h3.imp fun g hg => ⟨t, X, hg⟩

theorem Default_spec {k : ByteArray} {n : Nat} {q : Int → K} (h1 : 1 ≤ n) (hn : n ≤ 1000) (hk : k.size < 1000000000000) (h : HG B Γ (q (homeOf k.toList n : Nat))) : HG B Γ (store_Default.call k n q) := fun w hw => by
  refine store_Default_ok _ _ _ _ ?_
  refine hg hw ?_
  clear hw w
  unfold store_Default
  refine s_f ?_
  obtain ⟨l, rfl⟩ := bs_of k
  rw [bs_list] at h
  have hsz : (bs l).size = l.length := rfl
  refine s_loopC (fun x : Int × Int => ∃ i s : Nat, x = ((s : Int), (i : Int)) ∧ i ≤ l.length ∧ s = homeOf (l.take i) n ∧ s < n) (fun x => l.length - x.2.toNat) ⟨0, 0, rfl, Nat.zero_le _, rfl, by omega⟩ fun k' x hx hk' => ?_
  obtain ⟨i, s, rfl, hi, hs, hsn⟩ := hx
  unfold store_Default.b1
  dsimp only
  refine s_ite (fun hb => ?_) fun hb => ?_
  · have hil : i < l.length := by simp only [decide_eq_true_eq] at hb; omega
    refine fun w hw => ⟨(l[i].toNat : Int), l[i], by omega, ?_, rfl, hg hw ?_⟩
    · show (bs l)[((i : Nat) : Int).toNat]? = _
      rw [Int.toNat_natCast]
      exact Array.getElem?_eq_getElem (xs := l.toArray) (by simpa using hil)
    have hb8 : l[i].toNat < 256 := l[i].toNat_lt
    refine s_ai ?_
    refine s_ai ?_
    refine s_cd (by omega) ?_
    refine s_ar (e' := (((s + l[i].toNat) % n : Nat) : Int)) ?_ ?_
    · rw [Int.tmod_eq_emod_of_nonneg (by omega)]; simp
    refine s_ai ?_
    refine hk' _ ⟨i + 1, (s + l[i].toNat) % n, by simp, hil, ?_, Nat.mod_lt _ (by omega)⟩ (by simp only; omega)
    rw [hs, List.take_succ_eq_append_getElem hil, homeOf, homeOf, List.foldl_append]; rfl
  · have hil : i = l.length := by simp only [decide_eq_false_iff_not] at hb; omega
    rw [hil, List.take_length] at hs
    rw [hs]
    exact h

theorem bytesClone_hg {b : Sl} {xs : List UInt8} {q : Sl → K} (hr : ∀ w, Holds B Γ w → RdB w b xs) (hl : xs.length ≤ 1000000000) (hk : ∀ s, s.a.isNone = b.a.isNone → HG B (Bytes ty_uint8 s xs :: Γ) (q s)) : HG B Γ (bytes_Clone.call b q) := fun w hw =>
  bytes_Clone_spec hw hr hl fun s w h hs => hk s hs w h
theorem storeNew_spec {n : Nat} {q : Option Addr → Int → K} (h1 : 1 ≤ n) (h3 : n ≤ 3) (h : ∀ st, HG B (StoreR st n [] :: Γ) (q (some ⟨st, 0, none⟩) 0)) : HG B Γ (store_New.call n q) := fun w hw => by
  refine store_New_ok _ _ _ ?_
  refine hg hw ?_
  clear hw w
  unfold store_New
  refine s_f ?_
  unfold store_New.s1
  refine s_f ?_
  refine btNew_spec fun t => ?_
  show HG B (TreeR btS cmpS t (([] : List RecX).map recI) :: Γ) _
  refine s_new fun st => ?_
  refine fun w hw => ?_
  refine hg (show Holds B (Sep.stars (([] : List RecX).map recB) :: _) w from Holds.flat.2 hw) ?_
  refine s_end (Δ := blk st (.cells [.int .i64 n, .pointer (some ⟨t, 0, none⟩)].toArray ty_store_Store (0, 0)) :: TreeR btS cmpS t (([] : List RecX).map recI) :: Sep.stars (([] : List RecX).map recB) :: Γ) ?_
  exact s_mkStore (by simp) h1 h3 (h st)

theorem split_rec {X : List RecX} {A C : List btS.It} {k : ByteArray} {v : Cel btS.nv} (e : X.map recI = A ++ ((k, v) : btS.It) :: C) : ∃ XA r XC, X = XA ++ (k, r) :: XC ∧ A = XA.map recI ∧ C = XC.map recI ∧ v = recC r := by
  obtain ⟨XA, X2, rfl, rfl, h2⟩ := List.map_eq_append_iff.1 e
  obtain ⟨⟨k', r⟩, XC, rfl, h3, rfl⟩ := List.map_eq_cons_iff.1 h2
  simp only [recI, Prod.mk.injEq] at h3
  obtain ⟨rfl, rfl⟩ := h3
  exact ⟨XA, r, XC, rfl, rfl, rfl, rfl⟩
theorem split_app {X : List RecX} {A C : List btS.It} (e : X.map recI = A ++ C) : ∃ XA XC, X = XA ++ XC ∧ A = XA.map recI ∧ C = XC.map recI := by
  obtain ⟨XA, X2, rfl, rfl, rfl⟩ := List.map_eq_append_iff.1 e
  exact ⟨XA, X2, rfl, rfl, rfl⟩
theorem lt_of_srt {X Y : List RecX} {k : ByteArray} {r : Rec × Sl} (h : Srt cmpS ((X ++ (k, r) :: Y).map recI)) : ∀ x ∈ X, cmpS x.1 k < 0 := fun x hx => by
  rw [List.map_append] at h
  exact (List.pairwise_append.1 h).2.2 (recI x) (List.mem_map.2 ⟨x, hx, rfl⟩) (recI (k, r)) (by simp)
theorem ne_of_lt {a b : ByteArray} (h : cmpS a b < 0) : a ≠ b := fun e => by rw [e] at h; exact List.lt_irrefl _ (cmpS_neg.1 h)

theorem sGet1 {t4 r5 : Nat} {r : Rec} {s : Sl} {z : List Value} {q : Array Value → K} (hz : z.length = 4) (hzf : z.all flatV = true) (hr : ∀ w, Holds B Γ w → RdB w s r.val) (hl : r.val.length ≤ 1000000000) (h : ∀ s', s'.a.isNone = s.a.isNone → HG B (Bytes ty_uint8 s' r.val :: Γ) (q (recA r s'))) :
    HG B (blk r5 (.cells (recL r s).toArray ty_api_Record (0, 0)) :: blk t4 (.cells z.toArray ty_api_Record (0, 0)) :: Γ) (store_Store_Get.s1 q ⟨t4, 0, none⟩ ⟨r5, 0, none⟩) := by
  unfold store_Store_Get.s1
  refine s_ld (b := r5) (x := s) ?_
  refine bytesClone_hg (fun w hw => hr w hw.tail.tail) hl fun s' hs' => ?_
  refine s_st (b := r5) ?_
  refine s_ldN (b := r5) ?_
  refine s_stN (b := t4) ?_ hz rfl rfl
  refine s_ldN (b := t4) ?_
  exact s_end (h s' hs')
/-- Get. -/
theorem storeGet_spec {st n : Nat} {M : Recs} {k : ByteArray} {q : Array Value → K} (hk : k.size < 1000000000000) (h : ∀ s, (sGet n M k).ok → HG B (Bytes ty_uint8 s (sGet n M k).val :: StoreR st n M :: Γ) (q (recA (sGet n M k) s))) : HG B (StoreR st n M :: Γ) (store_Store_Get.call (some ⟨st, 0, none⟩) k q) := fun w hw => by
  refine store_Store_Get_ok _ _ _ _ ?_
  refine hg hw ?_
  clear hw w
  refine s_store fun t X hM hok h1 h3 => ?_
  unfold store_Store_Get
  refine s_new fun t4 => ?_
  refine s_nn ?_
  refine s_ld (b := st) (x := some ⟨t, 0, none⟩) ?_
  refine s_own t ?_
  refine tree_srt fun hs => ?_
  refine btGet_spec (fun A v C e => ?_) fun A C e hA hC => ?_
  · obtain ⟨XA, r, XC, rfl, rfl, rfl, rfl⟩ := split_rec e
    have hlt := lt_of_srt hs
    have hg' : getM M k = some r.1 := by
      rw [hM, List.map_append]
      exact getM_mid fun x hx => by
        obtain ⟨y, hy, rfl⟩ := List.mem_map.1 hx
        exact ne_of_lt (hlt y hy)
    have hr : sGet n M k = r.1 := by unfold sGet; rw [hg']; rfl
    have hrok : r.1.ok := hok (k, r.1) (getM_mem hg')
    rw [hr] at h
    refine s_new fun r5 => ?_
    refine s_stN (b := r5) (l' := recL r.1 r.2) ?_
    refine s_f ?_
    refine s_end (Δ := blk r5 (.cells (recL r.1 r.2).toArray ty_api_Record (0, 0)) :: blk t4 (.cells [.bool false, Sl.val ⟨none, 0, 0⟩, .int .i64 0, .int .u64 0].toArray ty_api_Record (0, 0)) :: blk st (.cells [.int .i64 n, .pointer (some ⟨t, 0, none⟩)].toArray ty_store_Store (0, 0)) :: TreeR btS cmpS t ((XA ++ (k, r) :: XC).map recI) :: Sep.stars ((XA ++ (k, r) :: XC).map recB) :: Γ) ?_
    refine sGet1 (r := r.1) rfl rfl (fun w hw => ?_) hrok.2.2 fun s' hs' => ?_
    · have h5 : Holds B (recB (k, r) :: _) w := (Holds.flat.1 (hw.tail.tail)).perm mid_perm |>.perm List.perm_middle
      exact h5.rdC List.mem_cons_self
    · rw [hM] at h
      refine s_end (Δ := blk st (.cells [.int .i64 n, .pointer (some ⟨t, 0, none⟩)].toArray ty_store_Store (0, 0)) :: TreeR btS cmpS t ((XA ++ (k, r) :: XC).map recI) :: Sep.stars ((XA ++ (k, r) :: XC).map recB) :: Bytes ty_uint8 s' r.1.val :: Γ) ?_
      refine s_mkStore (by rw [← hM]; exact hok) h1 h3 ?_
      exact s_end (h s' hrok)
  · obtain ⟨XA, XC, rfl, rfl, rfl⟩ := split_app e
    have hg' : getM M k = none := by
      rw [hM, List.map_append]
      refine getM_none fun x hx => ?_
      rcases List.mem_append.1 hx with hx | hx
      · obtain ⟨y, hy, rfl⟩ := List.mem_map.1 hx
        exact ne_of_lt (hA (recI y) (List.mem_map.2 ⟨y, hy, rfl⟩))
      · obtain ⟨y, hy, rfl⟩ := List.mem_map.1 hx
        exact Ne.symm (ne_of_lt (hC (recI y) (List.mem_map.2 ⟨y, hy, rfl⟩)))
    have hr : sGet n M k = ⟨false, [], homeOf k.toList n, 0⟩ := by unfold sGet; rw [hg']; rfl
    rw [hr] at h
    refine s_new fun r5 => ?_
    refine s_stN (b := r5) (l' := recL ⟨false, [], 0, 0⟩ ⟨none, 0, 0⟩) ?_
    refine s_t ?_
    refine s_ld (b := st) (x := (n : Int)) ?_
    refine Default_spec h1 (by omega) hk ?_
    refine s_st (b := r5) ?_
    refine s_end (Δ := blk r5 (.cells (recL ⟨false, [], homeOf k.toList n, 0⟩ ⟨none, 0, 0⟩).toArray ty_api_Record (0, 0)) :: blk t4 (.cells [.bool false, Sl.val ⟨none, 0, 0⟩, .int .i64 0, .int .u64 0].toArray ty_api_Record (0, 0)) :: blk st (.cells [.int .i64 n, .pointer (some ⟨t, 0, none⟩)].toArray ty_store_Store (0, 0)) :: TreeR btS cmpS t ((XA ++ XC).map recI) :: Sep.stars ((XA ++ XC).map recB) :: Γ) ?_
    refine sGet1 (r := ⟨false, [], homeOf k.toList n, 0⟩) rfl rfl (fun w hw => RdC.none') (by simp) fun s' hs' => ?_
    rw [hM] at h
    refine s_end (Δ := blk st (.cells [.int .i64 n, .pointer (some ⟨t, 0, none⟩)].toArray ty_store_Store (0, 0)) :: TreeR btS cmpS t ((XA ++ XC).map recI) :: Sep.stars ((XA ++ XC).map recB) :: Bytes ty_uint8 s' [] :: Γ) ?_
    refine s_mkStore (by rw [← hM]; exact hok) h1 h3 ?_
    exact s_end (h s' ⟨by simp, by simp, by simp⟩)

end
end Go.Proofs.Yteolfpghafdmdaa
/- Plain forms of functions, and that their code comes to them (package route). -/
namespace Go.Proofs.Yteolfpghafdmdaa
open Go Go.Sep
set_option linter.unusedVariables false
set_option linter.unusedSimpArgs false
set_option maxRecDepth 100000
set_option maxHeartbeats 4000000
attribute [local irreducible] G Gp Cx Tx Ex Sx Dx Ox Ax Lx Rx Fx Bx Bj Al Do Ld LdN St StN New CallF Ar DoU Rd Rd2 Pu Cd Ite Fv CallV CallY Ans0 Ans1 Ans2 Ans3 Ans4 Ans5 Ext Dead Dr WithS Sv LdS LdNS RdS Rd2S Nn Idx IdxA IdxS Fld Bld Slc SlcS Cat All LoopK RangeF RangeJ TakeD
namespace F_IRRoute
instance at_36 : AT Try.prog 36 5 := ⟨by kernel_rfl⟩
instance at_43 : AT Try.prog 43 4 := ⟨by kernel_rfl⟩
instance at_63 : AT Try.prog 63 10 := ⟨by kernel_rfl⟩
instance cb_19 : CB Try.prog 19 := ⟨by kernel_rfl⟩
instance cb_43 : CB Try.prog 43 := ⟨by kernel_rfl⟩
instance cb_46 : CB Try.prog 46 := ⟨by kernel_rfl⟩
instance cb_47 : CB Try.prog 47 := ⟨by kernel_rfl⟩
instance ct_27 : CT Try.prog 27 := ⟨by kernel_rfl⟩
instance ct_3 : CT Try.prog 3 := ⟨by kernel_rfl⟩
instance ct_9 : CT Try.prog 9 := ⟨by kernel_rfl⟩
instance ft_101_2 : FT Try.prog 101 2 2 1 := ⟨by kernel_rfl⟩
instance ft_101_3 : FT Try.prog 101 3 3 1 := ⟨by kernel_rfl⟩
instance mx : MX Try.prog := ⟨mixed⟩
instance pl_118 : PLT Try.prog 118 [(0, 1), (1, 1), (2, 1)] := ⟨_, Try.underlying118, by kernel_rfl⟩
instance pl_63 : PLT Try.prog 63 [(0, 4), (4, 5), (9, 1)] := ⟨_, Try.underlying63, by kernel_rfl⟩
instance sl_33 : SLT Try.prog 33 9 1 := ⟨by kernel_rfl⟩
instance sl_61 : SLT Try.prog 61 118 3 := ⟨by kernel_rfl⟩
instance sz_101 : SZ Try.prog 101 4 := ⟨by kernel_rfl⟩
instance sz_63 : SZ Try.prog 63 10 := ⟨by kernel_rfl⟩
instance zt_101 : ZT Try.prog 101 (.agg #[(.bool false), (Sl.val ⟨none, 0, 0⟩), (.int .i64 0), (.int .u64 0)]) := ⟨Try.t101, by kernel_rfl, by kernel_rfl⟩
instance zt_118 : ZT Try.prog 118 (.agg #[(.string ⟨#[]⟩), (.int .i64 0), (.int .u64 0)]) := ⟨Try.t118, by kernel_rfl, by kernel_rfl⟩
instance zt_63 : ZT Try.prog 63 (.agg #[(.int .i64 0), (.int .u64 0), (.int .u64 0), (.int .i64 0), (.int .i64 0), (Sl.val ⟨none, 0, 0⟩), (Sl.val ⟨none, 0, 0⟩), (Sl.val ⟨none, 0, 0⟩), (.int .i64 0), (Sl.val ⟨none, 0, 0⟩)]) := ⟨Try.t63, by kernel_rfl, by kernel_rfl⟩
end F_IRRoute
def route_Make (s0 : (Option Addr)) (tag1 : (Array Value)) (t2 : (Array Value)) (Q : (Array Value) → K) : K :=
  New 43 tag1 fun tag4 =>
  New 36 t2 fun t5 =>
  New 63 #[(.int .i64 0), (.int .u64 0), (.int .u64 0), (.int .i64 0), (.int .i64 0), (Sl.val ⟨none, 0, 0⟩), (Sl.val ⟨none, 0, 0⟩), (Sl.val ⟨none, 0, 0⟩), (.int .i64 0), (Sl.val ⟨none, 0, 0⟩)] fun t6 =>
  Dr <| WithS fun S =>
  LdNS S tag4 4 fun t7 =>
  LdNS S t5 5 fun t8 =>
  LdNS S t5 5 fun t11 =>
  prog_Copy.call t8 fun t9 =>
  Sv S <|
  route_Marks.call s0 t11 fun t12 =>
  Sv S <|
  Bld #[(.int .i64 0), (.int .u64 0), (.int .u64 0), (.int .i64 0), (.int .i64 0), (Sl.val ⟨none, 0, 0⟩), (Sl.val ⟨none, 0, 0⟩), (Sl.val ⟨none, 0, 0⟩), (.int .i64 0), (Sl.val ⟨none, 0, 0⟩)] ([(0, 4), (4, 5), (9, 1)][·]?) [(0, (.agg t7)), (1, (.agg t9)), (2, (Sl.val t12))] fun t13 =>
  StN t6 10 t13 <|
  LdN t6 10 fun r0 =>
  Q r0
theorem route_Make_ok (s0 : (Option Addr)) (tag1 : (Array Value)) (t2 : (Array Value)) (Q : (Array Value) → K) (w : World) (h : route_Make s0 tag1 t2 Q w) : route_Make.call s0 tag1 t2 Q w := by
  have hD1 : DH 1 2 [7] (.s [3, 0, 1, 4] (.a [(2, 1, .a [(5, 1, .s [6] (.a [(7, 0, .e)]))])])) := by intros; exact ⟨⟩
  exact g_walk 14 h Try.func33
def route_Marks.b1 (Q : Sl → K)  (X1 : Sl → Int → K) (s0_1 : (Option Addr)) (t9_1 : Sl) (t10_1 : Int) (out4_1 : Sl) (t11_1 : Int) : K :=
  Ite (decide (t11_1 < t10_1))
    (Idx t9_1 t11_1 1 fun t13 =>
    Ld t13 Value.string fun t14 =>
    store_Store_Get.call s0_1 t14 fun t17 =>
    New 101 #[(.bool false), (Sl.val ⟨none, 0, 0⟩), (.int .i64 0), (.int .u64 0)] fun r7 =>
    StN r7 4 t17 <|
    Ld (r7.add 2) (Value.int .i64) fun t21 =>
    Ld (r7.add 3) (Value.int .u64) fun t23 =>
    Bld #[(.string ⟨#[]⟩), (.int .i64 0), (.int .u64 0)] (fun i => some (i * 3, 3)) [(0, (.agg #[(.string t14), (.int .i64 t21), (.int .u64 t23)]))] fun ct25 =>
    New 118 ct25 fun t25 =>
    Do Try.prog (Builtin.append_ #[61, 61] 61 #[(Sl.val out4_1), (Sl.val (Sl.mk (some t25) 1 1))]) Sl.val fun t26 =>
    Ar (IntKind.wrap .i64 (t11_1 + 1)) fun t27 =>
    X1 t26 t27)
    (Q out4_1)
def route_Marks (s0 : (Option Addr)) (t1 : (Array Value)) (Q : Sl → K) : K :=
  New 36 t1 fun t3 =>
  LdN t3 5 fun t8 =>
  prog_Keys.call t8 fun t9 =>
  LoopK (α := Sl × Int) (fun X x => route_Marks.b1 Q (fun out4_1 t11_1 => X (out4_1, t11_1)) s0 t9 (t9.n : Int) x.1 x.2) ((Sl.mk none 0 0), 0)
theorem route_Marks_ok (s0 : (Option Addr)) (t1 : (Array Value)) (Q : Sl → K) (w : World) (h : route_Marks s0 t1 Q w) : route_Marks.call s0 t1 Q w := by
  have hL2 : ∀ (s0_1 : (Option Addr)) (t9_1 : Sl) (t10_1 : Int), LH 2 (fun x : Sl × Int => [(0, (.pointer s0_1)), (4, (Sl.val x.1)), (9, (Sl.val t9_1)), (10, (.int .i64 t10_1)), (11, (.int .i64 x.2))]) (fun X x => route_Marks.b1 Q (fun out4_1 t11_1 => X (out4_1, t11_1)) s0_1 t9_1 t10_1 x.1 x.2) := by intros; exact ⟨⟩
  exact g_walk 29 h Try.func43
end Go.Proofs.Yteolfpghafdmdaa
/- Where transactions go: route.Marks, Make. -/
namespace Go.Proofs.Yteolfpghafdmdaa
open Go Go.Sep Go.Sep.Bt
set_option linter.unusedSimpArgs false
set_option linter.unusedVariables false
set_option maxRecDepth 100000

structure MkX where
  key : TX
  home : Int
  cnt : Int
deriving DecidableEq
abbrev mkL (m : MkX) : List Value := [strV m.key, .int .i64 m.home, .int .u64 m.cnt]
theorem mkL_len (m : MkX) : (mkL m).length = 3 := rfl
theorem mkL_flat (L : List MkX) : ∀ v ∈ L.flatMap mkL, flatV v = true := fun v hv => by
  obtain ⟨x, _, hx⟩ := List.mem_flatMap.1 hv
  simp only [mkL, List.mem_cons, List.not_mem_nil, or_false] at hx
  rcases hx with rfl | rfl | rfl <;> rfl
abbrev mkOf (n : Nat) (M : Recs) (k : TX) : MkX := ⟨k, (sGet n M (bs k)).home, (sGet n M (bs k)).cnt⟩
def mksOf (n : Nat) (M : Recs) (ks : List TX) : List MkX := ks.map (mkOf n M)
abbrev tgL (a b c d : Int) : List Value := [.int .i64 a, .int .u64 b, .int .u64 c, .int .i64 d]
abbrev orL (a b c d : Int) (t : TxX) (ms : Sl) : List Value := [.int .i64 a, .int .u64 b, .int .u64 c, .int .i64 d, .int .i64 t.kind, t.rs.val, t.ws.val, t.os.val, .int .i64 t.to, ms.val]
theorem small_of {t : TxX} (h : ¬ GreatP t) : t.reads.length ≤ 40 ∧ t.writes.length ≤ 40 ∧ t.ops.length ≤ 60 ∧ (∀ x ∈ t.reads ++ t.writes, x.length ≤ 200) ∧ ∀ x ∈ t.ops, x.1.key.length ≤ 200 ∧ x.1.val.length ≤ 200 := by
  simp only [GreatP, not_or, Nat.not_lt, not_exists, not_and] at h
  obtain ⟨h1, h2, h3, h4, h5, h6⟩ := h
  refine ⟨h1, h2, h3, fun x hx => ?_, fun x hx => ⟨(h6 x hx).1, (h6 x hx).2⟩⟩
  rcases List.mem_append.1 hx with hx | hx
  · exact h4 x hx
  · exact h5 x hx
section
variable {B : World} {Γ Δ : List HProp} {k : K} {st sd n : Nat} {M : Recs}
theorem s_nilS {E esz : Nat} {vs : List Value} (h : HG B (SlC E esz ⟨none, 0, 0⟩ vs :: Γ) k) (hv : vs = [] := by rfl) : HG B Γ k := fun w hw => h w (by rw [hv]; exact hw.nilSl E esz)
theorem marks_hg {t : TxX} {Q : Sl → K} (hr : ∀ w, Holds B Γ w → txRd w t) (hl : t.reads.length ≤ 1000 ∧ t.writes.length ≤ 1000) (hk : ∀ x ∈ t.reads ++ t.writes, x.length ≤ 1000)
    (h : ∀ s, HG B (SlC ty_api_Mark 3 s ((mksOf n M (keysT (t.reads ++ t.writes))).flatMap mkL) :: StoreR st n M :: Γ) (Q s)) : HG B (StoreR st n M :: Γ) (route_Marks.call (some ⟨st, 0, none⟩) (txL t).toArray Q) := fun w hw => by
  refine route_Marks_ok _ _ _ _ ?_
  refine Sep.hg hw ?_
  clear hw w
  have hks : ∀ x ∈ keysT (t.reads ++ t.writes), x.length ≤ 1000 := fun x hx => hk x (keysT_mem.1 hx)
  have hkl := keysT_len (t.reads ++ t.writes)
  rw [List.length_append] at hkl
  unfold route_Marks
  refine s_new fun t3 => ?_
  repeat refine s_nx ?_
  refine keys_hg (fun w hw => (hr w hw.drops).1) (fun w hw => (hr w hw.drops).2.1) (by omega) (by omega) fun ks => ?_
  generalize keysT (t.reads ++ t.writes) = K at hks hkl h ⊢
  refine s_nilS (E := ty_api_Mark) (esz := 3) (vs := ([] : List MkX).flatMap mkL) ?_
  refine s_cap ks fun a1 a2 a3 a4 => ?_
  rw [List.length_map, Nat.mul_one] at a1
  refine s_end (Δ := SlC ty_api_Mark 3 ⟨none, 0, 0⟩ (([] : List MkX).flatMap mkL) :: SlS ks K :: StoreR st n M :: Γ) ?_
  refine s_loop (α := Sl × Int) (ι := Nat) (fun x i => x.2 = (i : Int) ∧ i ≤ K.length) (fun x i => SlC ty_api_Mark 3 x.1 ((mksOf n M (K.take i)).flatMap mkL) :: SlS ks K :: StoreR st n M :: Γ) (fun x i => K.length - i) 0 ⟨rfl, Nat.zero_le _⟩ ?_
  rintro k' ⟨o, _⟩ i ⟨rfl, hi⟩ hk'
  simp only at hi hk' ⊢
  refine s_cap o fun b1 b2 b3 b4 => ?_
  rw [flatMap_len _ 3 mkL_len, mksOf, List.length_map, List.length_take] at b1
  unfold route_Marks.b1
  refine s_ite (fun hb => ?_) fun hb => ?_
  · have hil : i < K.length := by simp only [decide_eq_true_eq] at hb; omega
    have hge : K[i]? = some K[i] := List.getElem?_eq_getElem hil
    have hmem : K[i] ∈ K := List.getElem_mem hil
    have htk : K.take (i + 1) = K.take i ++ [K[i]] := List.take_succ_eq_append_getElem hil
    generalize K[i] = x at hge hmem htk
    have hxl := hks x hmem
    have hsz : (bs x).size = x.length := rfl
    refine s_idxS (L := K) (fun w hw => (own_rd (s := ks) hw).1) hge ?_
    refine s_own st ?_
    refine storeGet_spec (by omega) fun sl hok => ?_
    refine s_new fun r7 => ?_
    refine s_stN (b := r7) (l' := recL (sGet n M (bs x)) sl) ?_
    repeat refine s_nx ?_
    refine s_app1 (s := o) (m := 1) (us := [.string (bs x), .int .i64 (sGet n M (bs x)).home, .int .u64 (sGet n M (bs x)).cnt]) (fun o2 ho2 => ?_)
    refine s_ai ?_
    rw [show (mksOf n M (K.take i)).flatMap mkL ++ [.string (bs x), .int .i64 (sGet n M (bs x)).home, .int .u64 (sGet n M (bs x)).cnt] = (mksOf n M (K.take (i + 1))).flatMap mkL by rw [htk]; simp [mksOf]]
    exact s_end (hk' (o2, (i : Int) + 1) (i + 1) ⟨by simp, hil⟩ (by omega))
  · have hil : i = K.length := by simp only [decide_eq_false_iff_not] at hb; omega
    rw [hil, List.take_length]
    exact s_end (h o)
/-! ### stores behind moves -/
theorem make_hg {t : TxX} {a b c d : Int} {Q : Array Value → K} (hr : ∀ w, Holds B Γ w → txRd w t) (hl : t.reads.length ≤ 1000 ∧ t.writes.length ≤ 1000 ∧ t.ops.length ≤ 1000 ∧ ∀ x ∈ t.ops, x.1.val.length ≤ 1000000) (hk : ∀ x ∈ t.reads ++ t.writes, x.length ≤ 1000)
    (h : ∀ t' ms, TxIs t' t → HG B (SlC ty_api_Mark 3 ms ((mksOf n M (keysT (t.reads ++ t.writes))).flatMap mkL) :: StoreR st n M :: txC t' Γ) (Q (orL a b c d t' ms).toArray)) :
    HG B (StoreR st n M :: Γ) (route_Make.call (some ⟨st, 0, none⟩) (tgL a b c d).toArray (txL t).toArray Q) := fun w hw => by
  refine route_Make_ok _ _ _ _ _ ?_
  refine Sep.hg hw ?_
  clear hw w
  unfold route_Make
  refine s_new fun tag4 => ?_
  refine s_new fun t5 => ?_
  refine s_new fun t6 => ?_
  repeat refine s_nx ?_
  refine copy_hg (t := t) (fun w hw => hr w hw.drops) hl fun t' ht' => ?_
  repeat refine s_nx ?_
  refine s_own st ?_
  refine marks_hg (t := t) (fun w hw => hr w hw.drops) ⟨hl.1, hl.2.1⟩ hk fun ms => ?_
  repeat refine s_nx ?_
  exact s_end (h t' ms ht')
end
end Go.Proofs.Yteolfpghafdmdaa
/- Tags. -/
namespace Go.Proofs.Yteolfpghafdmdaa
open Go Go.Sep
set_option linter.unusedSimpArgs false
set_option linter.unusedVariables false
structure TagM where
  node : Int
  epoch : Int
  seq : Int
  tr : Int
deriving DecidableEq
abbrev tagF (t : TagM) : List Value := [.int .i64 t.node, .int .u64 t.epoch, .int .u64 t.seq, .int .i64 t.tr]
theorem tagF_len (c : TagM) : (tagF c).length = 4 := rfl
theorem tagF_inj {a b : TagM} : tagF a = tagF b ↔ a = b := by
  cases a; cases b; simp [tagF]
abbrev tagK : List Ck := [.int .i64, .int .u64, .int .u64, .int .i64]
end Go.Proofs.Yteolfpghafdmdaa
/- Plain forms of functions, and that their code comes to them (package sched). -/
namespace Go.Proofs.Yteolfpghafdmdaa
open Go Go.Sep
set_option linter.unusedVariables false
set_option linter.unusedSimpArgs false
set_option maxRecDepth 100000
set_option maxHeartbeats 4000000
attribute [local irreducible] G Gp Cx Tx Ex Sx Dx Ox Ax Lx Rx Fx Bx Bj Al Do Ld LdN St StN New CallF Ar DoU Rd Rd2 Pu Cd Ite Fv CallV CallY Ans0 Ans1 Ans2 Ans3 Ans4 Ans5 Ext Dead Dr WithS Sv LdS LdNS RdS Rd2S Nn Idx IdxA IdxS Fld Bld Slc SlcS Cat All LoopK RangeF RangeJ TakeD
namespace F_IRSched
instance at_36 : AT Try.prog 36 5 := ⟨by kernel_rfl⟩
instance at_43 : AT Try.prog 43 4 := ⟨by kernel_rfl⟩
instance at_63 : AT Try.prog 63 10 := ⟨by kernel_rfl⟩
instance cb_15 : CB Try.prog 15 := ⟨by kernel_rfl⟩
instance cb_16 : CB Try.prog 16 := ⟨by kernel_rfl⟩
instance cb_17 : CB Try.prog 17 := ⟨by kernel_rfl⟩
instance cb_33 : CB Try.prog 33 := ⟨by kernel_rfl⟩
instance ct_70 : CT Try.prog 70 := ⟨by kernel_rfl⟩
instance ct_75 : CT Try.prog 75 := ⟨by kernel_rfl⟩
instance ft_78_0 : FT Try.prog 78 0 0 1 := ⟨by kernel_rfl⟩
instance ft_78_2 : FT Try.prog 78 2 2 1 := ⟨by kernel_rfl⟩
instance mx : MX Try.prog := ⟨mixed⟩
instance pl_78 : PLT Try.prog 78 [(0, 1), (1, 1), (2, 1), (3, 1), (4, 1)] := ⟨_, Try.underlying78, by kernel_rfl⟩
instance sl_75 : SLT Try.prog 75 79 1 := ⟨by kernel_rfl⟩
instance sz_63 : SZ Try.prog 63 10 := ⟨by kernel_rfl⟩
instance sz_75 : SZ Try.prog 75 1 := ⟨by kernel_rfl⟩
instance zt_63 : ZT Try.prog 63 (.agg #[(.int .i64 0), (.int .u64 0), (.int .u64 0), (.int .i64 0), (.int .i64 0), (Sl.val ⟨none, 0, 0⟩), (Sl.val ⟨none, 0, 0⟩), (Sl.val ⟨none, 0, 0⟩), (.int .i64 0), (Sl.val ⟨none, 0, 0⟩)]) := ⟨Try.t63, by kernel_rfl, by kernel_rfl⟩
instance zt_78 : ZT Try.prog 78 (.agg #[(.pointer none), (.pointer none), (Sl.val ⟨none, 0, 0⟩), (Sl.val ⟨none, 0, 0⟩), (Sl.val ⟨none, 0, 0⟩)]) := ⟨Try.t78, by kernel_rfl, by kernel_rfl⟩
instance zt_79 : ZT Try.prog 79 (.pointer none) := ⟨Try.t79, by kernel_rfl, by kernel_rfl⟩
end F_IRSched
def sched_New.b2 (Q : (Option Addr) → Int → K)  (X2 : Int → K) (s6_2 : (Option Addr)) (t22_2 : Int) (t23_2 : Int) : K :=
  Ite (decide (t23_2 < t22_2))
    (Dr <| WithS fun S =>
    Nn s6_2 fun t28 =>
    LdS S (t28.add 2) Sl.val fun t30 =>
    filter_Region.call t23_2 fun t32 =>
    Sv S <|
    New 79 #[(.pointer t32)] fun t33 =>
    Sv S <|
    Do Try.prog (Builtin.append_ #[75, 75] 75 #[(Sl.val t30), (Sl.val (Sl.mk (some t33) 1 1))]) Sl.val fun t34 =>
    St (t28.add 2) (Sl.val t34) <|
    Ar (IntKind.wrap .i64 (t23_2 + 1)) fun t37 =>
    X2 t37)
    (Q s6_2 0)
def sched_New.s1 (Q : (Option Addr) → Int → K)  (regions0_1 : Int) (s6_1 : (Option Addr)) : K :=
  LoopK (α := Int) (fun X x => sched_New.b2 Q X s6_1 regions0_1 x) 0
def sched_New (regions0 : Int) (Q : (Option Addr) → Int → K) : K :=
  store_New.call regions0 fun t10x0 t10x1 =>
  Ite (decide (t10x1 ≠ 0))
    (Q none t10x1)
    (Dr <|
    All [
      (locks_New.call  fun t17 =>
      Do Try.prog (Instr.makeSlice 58 (.int .i64 regions0) (.int .i64 regions0)) Sl.val fun t19 =>
      New 78 #[(.pointer t10x0), (.pointer t17), (Sl.val ⟨none, 0, 0⟩), (Sl.val t19), (Sl.val ⟨none, 0, 0⟩)] fun t21 =>
      sched_New.s1 Q regions0 (some t21)),
      (Do Try.prog (Instr.makeSlice 58 (.int .i64 regions0) (.int .i64 regions0)) Sl.val fun t19 =>
      locks_New.call  fun t17 =>
      New 78 #[(.pointer t10x0), (.pointer t17), (Sl.val ⟨none, 0, 0⟩), (Sl.val t19), (Sl.val ⟨none, 0, 0⟩)] fun t21 =>
      sched_New.s1 Q regions0 (some t21))
      ])
theorem sched_New_ok (regions0 : Int) (Q : (Option Addr) → Int → K) (w : World) (h : sched_New regions0 Q w) : sched_New.call regions0 Q w := by
  have hD8 : DH 8 2 [8, 11] (.s [0, 1, 2, 3, 5, 4] (.a [(6, 1, .a [(7, 1, .a [(8, 0, .s [9, 10] (.a [(11, 0, .e)]))])])])) := by intros; exact ⟨⟩
  have hL6 : ∀ (s6_2 : (Option Addr)) (t22_2 : Int), LH 6 (fun x : Int => [(6, (.pointer s6_2)), (22, (.int .i64 t22_2)), (23, (.int .i64 x))]) (fun X x => sched_New.b2 Q X s6_2 t22_2 x) := by intros; exact ⟨⟩
  have hJ5 : JH 5 fun D => ∃ (regions0_1 : Int), D [(0, (.int .i64 regions0_1))] (fun C => ∀ (s6_1 : (Option Addr)), C [(0, (.int .i64 regions0_1)), (6, (.pointer s6_1))] (sched_New.s1 Q regions0_1 s6_1)) := by intros; exact ⟨fun _ ⟨_, h⟩ => ⟨_, _, h⟩⟩
  have hD4 : DH 4 0 [] (.s [0, 2] (.a [(1, 0, .a [(3, 0, .s [4] (.a [(5, 0, .s [6] .e)]))]), (3, 0, .a [(1, 0, .s [4] (.a [(5, 0, .s [6] .e)]))])])) := by intros; exact ⟨⟩
  exact g_walk 39 h Try.func8
def sched_Sched_Make (s0 : (Option Addr)) (tag1 : (Array Value)) (t2 : (Array Value)) (Q : (Array Value) → K) : K :=
  New 43 tag1 fun tag4 =>
  New 36 t2 fun t5 =>
  New 63 #[(.int .i64 0), (.int .u64 0), (.int .u64 0), (.int .i64 0), (.int .i64 0), (Sl.val ⟨none, 0, 0⟩), (Sl.val ⟨none, 0, 0⟩), (Sl.val ⟨none, 0, 0⟩), (.int .i64 0), (Sl.val ⟨none, 0, 0⟩)] fun t6 =>
  Dr <|
  Nn s0 fun t8 =>
  Ld t8 Value.pointer fun t10 =>
  LdN tag4 4 fun t11 =>
  LdN t5 5 fun t12 =>
  route_Make.call t10 t11 t12 fun t13 =>
  StN t6 10 t13 <|
  LdN t6 10 fun r0 =>
  Q r0
theorem sched_Sched_Make_ok (s0 : (Option Addr)) (tag1 : (Array Value)) (t2 : (Array Value)) (Q : (Array Value) → K) (w : World) (h : sched_Sched_Make s0 tag1 t2 Q w) : sched_Sched_Make.call s0 tag1 t2 Q w := by
  have hD1 : DH 1 1 [6, 7] (.s [0, 1, 2, 3, 4, 5] (.a [(6, 0, .a [(7, 0, .e)])])) := by intros; exact ⟨⟩
  exact g_walk 14 h Try.func20
end Go.Proofs.Yteolfpghafdmdaa
/- Plain forms of functions, and that their code comes to them (package filter). -/
namespace Go.Proofs.Yteolfpghafdmdaa
open Go Go.Sep
set_option linter.unusedVariables false
set_option linter.unusedSimpArgs false
set_option maxRecDepth 100000
set_option maxHeartbeats 4000000
attribute [local irreducible] G Gp Cx Tx Ex Sx Dx Ox Ax Lx Rx Fx Bx Bj Al Do Ld LdN St StN New CallF Ar DoU Rd Rd2 Pu Cd Ite Fv CallV CallY Ans0 Ans1 Ans2 Ans3 Ans4 Ans5 Ext Dead Dr WithS Sv LdS LdNS RdS Rd2S Nn Idx IdxA IdxS Fld Bld Slc SlcS Cat All LoopK RangeF RangeJ TakeD
namespace F_IRFilter
instance mx : MX Try.prog := ⟨mixed⟩
instance pl_109 : PLT Try.prog 109 [(0, 1), (1, 1), (2, 1)] := ⟨_, Try.underlying109, by kernel_rfl⟩
instance zt_109 : ZT Try.prog 109 (.agg #[(.int .i64 0), (.int .i64 0), (.map none)]) := ⟨Try.t109, by kernel_rfl, by kernel_rfl⟩
end F_IRFilter
def filter_Region (region0 : Int) (Q : (Option Addr) → K) : K :=
  Do Try.prog (Instr.makeMap 105 none) Value.map fun t4 =>
  New 109 #[(.int .i64 region0), (.int .i64 (-1)), (.map t4)] fun t6 =>
  Q (some t6)
theorem filter_Region_ok (region0 : Int) (Q : (Option Addr) → K) (w : World) (h : filter_Region region0 Q w) : filter_Region.call region0 Q w := by
  exact g_walk 7 h Try.func17
end Go.Proofs.Yteolfpghafdmdaa
/- Plain forms of functions, and that their code comes to them (package locks). -/
namespace Go.Proofs.Yteolfpghafdmdaa
open Go Go.Sep
set_option linter.unusedVariables false
set_option linter.unusedSimpArgs false
set_option maxRecDepth 100000
set_option maxHeartbeats 4000000
attribute [local irreducible] G Gp Cx Tx Ex Sx Dx Ox Ax Lx Rx Fx Bx Bj Al Do Ld LdN St StN New CallF Ar DoU Rd Rd2 Pu Cd Ite Fv CallV CallY Ans0 Ans1 Ans2 Ans3 Ans4 Ans5 Ext Dead Dr WithS Sv LdS LdNS RdS Rd2S Nn Idx IdxA IdxS Fld Bld Slc SlcS Cat All LoopK RangeF RangeJ TakeD
namespace F_IRLocks
instance mx : MX Try.prog := ⟨mixed⟩
instance pl_107 : PLT Try.prog 107 [(0, 1), (1, 1)] := ⟨_, Try.underlying107, by kernel_rfl⟩
instance zt_107 : ZT Try.prog 107 (.agg #[(.map none), (.map none)]) := ⟨Try.t107, by kernel_rfl, by kernel_rfl⟩
end F_IRLocks
def locks_New  (Q : (Option Addr) → K) : K :=
  Do Try.prog (Instr.makeMap 104 none) Value.map fun t1 =>
  Do Try.prog (Instr.makeMap 105 none) Value.map fun t2 =>
  New 107 #[(.map t1), (.map t2)] fun t4 =>
  Q (some t4)
theorem locks_New_ok  (Q : (Option Addr) → K) (w : World) (h : locks_New  Q w) : locks_New.call  Q w := by
  exact g_walk 5 h Try.func16
end Go.Proofs.Yteolfpghafdmdaa
/- sched.New, as far as a store; sched.Make. -/
namespace Go.Proofs.Yteolfpghafdmdaa
open Go Go.Sep Go.Sep.Bt
set_option linter.unusedSimpArgs false
set_option linter.unusedVariables false
set_option maxRecDepth 100000

/-- A sched, as far as its store. -/
def SchR (sd st : Nat) : HProp := ex fun l => ex fun a : Sl => ex fun b : Sl => ex fun c : Sl => blk sd (.cells [.pointer (some ⟨st, 0, none⟩), .pointer l, a.val, b.val, c.val].toArray ty_sched_Sched (0, 0))
section
variable {B : World} {Γ Δ : List HProp} {k : K} {sd st n : Nat} {M : Recs}
instance (priority := high) own_schR : Sep.Own sd (SchR sd st :: Γ) (SchR sd st) Γ := ⟨.refl _⟩
theorem s_schR (h : ∀ l (a b c : Sl), HG B (blk sd (.cells [.pointer (some ⟨st, 0, none⟩), .pointer l, a.val, b.val, c.val].toArray ty_sched_Sched (0, 0)) :: Γ) k) : HG B (SchR sd st :: Γ) k :=
  s_ex fun l => s_ex fun a => s_ex fun b => s_ex fun c => h l a b c
theorem s_mkSchR {l : Option Addr} {a b c : Sl} (h : HG B (SchR sd st :: Γ) k) : HG B (blk sd (.cells [.pointer (some ⟨st, 0, none⟩), .pointer l, a.val, b.val, c.val].toArray ty_sched_Sched (0, 0)) :: Γ) k := fun w hw =>
  h w (hw.imp fun g hg => ⟨l, a, b, c, hg⟩)
theorem s_mkRow {T E : TypeId} {z : Value} {by' m : Nat} {Q : Sl → K} (hT : Try.prog.underlying T = some (.slice E)) (hE : (Try.prog.info? E).map (fun i => (i.zero, i.size, i.bytes)) = some (some z, 1, by')) (hz : z.cells = #[z]) (hb : by' * m ≤ 281474976710656) (hm : m ≤ 9223372036854775807)
    (h : ∀ s, s.n = m → HG B (SlC E 1 s (List.replicate m z) :: Γ) (Q s)) : HG B Γ (Do Try.prog (Instr.makeSlice T (.int .i64 (m : Int)) (.int .i64 (m : Int))) Sl.val Q) := fun w hw => by
  have h1 := Go.run_make_row' (P := Try.prog) T E z by' hT hE hz .i64 .i64 m hb hm w
  refine ⟨⟨some ⟨w.heap.size, 0, none⟩, m, m⟩, _, h1, h ⟨some ⟨w.heap.size, 0, none⟩, m, m⟩ rfl _ ?_⟩
  have h2 := hw.alloc (.cells (madeCells #[z] m) E (0, 0))
  exact h2.imp (blk_SlC (by
    apply List.ext_getElem?
    intro i
    by_cases hi : i < m <;> simp [madeCells, List.getElem?_range, List.getElem?_replicate, hi, Nat.mod_one]) (by simp))
theorem locksNew0_hg {Q : Option Addr → K} (h : ∀ l, HG B Γ (Q (some ⟨l, 0, none⟩))) : HG B Γ (locks_New.call Q) := fun w hw => by
  refine locks_New_ok _ _ ?_
  refine hg hw ?_
  clear hw w
  unfold locks_New
  refine s_mkMap (enc := fun x : TX => strV x) (cV := fun x : Option Addr => Value.pointer x) fun gm => ?_
  refine s_mkMap (enc := kyS tagF) (cV := Value.int .i64) fun db => ?_
  refine s_new fun l => ?_
  exact s_end (h l)
theorem schedNew_hg {Q : Option Addr → Int → K} (h1 : 1 ≤ n) (h3 : n ≤ 3) (h : ∀ sd st, HG B (SchR sd st :: StoreR st n [] :: Γ) (Q (some ⟨sd, 0, none⟩) 0)) : HG B Γ (sched_New.call (n : Int) Q) := fun w hw => by
  refine sched_New_ok _ _ _ ?_
  refine hg hw ?_
  clear hw w
  unfold sched_New
  refine storeNew_spec h1 h3 fun st => ?_
  refine s_f ?_
  refine s_dr ?_
  have rest : ∀ (l : Option Addr) (fd : Sl), HG B (StoreR st n [] :: Γ) (New ty_sched_Sched [.pointer (some ⟨st, 0, none⟩), .pointer l, Sl.val ⟨none, 0, 0⟩, fd.val, Sl.val ⟨none, 0, 0⟩].toArray fun t21 => sched_New.s1 Q (n : Int) (some t21)) := fun l fd => by
    refine s_new fun sd => ?_
    unfold sched_New.s1
    refine fun w hw => hg (show Holds B (SlC ty_p_filter_Filter 1 ⟨none, 0, 0⟩ (([] : List (Option Addr)).map Value.pointer) :: _) w from hw.nilSl _ _) ?_
    clear hw w
    refine s_end (Δ := blk sd (.cells [.pointer (some ⟨st, 0, none⟩), .pointer l, Sl.val ⟨none, 0, 0⟩, fd.val, Sl.val ⟨none, 0, 0⟩].toArray ty_sched_Sched (0, 0)) :: SlC ty_p_filter_Filter 1 ⟨none, 0, 0⟩ (([] : List (Option Addr)).map Value.pointer) :: StoreR st n [] :: Γ) ?_
    refine s_loop (α := Int) (ι := Nat × Sl × List (Option Addr)) (fun x i => x = (i.1 : Int) ∧ i.1 ≤ n ∧ i.2.2.length ≤ i.1) (fun x i => blk sd (.cells [.pointer (some ⟨st, 0, none⟩), .pointer l, i.2.1.val, fd.val, Sl.val ⟨none, 0, 0⟩].toArray ty_sched_Sched (0, 0)) :: SlC ty_p_filter_Filter 1 i.2.1 (i.2.2.map Value.pointer) :: StoreR st n [] :: Γ) (fun x i => n - i.1) (0, ⟨none, 0, 0⟩, []) ⟨rfl, Nat.zero_le _, Nat.le_refl _⟩ ?_
    rintro k' _ ⟨i, fs, F⟩ ⟨rfl, hi, hF⟩ hk'
    simp only at hi hF hk' ⊢
    unfold sched_New.b2
    refine s_ite (fun hb => ?_) fun hb => ?_
    · have hin : i < n := by simp only [decide_eq_true_eq] at hb; omega
      refine s_cap fs fun a1 a2 a3 a4 => ?_
      rw [List.length_map, Nat.mul_one] at a1
      repeat refine s_nx ?_
      refine fun w hw => filter_Region_ok _ _ _ ?_
      refine hg hw ?_
      clear hw w
      unfold filter_Region
      refine s_mkMap (enc := kyS tagF) (cV := Value.int .i64) fun sm => ?_
      refine s_new fun fp => ?_
      repeat refine s_nx ?_
      refine s_new fun t33 => ?_
      repeat refine s_nx ?_
      refine s_append (s := fs) (us := [.pointer (some ⟨fp, 0, none⟩)]) (blk_rd rfl) (by intro v hv; rw [List.mem_singleton.1 hv]; rfl) (by simp only; omega) fun fs2 hfs2 => ?_
      repeat refine s_nx ?_
      refine s_ai ?_
      rw [show F.map Value.pointer ++ [.pointer (some ⟨fp, 0, none⟩)] = (F ++ [some (⟨fp, 0, none⟩ : Addr)]).map Value.pointer by simp]
      exact s_end (hk' ((i : Int) + 1) (i + 1, fs2, F ++ [some ⟨fp, 0, none⟩]) ⟨by simp, hin, by simp; omega⟩ (by simp only; omega))
    · refine s_mkSchR ?_
      exact s_end (h sd st)
  have mk : ∀ {Δ : List HProp} {Q' : Sl → K}, (∀ s, HG B (SlC ty_int 1 s (List.replicate n (.int .i64 0)) :: Δ) (Q' s)) → HG B Δ (Do Try.prog (Instr.makeSlice ty_s_int (.int .i64 (n : Int)) (.int .i64 (n : Int))) Sl.val Q') := fun {Δ Q'} hq =>
    s_mkRow (by' := 8) (z := .int .i64 0) (by kernel_rfl) (by kernel_rfl) rfl (by omega) (by omega) fun s _ => hq s
  refine s_all2 ?_ ?_
  · refine locksNew0_hg fun l => ?_
    refine mk fun fd => ?_
    exact s_end (rest _ fd)
  · refine mk fun fd => ?_
    refine locksNew0_hg fun l => ?_
    exact s_end (rest _ fd)
theorem schMake_hg {t : TxX} {a b c d : Int} {Q : Array Value → K} (hr : ∀ w, Holds B Γ w → txRd w t) (hl : t.reads.length ≤ 1000 ∧ t.writes.length ≤ 1000 ∧ t.ops.length ≤ 1000 ∧ ∀ x ∈ t.ops, x.1.val.length ≤ 1000000) (hk : ∀ x ∈ t.reads ++ t.writes, x.length ≤ 1000)
    (h : ∀ t' ms, TxIs t' t → HG B (SlC ty_api_Mark 3 ms ((mksOf n M (keysT (t.reads ++ t.writes))).flatMap mkL) :: SchR sd st :: StoreR st n M :: txC t' Γ) (Q (orL a b c d t' ms).toArray)) :
    HG B (SchR sd st :: StoreR st n M :: Γ) (sched_Sched_Make.call (some ⟨sd, 0, none⟩) (tgL a b c d).toArray (txL t).toArray Q) := fun w hw => by
  refine sched_Sched_Make_ok _ _ _ _ _ ?_
  refine Sep.hg hw ?_
  clear hw w
  refine s_schR fun l x y z => ?_
  unfold sched_Sched_Make
  refine s_new fun tag4 => ?_
  refine s_new fun t5 => ?_
  refine s_new fun t6 => ?_
  repeat refine s_nx ?_
  refine s_own st ?_
  refine make_hg (t := t) (fun w hw => hr w hw.drops) hl hk fun t' ms ht' => ?_
  repeat refine s_nx ?_
  refine s_own sd ?_
  refine s_mkSchR ?_
  exact s_end (h t' ms ht')
end
end Go.Proofs.Yteolfpghafdmdaa
