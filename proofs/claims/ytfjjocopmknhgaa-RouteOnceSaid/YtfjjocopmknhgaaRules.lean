/- Rules: how the words of the plain form are met by what is owned of the heap. Holds for every program. -/
import Derived.Test.YtfjjocopmknhgaaSep
import Derived.Test.YtfjjocopmknhgaaEffs
namespace Go.Sep
open Go Go.RowKit
set_option linter.unusedSimpArgs false
set_option linter.unusedVariables false

theorem add_mk (b o n : Nat) : (⟨b, o, none⟩ : Addr).add n = ⟨b, o + n, none⟩ := by
  unfold Addr.add; split
  · rename_i h; subst h; rfl
  · rfl
theorem add_add' (a : Addr) (h : a.spot = none) (m n : Nat) : (a.add m).add n = a.add (m + n) := by
  obtain ⟨b, o, s⟩ := a; simp only at h; subst h; simp [add_mk, Nat.add_assoc]

section
variable {B w : World} {Γ : List HProp}

/-! ### cells -/
theorem cell_block {b off : Nat} {cs : Array Value} {T : TypeId} {fz : Nat × Nat} {v : Value} (h : w.heap[b]? = some (.cells cs T fz)) (hv : cs[off]? = some v) : w.cell? ⟨b, off, none⟩ = some v := by
  simp [World.cell?, h, hv]
theorem frozen_block {b off : Nat} {cs : Array Value} {T : TypeId} {fz : Nat × Nat} (h : w.heap[b]? = some (.cells cs T fz)) (hf : ¬ (fz.1 ≤ off ∧ off < fz.2)) : w.frozen? ⟨b, off, none⟩ = false := by
  obtain ⟨lo, hi⟩ := fz
  simp [World.frozen?, h]
  simp at hf
  exact hf
theorem Holds.mem {A : HProp} (h : Holds B Γ w) (hm : A ∈ Γ) : ∃ Δ, Holds B (A :: Δ) w := by
  obtain ⟨i, hi⟩ := List.mem_iff_getElem?.1 hm
  exact ⟨_, h.pick i hi⟩
theorem Holds.blockOf {b : Nat} {o : Obj} (h : Holds B Γ w) (hm : blk b o ∈ Γ) : w.heap[b]? = some o := by
  obtain ⟨Δ, h'⟩ := h.mem hm; exact h'.block
theorem Holds.oldCell (h : Holds B Γ w) {a : Addr} {v : Value} (hc : B.cell? a = some v) : w.cell? a = some v := by
  unfold World.cell? at hc ⊢
  cases hb : B.heap[a.block]? with
  | none => simp [hb] at hc
  | some o => rw [h.old hb]; simpa [hb] using hc

theorem r_new {T : TypeId} {cs : Array Value} {k : Addr → K} (h : Holds B Γ w) (hk : ∀ b w', Holds B (blk b (.cells cs T (0, 0)) :: Γ) w' → k ⟨b, 0, none⟩ w') : New T cs k w :=
  ⟨_, _, rfl, rfl, hk _ _ (h.alloc _)⟩
theorem r_nn {p : Option Addr} {a : Addr} {k : Addr → K} (hp : p = some a) (hk : k a w) : Nn p k w := ⟨a, hp, hk⟩
theorem r_dr {k : K} (h : Holds B Γ w) (hk : ∀ w', Holds B Γ w' → k w') : Dr k w := ⟨_, rfl, hk _ (h.drew _)⟩
theorem r_withS {k : (World → Prop) → K} (h : Holds B Γ w) (hk : k (Holds B Γ) w) : WithS k w := ⟨Holds B Γ, h, hk⟩
theorem r_sv {S : World → Prop} {k : K} (h : S w) (hk : k w) : Sv S k w := ⟨h, hk⟩
theorem r_ite {b : Bool} {x y : K} (h1 : b = true → x w) (h2 : b = false → y w) : Ite b x y w := ⟨h1, h2⟩
theorem r_ite_t {b : Bool} {x y : K} (hb : b = true) (h1 : x w) : Ite b x y w := ⟨fun _ => h1, fun h => absurd (hb.symm.trans h) (by simp)⟩
theorem r_ite_f {b : Bool} {x y : K} (hb : b = false) (h1 : y w) : Ite b x y w := ⟨fun h => absurd (hb.symm.trans h) (by simp), fun _ => h1⟩
theorem r_ar {e e' : Int} {k : Int → K} (he : e = e') (hk : k e' w) : Ar e k w := ⟨e', he.symm, hk⟩
theorem r_cd {p : Prop} {k : K} (hp : p) (hk : k w) : Cd p k w := ⟨hp, hk⟩

theorem wrap64 {e : Int} (h0 : -9223372036854775808 ≤ e) (h1 : e ≤ 9223372036854775807) : IntKind.wrap .i64 e = e := by
  unfold IntKind.wrap; simp only [IntKind.bits, IntKind.signed, Bool.true_and, decide_eq_true_eq, Nat.reduceSub, Int.reducePow, ge_iff_le]; split <;> omega
theorem wrapU64 {e : Int} (h0 : 0 ≤ e) (h1 : e ≤ 18446744073709551615) : IntKind.wrap .u64 e = e := by
  unfold IntKind.wrap; simp only [IntKind.bits, IntKind.signed, Bool.false_and, Bool.false_eq_true, if_false]; omega
theorem wrapU32 {e : Int} (h0 : 0 ≤ e) (h1 : e ≤ 4294967295) : IntKind.wrap .u32 e = e := by
  unfold IntKind.wrap; simp only [IntKind.bits, IntKind.signed, Bool.false_and, Bool.false_eq_true, if_false]; omega
theorem wrapU8 {e : Int} (h0 : 0 ≤ e) (h1 : e ≤ 255) : IntKind.wrap .u8 e = e := by
  unfold IntKind.wrap; simp only [IntKind.bits, IntKind.signed, Bool.false_and, Bool.false_eq_true, if_false]; omega
theorem r_add64 {e : Int} {k : Int → K} (h0 : -9223372036854775808 ≤ e) (h1 : e ≤ 9223372036854775807) (hk : k e w) : Ar (IntKind.wrap .i64 e) k w := r_ar (wrap64 h0 h1) hk

/-- A cell of an own block. -/
theorem r_ld {α : Type} {a : Addr} {b off : Nat} {cs : Array Value} {T : TypeId} {fz : Nat × Nat} {c : α → Value} {x : α} {k : α → K} (h : Holds B Γ w) (ha : a = ⟨b, off, none⟩) (hm : blk b (.cells cs T fz) ∈ Γ)
    (hv : cs[off]? = some (c x)) (hk : k x w) : Ld a c k w := ⟨x, by subst ha; exact cell_block (h.blockOf hm) hv, hk⟩
theorem r_ld_of {α : Type} {a : Addr} {c : α → Value} {x : α} {k : α → K} (hc : w.cell? a = some (c x)) (hk : k x w) : Ld a c k w := ⟨x, hc, hk⟩
theorem rdN_block {b off : Nat} {cs cs' : Array Value} {T : TypeId} {fz : Nat × Nat} (h : w.heap[b]? = some (.cells cs T fz)) (hc : ∀ i, i < cs'.size → cs[off + i]? = cs'[i]?) : RdN w ⟨b, off, none⟩ cs' := fun i hi => by
  rw [add_mk]
  rw [← hc i hi]
  have : cs[off + i]? = some cs'[i] := by rw [hc i hi]; simp [hi]
  rw [cell_block h this, this]
theorem r_ldN {a : Addr} {b n : Nat} {cs : Array Value} {T : TypeId} {fz : Nat × Nat} {k : Array Value → K} (h : Holds B Γ w) (ha : a = ⟨b, 0, none⟩) (hm : blk b (.cells cs T fz) ∈ Γ) (hn : cs.size = n) (hk : k cs w) : LdN a n k w :=
  ⟨cs, hn, by subst ha; exact rdN_block (h.blockOf hm) (fun i _ => by simp), hk⟩
/-- Cells in the middle of an own block. -/
theorem r_ldNm {a : Addr} {b off n : Nat} {cs : Array Value} {T : TypeId} {fz : Nat × Nat} {k : Array Value → K} (cs' : Array Value) (h : Holds B Γ w) (ha : a = ⟨b, off, none⟩) (hm : blk b (.cells cs T fz) ∈ Γ) (hn : cs'.size = n)
    (hc : ∀ i, i < cs'.size → cs[off + i]? = cs'[i]?) (hk : k cs' w) : LdN a n k w :=
  ⟨cs', hn, by subst ha; exact rdN_block (h.blockOf hm) hc, hk⟩
theorem r_ldN_of {a : Addr} {n : Nat} {cs : Array Value} {k : Array Value → K} (hn : cs.size = n) (hc : RdN w a cs) (hk : k cs w) : LdN a n k w := ⟨cs, hn, hc, hk⟩
theorem r_ldS {α : Type} {a : Addr} {b off : Nat} {cs : Array Value} {T : TypeId} {fz : Nat × Nat} {c : α → Value} {x : α} {k : α → K} (ha : a = ⟨b, off, none⟩) (hm : blk b (.cells cs T fz) ∈ Γ)
    (hv : cs[off]? = some (c x)) (hk : k x w) : LdS (Holds B Γ) a c k w := ⟨x, fun w' h => by subst ha; exact cell_block (h.blockOf hm) hv, hk⟩
theorem r_ldNS {a : Addr} {b n : Nat} {cs : Array Value} {T : TypeId} {fz : Nat × Nat} {k : Array Value → K} (ha : a = ⟨b, 0, none⟩) (hm : blk b (.cells cs T fz) ∈ Γ) (hn : cs.size = n) (hk : k cs w) : LdNS (Holds B Γ) a n k w :=
  ⟨cs, hn, fun w' h => by subst ha; exact rdN_block (h.blockOf hm) (fun i _ => by simp), hk⟩
theorem r_ldS_of {α : Type} {a : Addr} {c : α → Value} {x : α} {k : α → K} (hc : ∀ w, Holds B Γ w → w.cell? a = some (c x)) (hk : k x w) : LdS (Holds B Γ) a c k w := ⟨x, hc, hk⟩
theorem r_ldNS_of {a : Addr} {n : Nat} {cs : Array Value} {k : Array Value → K} (hn : cs.size = n) (hc : ∀ w, Holds B Γ w → RdN w a cs) (hk : k cs w) : LdNS (Holds B Γ) a n k w := ⟨cs, hn, hc, hk⟩

theorem setCell_heap {b off : Nat} {cs : Array Value} {T : TypeId} {fz : Nat × Nat} {v : Value} (h : w.heap[b]? = some (.cells cs T fz)) :
    w.setCell ⟨b, off, none⟩ v = { w with heap := w.heap.setIfInBounds b (.cells (cs.setIfInBounds off v) T fz) } := by
  unfold World.setCell
  congr 1
  apply Array.ext_getElem?
  intro i
  rw [Array.getElem?_modify]
  by_cases hi : b = i
  · subst hi
    have h3 : b < w.heap.size := (Array.getElem?_eq_some_iff.1 h).1
    simp only [if_true, h, Option.map_some]
    simp [h3]
  · rw [if_neg hi, Array.getElem?_setIfInBounds_ne hi]

/-- A store into an own block: the i-th part is that block, anew. -/
theorem r_st {a : Addr} {b off : Nat} {cs : Array Value} {T : TypeId} {fz : Nat × Nat} {v : Value} {k : K} (i : Nat) (h : Holds B Γ w) (ha : a = ⟨b, off, none⟩) (hi : Γ[i]? = some (blk b (.cells cs T fz))) (ho : off < cs.size)
    (hf : ¬ (fz.1 ≤ off ∧ off < fz.2)) (hv : flatV v = true) (hk : ∀ w', Holds B (Γ.set i (blk b (.cells (cs.setIfInBounds off v) T fz))) w' → k w') : St a v k w := by
  subst ha
  have h1 := h.pick i hi
  have hb := h1.block
  refine ⟨_, rfl, ⟨_, cell_block hb (Array.getElem?_eq_getElem ho)⟩, frozen_block hb hf, hv, hk _ ?_⟩
  exact Holds.put i hi (h1.setBlock (setCell_heap hb))

theorem setCells_heap {b : Nat} {T : TypeId} {fz : Nat × Nat} : ∀ (vs : List Value) (off i : Nat) (w : World) (cs : Array Value), w.heap[b]? = some (.cells cs T fz) →
    setCells ⟨b, off, none⟩ vs i w = { w with heap := w.heap.setIfInBounds b (.cells ((vs.zipIdx (off + i)).foldl (fun c p => c.setIfInBounds p.2 p.1) cs) T fz) }
  | [], off, i, w, cs, h => by
    simp only [setCells, List.zipIdx_nil, List.foldl_nil]
    have hlt := (Array.getElem?_eq_some_iff.1 h).1
    have : w.heap.setIfInBounds b (.cells cs T fz) = w.heap := by
      apply Array.ext
      · simp
      · intro j h1 h2
        rw [Array.getElem_setIfInBounds]
        split
        · rename_i hj; subst hj; exact (Array.getElem?_eq_some_iff.1 h).2.symm
        · rfl
    rw [this]
  | v :: vs, off, i, w, cs, h => by
    have hlt := (Array.getElem?_eq_some_iff.1 h).1
    simp only [setCells, add_mk]
    rw [setCell_heap h]
    rw [setCells_heap (T := T) (fz := fz) vs off (i + 1) _ (cs.setIfInBounds (off + i) v) (by simp [hlt])]
    simp only [List.zipIdx_cons, List.foldl_cons, Array.setIfInBounds_setIfInBounds]
    rw [Nat.add_assoc]

theorem foldl_set_all : ∀ (vs : List Value) (pre cs : List Value), pre.length + vs.length = (pre ++ cs).length →
    (vs.zipIdx pre.length).foldl (fun c p => c.setIfInBounds p.2 p.1) (pre ++ cs).toArray = (pre ++ vs).toArray
  | [], pre, cs, h => by
    have : cs = [] := by simpa using h
    simp [this]
  | v :: vs, pre, [], h => by simp at h
  | v :: vs, pre, c :: cs, h => by
    simp only [List.zipIdx_cons, List.foldl_cons]
    have h1 : (pre ++ c :: cs).toArray.setIfInBounds pre.length v = ((pre ++ [v]) ++ cs).toArray := by
      apply Array.ext'; simp
    rw [h1]
    have := foldl_set_all vs (pre ++ [v]) cs (by simp at h ⊢; omega)
    simpa using this

/-- A whole block is laid anew. -/
theorem r_stN {a : Addr} {b n : Nat} {cs vs : Array Value} {T : TypeId} {fz : Nat × Nat} {k : K} (i : Nat) (h : Holds B Γ w) (ha : a = ⟨b, 0, none⟩) (hi : Γ[i]? = some (blk b (.cells cs T fz))) (hn : cs.size = n) (hv : vs.size = n)
    (hf : ∀ o, o < n → ¬ (fz.1 ≤ o ∧ o < fz.2)) (hfl : ∀ v ∈ vs.toList, flatV v = true) (hk : ∀ w', Holds B (Γ.set i (blk b (.cells vs T fz))) w' → k w') : StN a n vs k w := by
  subst ha
  have h1 := h.pick i hi
  have hb := h1.block
  refine ⟨_, rfl, hv, fun j hj => ?_, hfl, hk _ ?_⟩
  · rw [add_mk, Nat.zero_add]
    exact ⟨⟨_, cell_block hb (Array.getElem?_eq_getElem (by omega))⟩, frozen_block hb (hf j (by omega))⟩
  · refine Holds.put i hi (h1.setBlock ?_)
    rw [setCells_heap _ _ _ _ _ hb]
    have := foldl_set_all vs.toList [] cs.toList (by simp; omega)
    simp only [List.length_nil, List.nil_append] at this
    have h2 : (cs.toList).toArray = cs := by simp
    have h3 : (vs.toList).toArray = vs := by simp
    rw [h2, h3] at this
    simp only [Nat.zero_add, Nat.add_zero]
    rw [this]
/-- A slice of one element that is a struct. -/
theorem r_bld1 {zero cs : Array Value} {n : Nat} {k : Array Value → K} (hz : zero.size = n) (hn : cs.size = n) (hk : k cs w) : Bld zero (fun i => some (i * n, n)) [(0, .agg cs)] k w := by
  refine ⟨cs, ?_, hk⟩
  have h1 : (Value.agg cs).cells = cs := rfl
  simp only [Instr.fill, h1, Nat.zero_mul, Nat.zero_add]
  rw [if_neg (by simp [hz, hn])]
  have h2 := foldl_set_all cs.toList [] zero.toList (by simp; omega)
  simp only [List.length_nil, List.nil_append] at h2
  have h3 : (cs.toList).toArray = cs := by simp
  have h4 : (zero.toList).toArray = zero := by simp
  rw [h3, h4] at h2
  rw [← Array.foldl_toList, Array.toList_zipIdx]
  exact congrArg some h2
theorem free00 (n : Nat) : ∀ o, o < n → ¬ ((0, 0) : Nat × Nat).1 ≤ o ∨ ¬ o < ((0, 0) : Nat × Nat).2 := fun o _ => .inr (by simp)
theorem nofz (o : Nat) : ¬ (((0, 0) : Nat × Nat).1 ≤ o ∧ o < ((0, 0) : Nat × Nat).2) := by simp
end

theorem at0 {A : HProp} {Γ : List HProp} : (A :: Γ)[0]? = some A := rfl
theorem at1 {A0 : HProp} {A : HProp} {Γ : List HProp} : (A0 :: A :: Γ)[1]? = some A := rfl
theorem at2 {A0 : HProp} {A1 : HProp} {A : HProp} {Γ : List HProp} : (A0 :: A1 :: A :: Γ)[2]? = some A := rfl
theorem at3 {A0 : HProp} {A1 : HProp} {A2 : HProp} {A : HProp} {Γ : List HProp} : (A0 :: A1 :: A2 :: A :: Γ)[3]? = some A := rfl
theorem at4 {A0 : HProp} {A1 : HProp} {A2 : HProp} {A3 : HProp} {A : HProp} {Γ : List HProp} : (A0 :: A1 :: A2 :: A3 :: A :: Γ)[4]? = some A := rfl
theorem at5 {A0 : HProp} {A1 : HProp} {A2 : HProp} {A3 : HProp} {A4 : HProp} {A : HProp} {Γ : List HProp} : (A0 :: A1 :: A2 :: A3 :: A4 :: A :: Γ)[5]? = some A := rfl
theorem at6 {A0 : HProp} {A1 : HProp} {A2 : HProp} {A3 : HProp} {A4 : HProp} {A5 : HProp} {A : HProp} {Γ : List HProp} : (A0 :: A1 :: A2 :: A3 :: A4 :: A5 :: A :: Γ)[6]? = some A := rfl
theorem at7 {A0 : HProp} {A1 : HProp} {A2 : HProp} {A3 : HProp} {A4 : HProp} {A5 : HProp} {A6 : HProp} {A : HProp} {Γ : List HProp} : (A0 :: A1 :: A2 :: A3 :: A4 :: A5 :: A6 :: A :: Γ)[7]? = some A := rfl
theorem at8 {A0 : HProp} {A1 : HProp} {A2 : HProp} {A3 : HProp} {A4 : HProp} {A5 : HProp} {A6 : HProp} {A7 : HProp} {A : HProp} {Γ : List HProp} : (A0 :: A1 :: A2 :: A3 :: A4 :: A5 :: A6 :: A7 :: A :: Γ)[8]? = some A := rfl
theorem at9 {A0 : HProp} {A1 : HProp} {A2 : HProp} {A3 : HProp} {A4 : HProp} {A5 : HProp} {A6 : HProp} {A7 : HProp} {A8 : HProp} {A : HProp} {Γ : List HProp} : (A0 :: A1 :: A2 :: A3 :: A4 :: A5 :: A6 :: A7 :: A8 :: A :: Γ)[9]? = some A := rfl

/-! ### slices -/
/-- s bears the cells vs, and owns its block. -/
def SlC (E esz : Nat) (s : Sl) (vs : List Value) : HProp := fun h =>
  vs.length = s.n * esz ∧ s.n ≤ s.c ∧
  match s.a with
  | none => s.c = 0
  | some a => a.spot = none ∧ ∃ cs fz, h a.block = some (.cells cs E fz) ∧ (∀ i, a.off ≤ i → i < a.off + s.c * esz → ¬ (fz.1 ≤ i ∧ i < fz.2)) ∧ a.off + s.c * esz ≤ cs.size ∧ ∀ i, i < vs.length → cs[a.off + i]? = vs[i]?

/-- In this world s reads as the cells vs. -/
structure RdC (w : World) (s : Sl) (esz : Nat) (vs : List Value) : Prop where
  len : vs.length = s.n * esz
  nil : s.a = none → s.n = 0
  at' : ∀ a, s.a = some a → ∀ i, i < vs.length → w.cell? (a.add i) = vs[i]?

def byteV (b : UInt8) : Value := .int .u8 b.toNat
/-- A slice of bytes of one's own. -/
def Bytes (E : Nat) (s : Sl) (xs : List UInt8) : HProp := SlC E 1 s (xs.map byteV)
abbrev RdB (w : World) (s : Sl) (xs : List UInt8) : Prop := RdC w s 1 (xs.map byteV)

section
variable {B w : World} {Γ : List HProp} {E esz : Nat} {s : Sl} {vs : List Value}
theorem own_block {b : Nat} {o : Obj} {h1 : Hp} (hl : h1.le (own B w)) (hb : h1 b = some o) : w.heap[b]? = some o := (own_some (hl _ _ hb)).2

theorem Holds.rdC (h : Holds B Γ w) (hm : SlC E esz s vs ∈ Γ) : RdC w s esz vs := by
  obtain ⟨Δ, h'⟩ := h.mem hm
  obtain ⟨_, h1, h2, ⟨hl, hc, hs⟩, _, l1, _, _⟩ := h'
  refine ⟨hl, fun hn => ?_, fun a ha i hi => ?_⟩
  · rw [hn] at hs; simp only at hs; omega
  · rw [ha] at hs
    obtain ⟨hsp, cs, fz, hb, _, _, hv⟩ := hs
    obtain ⟨b, off, sp⟩ := a
    simp only at hsp; subst hsp
    rw [add_mk]
    have := own_block l1 hb
    have h3 := hv i hi
    have h4 : vs[i]? = some vs[i] := by simp [hi]
    rw [h4] at h3
    rw [cell_block this h3, h4]

/-- A slice's own block, bare. -/
theorem Holds.imp' {a : Addr} {n c : Nat} {cs : Array Value} {T : TypeId} {fz : Nat × Nat} (h : Holds B (SlC E esz ⟨some a, n, c⟩ vs :: Γ) w) (hb : w.heap[a.block]? = some (.cells cs T fz)) : Holds B (blk a.block (.cells cs T fz) :: Γ) w := by
  obtain ⟨hw, h1, h2, ⟨hl, hc, hsp, cs', fz', hb', hf, hsz, hv⟩, b2, l1, l2, d⟩ := h
  have := own_block l1 hb'
  rw [hb] at this
  refine ⟨hw, h1, h2, ?_, b2, l1, l2, d⟩
  unfold blk; rw [hb', this]

theorem RdC.old {s : Sl} {esz : Nat} {vs : List Value} (hr : RdC B s esz vs) (h : Holds B Γ w) : RdC w s esz vs :=
  ⟨hr.len, hr.nil, fun a ha i hi => by
    have h1 := hr.at' a ha i hi
    have h2 : vs[i]? = some vs[i] := by simp [hi]
    rw [h2] at h1 ⊢
    exact h.oldCell h1⟩
end
end Go.Sep
