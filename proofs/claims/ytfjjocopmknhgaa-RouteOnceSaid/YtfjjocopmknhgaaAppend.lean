/- Append onto a slice of one's own. Holds for every program. -/
import Derived.Test.YtfjjocopmknhgaaRules
namespace Go.Sep
open Go Go.RowKit
set_option linter.unusedSimpArgs false
set_option linter.unusedVariables false

def isSlT (P : Program) (U : TypeId) : Bool := match P.underlying U with | some (.slice _) => true | _ => false
def bytesT (P : Program) (E n : Nat) : Bool := (P.info? E).map (·.bytes) == some n

theorem growBy_le (need : Nat) : ∀ (r c : Nat), Builtin.growBy need r c ≤ max c (need + (need + 768) / 4)
  | 0, c => by simp only [Builtin.growBy]; omega
  | r + 1, c => by
    simp only [Builtin.growBy]
    split
    · omega
    · have := growBy_le need r (c + (c + 768) / 4); omega
theorem nextcap_le {need c : Nat} (h : c < need) : Builtin.nextslicecap need c ≤ 2 * need + 800 := by
  unfold Builtin.nextslicecap
  split
  · omega
  · split
    · omega
    · have := growBy_le need 4 c; omega

theorem fold_size : ∀ (us : List Value) (o : Nat) (cs : Array Value), ((us.zipIdx o).foldl (fun c p => c.setIfInBounds p.2 p.1) cs).size = cs.size
  | [], o, cs => rfl
  | u :: us, o, cs => by simp only [List.zipIdx_cons, List.foldl_cons]; rw [fold_size us (o + 1)]; simp
theorem fold_out : ∀ (us : List Value) (o : Nat) (cs : Array Value) (j : Nat), j < o ∨ o + us.length ≤ j → ((us.zipIdx o).foldl (fun c p => c.setIfInBounds p.2 p.1) cs)[j]? = cs[j]?
  | [], o, cs, j, _ => rfl
  | u :: us, o, cs, j, h => by
    simp only [List.zipIdx_cons, List.foldl_cons]
    simp only [List.length_cons] at h
    rw [fold_out us (o + 1) _ j (by omega), Array.getElem?_setIfInBounds_ne (by omega)]
theorem fold_in : ∀ (us : List Value) (o : Nat) (cs : Array Value) (j : Nat), j < us.length → o + us.length ≤ cs.size → ((us.zipIdx o).foldl (fun c p => c.setIfInBounds p.2 p.1) cs)[o + j]? = us[j]?
  | [], o, cs, j, h, _ => by simp at h
  | u :: us, o, cs, 0, h, hs => by
    simp only [List.zipIdx_cons, List.foldl_cons, List.length_cons] at hs ⊢
    rw [fold_out us (o + 1) _ (o + 0) (by omega)]
    have : o < cs.size := by omega
    simp [this]
  | u :: us, o, cs, j + 1, h, hs => by
    simp only [List.zipIdx_cons, List.foldl_cons, List.length_cons] at h hs ⊢
    rw [show o + (j + 1) = (o + 1) + j by omega, fold_in us (o + 1) _ j (by omega) (by simp; omega)]
    simp

section
variable {P : Program} {B w : World} {Γ : List HProp}

theorem run_firstCells {x : Sl} {esz : Nat} {us : List Value} (h : RdC w x esz us) : (Builtin.firstCells esz x.n x.val).run P w = .ok us.toArray w := by
  obtain ⟨a, n, c⟩ := x
  cases a with
  | none =>
    have h1 := h.nil rfl
    have h2 := h.len
    simp only at h1; subst h1
    simp at h2; subst h2
    simp [Builtin.firstCells]
  | some a =>
    have h2 := h.len
    have h3 : RdN w a us.toArray := fun i hi => by
      have := h.at' a rfl i (by simpa using hi)
      simpa using this
    have := run_loadCells (P := P) h3
    simp only [List.size_toArray, h2] at this
    simp only [Builtin.firstCells]
    exact this

theorem run_askRoom (n : Nat) : (askRoom n).run P w = .ok () w := by
  unfold askRoom
  split
  · simp [mark, Sem.run]
  · rfl

theorem bytesT_spec {E n : Nat} (h : bytesT P E n = true) : ∃ i, P.info? E = some i ∧ i.bytes = n := by
  unfold bytesT at h
  cases hi : P.info? E with
  | none => simp [hi] at h
  | some i => exact ⟨i, rfl, by simpa [hi] using h⟩

theorem run_append {T U E esz by' Tr : Nat} {s x : Sl} {vs us : List Value} {zv : Value} (h : Holds B (SlC E esz s vs :: Γ) w) (hT : sliceT P T E esz = true) (hU : isSlT P U = true) (hby : bytesT P E by' = true)
    (hz : zeroT P E zv) (hzs : zv.cells.size = esz) (hx : RdC w x esz us) (hfl : ∀ u ∈ us, flatV u = true) (hroom : (2 * (s.n + x.n) + 800) * by' ≤ 2 ^ 48) (hb0 : by' ≠ 0) :
    ∃ s' w', (Builtin.append_ #[T, U] Tr #[s.val, x.val]).run P w = .ok s'.val w' ∧ Holds B (SlC E esz s' (vs ++ us) :: Γ) w' ∧ s'.n = s.n + x.n ∧ (s.a.isSome = true → s'.a.isSome = true) ∧ (s.n + x.n ≤ s.c → s' = ⟨s.a, s.n + x.n, s.c⟩) := by
  obtain ⟨hsl, hsz⟩ := sliceT_spec hT
  obtain ⟨ib, hib, hbytes⟩ := bytesT_spec hby
  have hti : (typeInfo E).run P w = .ok ib w := by simp [typeInfo, program, hib, Sem.run]
  have hU' : ∃ e, P.underlying U = some (.slice e) := by
    unfold isSlT at hU; split at hU
    · rename_i e he; exact ⟨e, he⟩
    · cases hU
  obtain ⟨e, hU'⟩ := hU'
  have hrs := h.rdC (List.mem_cons_self ..)
  have hfc := run_firstCells (P := P) hx
  have hulen := hx.len
  unfold Builtin.append_
  have hget : (#[T, U] : Array TypeId)[0]? = some T := rfl
  have hget1 : (#[T, U] : Array TypeId)[1]? = some U := rfl
  have hv0 : (#[s.val, x.val] : Array Value)[0]? = some s.val := rfl
  have hv1 : (#[s.val, x.val] : Array Value)[1]? = some x.val := rfl
  simp only [hget, hget1, hv0, hv1]
  simp only [Sem.run_bind, run_underlying hsl, Result.andThen, Sl.val, sizeT_spec hsz, run_underlying hU', Sem.run_pure, Builtin.lenOf, Bool.false_eq_true, if_false, Bool.not_false, if_true]
  by_cases hn : s.n + x.n ≤ s.c
  · simp only [hn, if_true]
    simp only [Sem.run_bind, hfc, Result.andThen]
    obtain ⟨sa, sn, sc⟩ := s
    cases sa with
    | none =>
      have h1 := h.fact (p := sc = 0 ∧ vs.length = sn * esz ∧ sn ≤ sc) (fun _ ha => ⟨ha.2.2, ha.1, ha.2.1⟩)
      simp only at hn
      have hxn : x.n = 0 := by omega
      have hus : us = [] := by rw [hxn] at hulen; simpa using hulen
      refine ⟨⟨none, sn + x.n, sc⟩, w, by simp, ?_, rfl, fun h => h, fun _ => rfl⟩
      subst hus
      rw [hxn]
      simpa using h
    | some a =>
      obtain ⟨hl, hc, hsp, cs, fz, hcond⟩ : vs.length = sn * esz ∧ sn ≤ sc ∧ a.spot = none ∧ ∃ cs fz, (w.heap[a.block]? = some (.cells cs E fz)) ∧ (∀ i, a.off ≤ i → i < a.off + sc * esz → ¬ (fz.1 ≤ i ∧ i < fz.2)) ∧ a.off + sc * esz ≤ cs.size ∧ ∀ i, i < vs.length → cs[a.off + i]? = vs[i]? := by
        obtain ⟨_, h1, h2, ⟨hl, hc, hsp, cs, fz, hb, hf, hsz, hv⟩, _, l1, _, _⟩ := h
        exact ⟨hl, hc, hsp, cs, fz, own_block l1 hb, hf, hsz, hv⟩
      obtain ⟨hb, hf, hcap, hv⟩ := hcond
      obtain ⟨b, off, sp⟩ := a
      simp only at hsp hb hf hcap hv; subst hsp
      simp only at hn
      have hmul : sn * esz + us.length ≤ sc * esz := by rw [hulen, ← Nat.add_mul]; exact Nat.mul_le_mul_right _ hn
      have hst : (storeCells ((⟨b, off, none⟩ : Addr).add (sn * esz)) us).run P w = .ok () (setCells ((⟨b, off, none⟩ : Addr).add (sn * esz)) us 0 w) := by
        refine run_storeCells us 0 w hfl fun j hj => ?_
        rw [add_mk, add_mk]
        have hlt : off + sn * esz + (0 + j) < cs.size := by omega
        exact ⟨⟨_, cell_block hb (Array.getElem?_eq_getElem hlt)⟩, frozen_block hb (hf _ (by omega) (by omega))⟩
      refine ⟨⟨some ⟨b, off, none⟩, sn + x.n, sc⟩, setCells ((⟨b, off, none⟩ : Addr).add (sn * esz)) us 0 w, by simp [hst], ?_, rfl, fun _ => rfl, fun _ => rfl⟩
      rw [add_mk, setCells_heap _ _ _ _ _ hb]
      -- the own block, laid anew
      have h2 : Holds B (blk b (.cells cs E fz) :: Γ) w := h.imp' hb
      have h3 := h2.setBlock (o' := .cells ((us.zipIdx (off + sn * esz + 0)).foldl (fun c p => c.setIfInBounds p.2 p.1) cs) E fz) rfl
      refine h3.imp fun g hg => ?_
      refine ⟨?_, hn, rfl, _, fz, hg, hf, ?_, ?_⟩
      · simp [hl, hulen, Nat.add_mul]
      · rw [fold_size]; exact hcap
      · intro i hi
        simp only [List.length_append] at hi
        simp only [Nat.add_zero]
        by_cases hlt : i < vs.length
        · rw [fold_out _ _ _ _ (by omega), List.getElem?_append_left hlt]; exact hv i hlt
        · rw [show off + i = off + sn * esz + (i - vs.length) by omega, fold_in _ _ _ _ (by omega) (by omega), List.getElem?_append_right (by omega)]
  · simp only [hn, if_false]
    have hsn := h.fact (p := vs.length = s.n * esz ∧ s.n ≤ s.c) (fun _ ha => ⟨ha.1, ha.2.1⟩)
    have hcap := nextcap_le (show s.c < s.n + x.n by omega)
    have hcap2 : ¬ (Builtin.nextslicecap (s.n + x.n) s.c * ib.bytes > 2 ^ 48) := by
      rw [hbytes]
      have := Nat.mul_le_mul_right by' hcap
      omega
    have hbig : s.n + x.n < 2 ^ 60 := by
      have : (2 * (s.n + x.n) + 800) * 1 ≤ (2 * (s.n + x.n) + 800) * by' := Nat.mul_le_mul_left _ (by omega)
      omega
    have hi64 : ¬ ((s.n + x.n : Nat) : Int) > IntKind.i64.max := by simp [IntKind.max, IntKind.signed, IntKind.bits]; omega
    simp only [Sem.run_bind, hti, Result.andThen]
    rw [if_neg (by rintro ⟨h1, _⟩; exact hi64 h1)]
    simp only [Sem.run_bind, hti, Result.andThen, Sem.run_pure]
    rw [if_neg hcap2]
    obtain ⟨newCap, w1, hch, hle, hw1⟩ : ∃ nc w1, (choose (.appendCap (s.n + x.n) s.c E)).run P w = .ok nc w1 ∧ s.n + x.n ≤ nc ∧ w1 = { w with drawn := w.drawn + 1 } := by
      refine ⟨(Question.appendCap (s.n + x.n) s.c E).cut (w.tape w.drawn (.appendCap (s.n + x.n) s.c E)), _, by simp [choose, Sem.run, Question.forced], ?_, rfl⟩
      simp only [Question.cut]; omega
    have h1 : Holds B (SlC E esz s vs :: Γ) w1 := by rw [hw1]; exact h.drew _
    have hx1 : RdC w1 x esz us := ⟨hx.len, hx.nil, fun a ha i hi => by rw [hw1]; exact hx.at' a ha i hi⟩
    have hrs1 := h1.rdC (List.mem_cons_self ..)
    have hti1 : (typeInfo E).run P w1 = .ok ib w1 := by simp [typeInfo, program, hib, Sem.run]
    have hf1 := run_firstCells (P := P) hrs1
    have hf2 := run_firstCells (P := P) hx1
    simp only [Sl.val] at hf1 hf2
    simp only [hch, hti1, run_askRoom, hf1, hf2, zeroT_spec hz, Sem.run_bind, Result.andThen, Sem.run_pure, newRow, newObj, Sem.run]
    refine ⟨⟨some ⟨w1.heap.size, 0, none⟩, s.n + x.n, newCap⟩, _, rfl, ?_, rfl, fun _ => rfl, (fun hh => by first | exact hh.elim | exact absurd hh hn)⟩
    have h2 := (h1.tail).alloc (.cells (vs.toArray ++ us.toArray ++ Builtin.zeroCells zv.cells (newCap - (s.n + x.n))) E)
    refine h2.imp fun g hg => ⟨?_, hle, rfl, _, (0, 0), hg, ?_, ?_, ?_⟩
    · simp [hsn.1, hulen, Nat.add_mul]
    · intro i _ _; simp
    · simp only [Nat.zero_add, Array.size_append, List.size_toArray, hsn.1, hulen, Builtin.zeroCells, Array.size_map, Array.size_range, hzs]
      rw [← Nat.add_mul, ← Nat.add_mul]
      exact Nat.mul_le_mul_right _ (by omega)
    · intro i hi
      simp only [Nat.zero_add]
      rw [Array.getElem?_append_left (by simpa using hi)]
      simp [List.getElem?_append, Array.getElem?_append]
/-- Append onto the first part. -/
theorem r_append {T U E esz by' Tr : Nat} {s x : Sl} {vs us : List Value} {zv : Value} {k : Sl → K} (h : Holds B (SlC E esz s vs :: Γ) w) (hT : sliceT P T E esz = true) (hU : isSlT P U = true) (hby : bytesT P E by' = true)
    (hz : zeroT P E zv) (hzs : zv.cells.size = esz) (hx : RdC w x esz us) (hfl : ∀ u ∈ us, flatV u = true) (hroom : (2 * (s.n + x.n) + 800) * by' ≤ 2 ^ 48) (hb0 : by' ≠ 0)
    (hk : ∀ s' w', Holds B (SlC E esz s' (vs ++ us) :: Γ) w' → s'.n = s.n + x.n → (s.a.isSome = true → s'.a.isSome = true) → k s' w') : Do P (Builtin.append_ #[T, U] Tr #[s.val, x.val]) Sl.val k w := by
  obtain ⟨s', w', hr, hh, hn, ha, _⟩ := run_append (Tr := Tr) h hT hU hby hz hzs hx hfl hroom hb0
  exact ⟨s', w', hr, hk s' w' hh hn ha⟩

theorem blk_SlC {b E esz n : Nat} {vs : List Value} {cs : Array Value} (hc : cs.toList = vs) (hn : vs.length = n * esz) (g : Hp) (h : blk b (.cells cs E (0, 0)) g) : SlC E esz ⟨some ⟨b, 0, none⟩, n, n⟩ vs g := by
  subst hc
  refine ⟨hn, Nat.le_refl _, rfl, cs, (0, 0), h, fun i _ _ => by simp, ?_, fun i hi => ?_⟩
  · simp at hn ⊢; omega
  · simp
theorem Holds.nilSl (h : Holds B Γ w) (E esz : Nat) : Holds B (SlC E esz ⟨none, 0, 0⟩ [] :: Γ) w := by
  refine ⟨h.below, fun _ => Option.none, _, ⟨by simp, Nat.le_refl _, rfl⟩, h.stars, fun _ _ e => (by cases e), Hp.le_refl _, fun _ => .inl rfl⟩
theorem RdC.of_blk {b E esz n : Nat} {vs : List Value} {cs : Array Value} (h : Holds B Γ w) (hm : blk b (.cells cs E (0, 0)) ∈ Γ) (hc : cs.toList = vs) (hn : vs.length = n * esz) (c : Nat) : RdC w ⟨some ⟨b, 0, none⟩, n, c⟩ esz vs := by
  subst hc
  refine ⟨hn, (fun hh => by cases hh), fun a ha i hi => ?_⟩
  cases ha
  rw [add_mk, Nat.zero_add]
  have h1 := h.blockOf hm
  have h2 : cs.toList[i]? = some cs.toList[i] := by simp [hi]
  rw [h2]
  have h3 : cs[i]? = some (cs.toList[i]) := by rw [← h2]; simp
  exact cell_block h1 h3
theorem flat_all {l : List Value} (h : l.all flatV = true) : ∀ v ∈ l, flatV v = true := List.all_eq_true.1 h
theorem byteV_flat (xs : List UInt8) : ∀ u ∈ xs.map byteV, flatV u = true := fun u hu => by
  obtain ⟨b, _, rfl⟩ := List.mem_map.1 hu; rfl
end
end Go.Sep
