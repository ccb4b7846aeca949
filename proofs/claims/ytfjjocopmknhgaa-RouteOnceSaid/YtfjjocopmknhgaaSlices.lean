/- Views of slices of one's own, and what clear does. Holds for every program. -/
import Derived.Test.YtfjjocopmknhgaaAppend
namespace Go.Sep
open Go Go.RowKit
set_option linter.unusedSimpArgs false
set_option linter.unusedVariables false

section
variable {P : Program} {B w : World} {Γ : List HProp} {E esz : Nat} {s : Sl} {vs : List Value}

theorem SlC.take {m : Nat} (hm : m ≤ s.n) (g : Hp) (h : SlC E esz s vs g) : SlC E esz ⟨s.a, m, s.c⟩ (vs.take (m * esz)) g := by
  obtain ⟨hl, hc, hs⟩ := h
  have h1 : m * esz ≤ vs.length := by rw [hl]; exact Nat.mul_le_mul_right _ hm
  refine ⟨by simp only [List.length_take]; omega, by simp only; omega, ?_⟩
  cases ha : s.a with
  | none => rw [ha] at hs; exact hs
  | some a =>
    rw [ha] at hs
    obtain ⟨hsp, cs, fz, hb, hf, hsz, hv⟩ := hs
    refine ⟨hsp, cs, fz, hb, hf, hsz, fun i hi => ?_⟩
    rw [List.length_take] at hi
    rw [List.getElem?_take, if_pos (by omega)]
    exact hv i (by omega)

theorem RdC.drop {l c : Nat} (h : RdC w s esz vs) (hl : l ≤ s.n) (hc : s.n ≤ c) (hsp : ∀ a, s.a = some a → a.spot = none) : RdC w ⟨cutA s.a l c esz, s.n - l, c - l⟩ esz (vs.drop (l * esz)) := by
  have h1 := h.len
  refine ⟨by rw [List.length_drop, h1, ← Nat.sub_mul], fun hn => ?_, fun a ha i hi => ?_⟩
  · simp only at hn ⊢
    unfold cutA at hn
    split at hn
    · have := h.nil hn; omega
    · cases hx : s.a with
      | none => have := h.nil hx; omega
      | some a => rw [hx] at hn; cases hn
  · simp only at ha
    rw [List.length_drop] at hi
    unfold cutA at ha
    split at ha
    · rename_i hcl
      have : s.n = l := by omega
      rw [h1, this] at hi
      omega
    · cases hx : s.a with
      | none => rw [hx] at ha; cases ha
      | some a0 =>
        rw [hx] at ha
        simp only [Option.map_some, Option.some.injEq] at ha
        subst ha
        rw [add_add' _ (hsp a0 hx), h.at' a0 hx _ (by omega), List.getElem?_drop]

theorem RdC.take {m c : Nat} (h : RdC w s esz vs) (hm : m ≤ s.n) : RdC w ⟨s.a, m, c⟩ esz (vs.take (m * esz)) := by
  have h1 := h.len
  have h2 : m * esz ≤ vs.length := by rw [h1]; exact Nat.mul_le_mul_right _ hm
  refine ⟨by simp only [List.length_take]; omega, fun hn => ?_, fun a ha i hi => ?_⟩
  · have := h.nil hn; simp only; omega
  · rw [List.length_take] at hi
    rw [List.getElem?_take, if_pos (by omega)]
    exact h.at' a ha i (by omega)

theorem Holds.slCap (h : Holds B (SlC E esz s vs :: Γ) w) : vs.length = s.n * esz ∧ s.n ≤ s.c ∧ (∀ a, s.a = some a → a.spot = none) ∧ (s.a = none → s.c = 0) := by
  refine h.fact fun g hg => ⟨hg.1, hg.2.1, fun a ha => ?_, fun ha => ?_⟩
  · have := hg.2.2; rw [ha] at this; exact this.1
  · have := hg.2.2; rw [ha] at this; exact this

theorem zeroCells_list (z : Array Value) (n : Nat) (hz : ∀ v ∈ z.toList, flatV v = true) : ∀ v ∈ (Builtin.zeroCells z n).toList, flatV v = true := by
  intro v hv
  simp only [Builtin.zeroCells, Array.toList_map, List.mem_map] at hv
  obtain ⟨i, hi, rfl⟩ := hv
  have hi' : i < n * z.size := by simpa using hi
  have hpos : 0 < z.size := Nat.pos_of_ne_zero fun h0 => by rw [h0] at hi'; simp at hi'
  have hlt : i % z.size < z.size := Nat.mod_lt _ hpos
  rw [getElem!_pos z (i % z.size) hlt]
  exact hz _ (by simp)

/-- clear over cells behind what a slice bears: the slice stays. -/
theorem r_clear {T t : Nat} {l q m : Nat} {zv : Value} {k : Value → K} (h : Holds B (SlC E esz s vs :: Γ) w) (hT : sliceT P T E esz = true) (hz : zeroT P E zv) (hzs : zv.cells.size = esz) (hzf : ∀ v ∈ zv.cells.toList, flatV v = true)
    (hl : s.n ≤ l) (hq : l + q ≤ s.c) (hm : q = 0 ∨ m ≠ l) {x : Sl} (hx : x = ⟨cutA s.a l m esz, q, m - l⟩) (hk : ∀ w', Holds B (SlC E esz s vs :: Γ) w' → k (.tuple #[]) w') :
    Do P (Builtin.clear_ #[T] t #[x.val]) id k w := by
  subst hx
  obtain ⟨hsl, hsz⟩ := sliceT_spec hT
  have hsn := h.slCap
  have hg0 : (#[T] : Array TypeId)[0]? = some T := rfl
  by_cases hq0 : q = 0
  · subst hq0
    refine ⟨.tuple #[], w, ?_, hk w h⟩
    unfold Builtin.clear_
    have hv0 : (#[Sl.val ⟨cutA s.a l m esz, 0, m - l⟩] : Array Value)[0]? = some (Sl.val ⟨cutA s.a l m esz, 0, m - l⟩) := rfl
    simp only [hg0, hv0]
    simp only [Sem.run_bind, run_underlying hsl, Result.andThen, Sl.val]
    cases cutA s.a l m esz <;> simp
  · have hml : m ≠ l := hm.resolve_left hq0
    cases ha : s.a with
    | none => have := hsn.2.2.2 ha; omega
    | some a =>
      have hsp := hsn.2.2.1 a ha
      obtain ⟨b, off, sp⟩ := a
      simp only at hsp; subst hsp
      have hcut : cutA (some (⟨b, off, none⟩ : Addr)) l m esz = some ⟨b, off + l * esz, none⟩ := by
        unfold cutA; rw [if_neg hml]; simp [add_mk]
      obtain ⟨cs, fz, hb, hf, hcap, hv⟩ : ∃ cs fz, w.heap[b]? = some (.cells cs E fz) ∧ (∀ i, off ≤ i → i < off + s.c * esz → ¬ (fz.1 ≤ i ∧ i < fz.2)) ∧ off + s.c * esz ≤ cs.size ∧ ∀ i, i < vs.length → cs[off + i]? = vs[i]? := by
        obtain ⟨_, h1, h2, ⟨_, _, hs⟩, _, l1, _, _⟩ := h
        rw [ha] at hs
        obtain ⟨_, cs, fz, hb, hf, hsz, hv⟩ := hs
        exact ⟨cs, fz, own_block l1 hb, hf, hsz, hv⟩
      have hzl : (Builtin.zeroCells zv.cells q).toList.length = q * esz := by simp [Builtin.zeroCells, hzs]
      have hmul : l * esz + q * esz ≤ s.c * esz := by rw [← Nat.add_mul]; exact Nat.mul_le_mul_right _ hq
      have hmul2 : s.n * esz ≤ l * esz := Nat.mul_le_mul_right _ hl
      have hst : (storeCells ⟨b, off + l * esz, none⟩ (Builtin.zeroCells zv.cells q).toList).run P w = .ok () (setCells ⟨b, off + l * esz, none⟩ (Builtin.zeroCells zv.cells q).toList 0 w) := by
        refine run_storeCells _ 0 w (zeroCells_list _ _ hzf) fun j hj => ?_
        rw [hzl] at hj
        rw [add_mk]
        have hlt : off + l * esz + (0 + j) < cs.size := by omega
        exact ⟨⟨_, cell_block hb (Array.getElem?_eq_getElem hlt)⟩, frozen_block hb (hf _ (by omega) (by omega))⟩
      refine ⟨.tuple #[], setCells ⟨b, off + l * esz, none⟩ (Builtin.zeroCells zv.cells q).toList 0 w, ?_, hk _ ?_⟩
      · unfold Builtin.clear_
        rw [hcut]
        have hv0 : (#[Sl.val ⟨some ⟨b, off + l * esz, none⟩, q, m - l⟩] : Array Value)[0]? = some (Sl.val ⟨some ⟨b, off + l * esz, none⟩, q, m - l⟩) := rfl
        simp only [hg0, hv0]
        simp only [Sem.run_bind, run_underlying hsl, Result.andThen, Sl.val]
        obtain ⟨q', rfl⟩ : ∃ q', q = q' + 1 := ⟨q - 1, by omega⟩
        simp only [Sem.run_bind, zeroT_spec hz, Result.andThen, hst, Sem.run_pure]
        rfl
      · rw [setCells_heap _ _ _ _ _ hb]
        obtain ⟨sa, sn, sc⟩ := s
        simp only at ha hsn hl hq hf hcap hmul hmul2; subst ha
        have h2 : Holds B (blk b (.cells cs E fz) :: Γ) w := h.imp' hb
        have h3 := h2.setBlock (o' := .cells (((Builtin.zeroCells zv.cells q).toList.zipIdx (off + l * esz + 0)).foldl (fun c p => c.setIfInBounds p.2 p.1) cs) E fz) rfl
        refine h3.imp fun g hg => ⟨hsn.1, hsn.2.1, rfl, _, fz, hg, hf, ?_, fun i hi => ?_⟩
        · rw [fold_size]; exact hcap
        · have := hsn.1
          rw [fold_out _ _ _ _ (by simp only; omega)]; exact hv i hi
end
end Go.Sep
