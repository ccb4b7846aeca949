/- slices.Sort of strings, by the shelf's contract; slices.Sorted of a map's keys. -/
import Derived.Test.YtdpepgjbambinaaMore
import Derived.Test.YtdpepgjbambinaaSortLay
import Derived.Test.YtdpepgjbambinaaIRLibSlices
namespace Go.Proofs.Ytdpepgjbambinaa
open Go Go.Sep
set_option linter.unusedSimpArgs false
set_option linter.unusedVariables false
set_option maxRecDepth 100000

abbrev bs (l : List UInt8) : ByteArray := ⟨l.toArray⟩
abbrev strV (l : List UInt8) : Value := .string (bs l)
theorem bs_of (b : ByteArray) : ∃ l, b = bs l := ⟨b.data.toList, by simp [bs]⟩
abbrev sortL (ss : List (List UInt8)) : List (List UInt8) := ss.mergeSort fun x y => decide (x ≤ y)
section
variable {B w : World} {Γ : List HProp}
theorem holds_grow (h : Holds B Γ w) (os : Array Obj) : Holds B Γ (Sort.grow w os) := by
  obtain ⟨l⟩ := os
  induction l generalizing w with
  | nil => simpa [Sort.grow] using h
  | cons o l ih =>
    have h1 := ih (h.alloc o).tail
    have e : Sort.grow { w with heap := w.heap.push o } ⟨l⟩ = Sort.grow w ⟨o :: l⟩ := by
      have e2 : w.heap.push o ++ (⟨l⟩ : Array Obj) = w.heap ++ (⟨o :: l⟩ : Array Obj) := by
        apply Array.ext'
        rw [Array.toList_append, Array.toList_append, Array.toList_push, List.append_assoc]
        rfl
      unfold Sort.grow
      rw [← e2]
    rw [e] at h1
    exact h1
theorem slices_Sort_spec {s : Sl} {ss : List (List UInt8)} {k : K} (hl : ss.length ≤ 1000000) (h : Holds B (SlC ty_string 1 s (ss.map strV) :: Γ) w) (hk : ∀ w, Holds B (SlC ty_string 1 s ((sortL ss).map strV) :: Γ) w → k w) : slices_Sort_s_string_string.call s k w := by
  have hsc := h.slCap
  have hn : ss.length = s.n := by have := hsc.1; simpa using this
  unfold slices_Sort_s_string_string.call CallF
  cases ha : s.a with
  | none =>
    have hs0 : s.n = 0 := by have := hsc.2.2.2 ha; omega
    have hss : ss = [] := List.length_eq_zero_iff.1 (by omega)
    subst hss
    have h1 := AnyM.slices_Sort_string_none sortLay none s.c w
    have e : [Sl.val s].toArray = #[.slice none 0 s.c] := by
      show #[Value.slice s.a s.n s.c] = _
      rw [ha, hs0]
    rw [e]
    refine Calls.mono h1 fun e w' he => ?_
    obtain ⟨rfl, rfl⟩ := he
    exact ⟨rfl, hk _ (by simpa [sortL] using h)⟩
  | some a =>
    obtain ⟨cs, fz, h, hsp, hf, hsz, hr, hlen, hc⟩ := slOpen h ha
    obtain ⟨b, off, sp⟩ := a
    simp only at hsp
    subst hsp
    simp only at h hf hsz hr
    have hb := h.block
    have hH : Sort.Holds Proofs.encStr w b off ss.toArray := fun j hj => by
      simp only [List.size_toArray] at hj
      have h1 := hr j (by simpa using hj)
      constructor
      · refine cell_block hb ?_
        rw [h1, List.getElem?_map, List.getElem?_eq_getElem hj]
        simp [getElem!_pos, hj]
      · exact frozen_block hb (hf _ (by omega) (by omega))
    have h1 := AnyM.slices_Sort_string sortLay b off s.c ss w hH (Array.getElem?_eq_some_iff.1 hb).1 (by omega)
    have e : [Sl.val s].toArray = #[.slice (some ⟨b, off, none⟩) ss.length s.c] := by
      show #[Value.slice s.a s.n s.c] = _
      rw [ha, hn]
    rw [e]
    refine Calls.mono h1 fun e w' he => ?_
    obtain ⟨rfl, n, os, rfl⟩ := he
    refine ⟨rfl, hk _ ?_⟩
    have h2 : Holds B (blk b (.cells cs ty_string fz) :: Γ) (Sort.ahead w n) := h.drew _
    have h3 := h2.setBlock (o' := .cells (Sort.putCells Proofs.encStr off (sortL ss).toArray cs) ty_string fz) rfl
    have e2 : ({ (Sort.ahead w n) with heap := (Sort.ahead w n).heap.setIfInBounds b (.cells (Sort.putCells Proofs.encStr off (sortL ss).toArray cs) ty_string fz) } : World) = Sort.putRow Proofs.encStr (Sort.ahead w n) b off (sortL ss).toArray := by
      have harr : (Sort.ahead w n).heap.setIfInBounds b (.cells (Sort.putCells Proofs.encStr off (sortL ss).toArray cs) ty_string fz) = (Sort.ahead w n).heap.modify b (Sort.onCells (Sort.putCells Proofs.encStr off (sortL ss).toArray)) := by
        apply Array.ext_getElem?
        intro i
        rw [Array.getElem?_modify]
        by_cases hi : b = i
        · subst hi
          rw [if_pos rfl, h2.block, Array.getElem?_setIfInBounds_self_of_lt (Array.getElem?_eq_some_iff.1 h2.block).1]
          rfl
        · rw [if_neg hi, Array.getElem?_setIfInBounds_ne hi]
      unfold Sort.putRow Sort.mapBlock
      rw [← harr]
    rw [e2] at h3
    have h4 := holds_grow h3 os
    have hsl : (sortL ss).length = ss.length := by simp [sortL]
    refine slShut (a := ⟨b, off, none⟩) ha h4 ⟨rfl, hf, ?_, fun i hi => ?_, by rw [List.length_map, hsl]; simpa using hlen, hc⟩
    · have : (Sort.putCells Proofs.encStr off (sortL ss).toArray cs).size = cs.size := by simp [Sort.putCells]
      rw [this]; exact hsz
    · simp only [List.length_map] at hi
      unfold Sort.putCells
      rw [Array.getElem?_mapIdx]
      have hlt : off + i < cs.size := by omega
      rw [Array.getElem?_eq_getElem hlt, Option.map_some, if_pos (by simp; omega), List.getElem?_map, List.getElem?_eq_getElem hi, Option.map_some, Nat.add_sub_cancel_left, getElem!_pos (sortL ss).toArray i (by simpa using hi)]
      simp
end
end Go.Proofs.Ytdpepgjbambinaa
