/- What a crash leaves of a file. -/
import Derived.Test.YtdpepgjbambinaaSDisk5
namespace Go.Proofs.Ytdpepgjbambinaa
open Go Go.Sep
set_option linter.unusedSimpArgs false
set_option linter.unusedVariables false
set_option maxRecDepth 100000
theorem crash_at {ks : List Int} {g : List UInt8 → FileD} {ns : List (List UInt8)} {n : List UInt8} (hnd : ns.Nodup) (hn : n ∈ ns) : ∃ i, mget n (crashL ks g ns) = some (crashF ks i (g n)) := by
  obtain ⟨i, hi⟩ := List.getElem?_of_mem hn
  refine ⟨i, ?_⟩
  have hm : (n, crashF ks i (g n)) ∈ crashL ks g ns := by
    unfold crashL
    refine List.mem_map.2 ⟨(n, i), ?_, rfl⟩
    exact List.mem_of_getElem? (i := i) (by rw [List.getElem?_zipIdx, hi]; simp)
  have := mget_of_mem (m := crashL ks g ns) (by rw [crashL_fst]; exact hnd) hm
  exact this
/-- What is there of a file behind a crash. -/
theorem mget_crash {D : DiskD} (hD : OkD D) (ks : List Int) {n : List UInt8} {f : FileD} (hm : mget n D.files = some f) : ∃ i, mget n (D.crash ks).files = some (crashF ks i f) := by
  have hn : n ∈ D.names := names_mem.2 (by
    have := List.mem_map_of_mem (f := Prod.fst) (mget_mem hm)
    exact this)
  obtain ⟨i, hi⟩ := crash_at (ks := ks) (g := D.file) (names_nodup hD) hn
  refine ⟨i, ?_⟩
  have hf : D.file n = f := by unfold DiskD.file; rw [hm]; rfl
  rw [hf] at hi
  exact hi
theorem mget_crash0 {D : DiskD} (ks : List Int) {n : List UInt8} (hm : mget n D.files = none) : mget n (D.crash ks).files = none := by
  cases hx : mget n (D.crash ks).files with
  | none => rfl
  | some y =>
    exfalso
    have h1 := List.mem_map_of_mem (f := Prod.fst) (mget_mem hx)
    have h2 : n ∈ D.names := by
      have : (D.crash ks).files.map Prod.fst = D.names := crashL_fst _ _ _
      rw [this] at h1
      exact h1
    obtain ⟨p, hp, he⟩ := List.mem_map.1 (names_mem.1 h2)
    exact mget_none_mem hm p hp he
theorem crashF_last (ks : List Int) (i : Nat) {f : FileD} (hl : f.last ≤ f.data.length) : (crashF ks i f).last = (crashF ks i f).data.length := by
  have := keepOf_le ks i f
  simp only [crashF, List.length_take]
  omega
theorem crashF_same (ks : List Int) (i : Nat) {f : FileD} (hl : f.last = f.data.length) : crashF ks i f = f := by
  have := keepOf_le ks i f
  have hk : keepOf ks i f = 0 := by omega
  unfold crashF
  rw [hk, Nat.add_zero, hl, List.take_length]
  cases f
  simp only at hl
  rw [hl]
end Go.Proofs.Ytdpepgjbambinaa
