/- Bytes as a string. -/
import Derived.Test.YtfjjocopmknhgaaAppend
import Derived.Laws.BytesString
import Derived.Laws.Strings
namespace Go.Sep
open Go Go.RowKit
set_option linter.unusedSimpArgs false
set_option linter.unusedVariables false
section
variable {w : World}
theorem all_nil : All [] w := fun i x h => by simp at h
theorem all_cons {x : World → Prop} {l : List (World → Prop)} (h : x w) (hl : All l w) : All (x :: l) w := fun i y hy => by
  cases i with
  | zero => simp at hy; subst hy; exact h
  | succ i => exact hl i y (by simpa using hy)
def strT (P : Program) (src dst : TypeId) : Bool :=
  match P.underlying src, P.underlying dst with
  | some (.slice e), some .string => match P.underlying e with
    | some (.int .u8) => true
    | _ => false
  | _, _ => false
theorem strT_spec {P : Program} {src dst : TypeId} (h : strT P src dst = true) : ∃ e, P.underlying src = some (.slice e) ∧ P.underlying e = some (.int .u8) ∧ P.underlying dst = some .string := by
  unfold strT at h
  split at h
  · rename_i e h1 h2
    split at h
    · rename_i h3; exact ⟨e, h1, h3, h2⟩
    · cases h
  · cases h
theorem foldl_push : ∀ (xs : List UInt8) (acc : List UInt8),
    (xs.map fun b => ((b.toNat : Nat) : Int)).foldl (fun r n => r.push (UInt8.ofNat n.toNat)) (ByteArray.mk acc.toArray) = ByteArray.mk (acc ++ xs).toArray
  | [], acc => by simp
  | x :: xs, acc => by
    simp only [List.map_cons, List.foldl_cons, Int.toNat_natCast, UInt8.ofNat_toNat]
    have := foldl_push xs (acc ++ [x])
    simp only [List.append_assoc, List.singleton_append] at this
    rw [← this]
    congr 1
    simp [ByteArray.push]
theorem r_str {P : Program} {s : Sl} {xs : List UInt8} {src dst : TypeId} {k : ByteArray → K} (hT : strT P src dst = true) (hr : RdB w s xs) (hk : k (ByteArray.mk xs.toArray) w) :
    Rd P (convert src dst s.val) Value.string k w := by
  refine ⟨_, ?_, hk⟩
  obtain ⟨e, h1, h2, h3⟩ := strT_spec hT
  obtain ⟨a, n, c⟩ := s
  have hl : xs.length = n := by have := hr.len; simpa using this
  have := run_convert_bytes_string (P := P) w src dst e a n c h1 h2 h3
  rw [show (Sl.val ⟨a, n, c⟩) = .slice a n c from rfl, this]
  cases a with
  | none =>
    have hn := hr.nil rfl
    simp only at hn
    subst hn
    have : xs = [] := by cases xs with | nil => rfl | cons => simp at hl
    subst this
    rfl
  | some a =>
    have h4 : RdN w a (xs.map byteV).toArray := fun i hi => by
      rw [hr.at' a rfl i (by simpa using hi)]; exact List.getElem?_toArray.symm
    have h5 := run_loadCells (P := P) h4
    have h6 : (xs.map byteV) = (xs.map fun b => ((b.toNat : Nat) : Int)).map (Value.int .u8) := by simp [byteV, Function.comp_def]
    rw [h6] at h5
    simp only [List.size_toArray, List.length_map, hl] at h5
    rw [run_bytesToString w a n c _ h5]
    have := foldl_push xs []
    simp only [List.nil_append] at this
    rw [← this]
    rfl
theorem str_toList (xs : List UInt8) : (ByteArray.mk xs.toArray).toList = xs := ByteArray.toList_mk xs
end
end Go.Sep
