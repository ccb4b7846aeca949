/- The log: Parts. -/
import Derived.Test.YtdpepgjbambinaaSWal5
--! use SWal
namespace Go.Proofs.Ytdpepgjbambinaa
open Go Go.Sep
set_option linter.unusedSimpArgs false
set_option linter.unusedVariables false
set_option maxRecDepth 100000
def hasF (D : DiskD) (n : List UInt8) : Bool := (mget n D.files).isSome
def partsN (D : DiskD) (name : List UInt8) : Nat → Nat
  | 0 => 0
  | i + 1 => partsN D name i + if hasF D (fileW name i) = true then 1 else 0
theorem partsN_le (D : DiskD) (name : List UInt8) : ∀ i, partsN D name i ≤ i
  | 0 => Nat.le_refl _
  | i + 1 => by
    have := partsN_le D name i
    unfold partsN
    split <;> omega
section
variable {B w : World} {Γ : List HProp} {l d : Nat} {W : WalD} {s : Sl} {rs : RecL} {D : DiskD}
theorem slices_Index_str_spec {ss : List (List UInt8)} {n : List UInt8} {k : Int → K} (hl : ss.length ≤ 1000000) (hr : RdC w s 1 (ss.map strV)) (hno : n ∉ ss → k (-1) w) (hyes : ∀ i : Nat, n ∈ ss → k (i : Int) w) : slices_Index_s_string_string.call s (bs n) k w := by
  have hsn : ss.length = s.n := by have := hr.len; simpa using this
  refine slices_Index_s_string_string_ok _ _ _ _ ?_
  unfold slices_Index_s_string_string
  refine LoopK.of (fun t w1 => ∃ j : Nat, t = (j : Int) ∧ j ≤ ss.length ∧ n ∉ ss.take j ∧ w1 = w) (fun t _ => ((s.n : Int) - t).toNat) ⟨0, rfl, by omega, by simp, rfl⟩ ?_
  rintro t w1 ⟨j, rfl, hj, hb, rfl⟩
  unfold slices_Index_s_string_string.b1
  refine r_ite (fun hlt => ?_) (fun hge => ?_)
  · simp only [decide_eq_true_eq] at hlt
    have hx : ss[j]? = some ss[j] := List.getElem?_eq_getElem (by omega)
    have htk : ss.take (j + 1) = ss.take j ++ [ss[j]] := List.take_succ_eq_append_getElem (by omega)
    generalize ss[j] = x at hx htk
    refine r_name hr hx ?_
    rw [str_toList, str_toList]
    refine r_ite (fun he => ?_) (fun he => ?_)
    · have he' : n = x := by simpa using he
      exact hyes j (by rw [he']; exact List.mem_of_getElem? hx)
    · have he' : n ≠ x := by simpa using he
      refine r_add64 (by omega) (by omega) ?_
      refine ⟨⟨j + 1, by omega, by omega, ?_, rfl⟩, by omega⟩
      rw [htk]
      simp only [List.mem_append, List.mem_singleton, not_or]
      exact ⟨hb, he'⟩
  · simp only [decide_eq_false_iff_not] at hge
    rw [List.take_of_length_le (by omega)] at hb
    exact hno hb
theorem slices_Contains_str_spec {ss : List (List UInt8)} {n : List UInt8} {k : Bool → K} (hl : ss.length ≤ 1000000) (hr : RdC w s 1 (ss.map strV)) (hk : k (decide (n ∈ ss)) w) : slices_Contains_s_string_string.call s (bs n) k w := by
  refine slices_Contains_s_string_string_ok _ _ _ _ ?_
  unfold slices_Contains_s_string_string
  refine slices_Index_str_spec hl hr (fun hn => ?_) (fun i hn => ?_)
  · rw [decide_eq_false hn] at hk
    exact hk
  · rw [decide_eq_true hn] at hk
    rw [decide_eq_true (by omega)]
    exact hk
theorem wal_Parts_spec {k : Int → K} (hD : OkD D) (hW : W.name.length ≤ 8) (h : Holds B (WalR l d W :: DiskR d D :: Γ) w) (hk : ∀ w, Holds B (WalR l d W :: DiskR d D :: Γ) w → k (partsN D W.name 10 : Int) w) : wal_Log_Parts.call (some ⟨l, 0, none⟩) k w := by
  obtain ⟨s, rs, hp, h⟩ := WalR.opens h
  refine wal_Log_Parts_ok _ _ _ ?_
  unfold wal_Log_Parts
  refine LoopK.of (fun t w => ∃ j : Nat, t = (((partsN D W.name j : Nat) : Int), (j : Int)) ∧ j ≤ 10 ∧ Holds B (blk l (.cells (wA d W s) ty_wal_Log (0, 0)) :: SlC ty_s_uint8 1 s (List.map recV rs) :: stars (List.map recB rs) :: (DiskR d D :: Γ)) w) (fun t _ => ((10 : Int) - t.2).toNat) ⟨0, rfl, by omega, h⟩ ?_
  clear h
  rintro t w ⟨j, rfl, hj, h⟩
  dsimp only
  have hpl := partsN_le D W.name j
  unfold wal_Log_Parts.b1
  refine r_ite (fun hlt => ?_) (fun hge => ?_)
  · simp only [decide_eq_true_eq] at hlt
    refine r_nn rfl ?_
    refine r_ld (x := (some ⟨d, 0, none⟩)) h rfl (by first | with_reducible exact M0 | with_reducible exact M1 | with_reducible exact M2 | with_reducible exact M3 | with_reducible exact M4 | with_reducible exact M5 | with_reducible exact M6 | with_reducible exact M7 | with_reducible exact M8 | with_reducible exact M9 | with_reducible exact M10 | with_reducible exact M11 | with_reducible exact M12) ?_ ?_
    · exact rfl
    replace h := P2 h
    replace h := P2 h
    replace h := P2 h
    replace h := P3 h
    try simp only [N1, N2, N3, N4, N5, N6, N7] at h
    refine names_spec hD h fun t w h => ?_
    replace h := P1 h
    replace h := P4 h
    replace h := P4 h
    replace h := P4 h
    try simp only [N1, N2, N3, N4, N5, N6, N7] at h
    refine wal_file_spec (by omega) (by omega) h ?_
    have hnl := names_len D
    have hfew := hD.few
    refine slices_Contains_str_spec (ss := D.names) (by omega) (h.rdC (E := ty_string) (by first | with_reducible exact M0 | with_reducible exact M1 | with_reducible exact M2 | with_reducible exact M3 | with_reducible exact M4 | with_reducible exact M5 | with_reducible exact M6 | with_reducible exact M7 | with_reducible exact M8 | with_reducible exact M9 | with_reducible exact M10 | with_reducible exact M11 | with_reducible exact M12)) ?_
    have hmem : decide (fileW W.name j ∈ D.names) = hasF D (fileW W.name j) := by
      unfold hasF
      cases hm : mget (fileW W.name j) D.files with
      | none =>
        rw [decide_eq_false]
        · rfl
        · intro hin
          obtain ⟨f, hf⟩ := mget_some_of_key (names_mem.1 hin)
          rw [hm] at hf; cases hf
      | some f =>
        rw [decide_eq_true]
        · rfl
        · exact names_mem.2 (List.mem_map_of_mem (f := Prod.fst) (mget_mem hm))
    rw [hmem]
    replace h := P3 h
    replace h := P3 h
    replace h := P3 h
    replace h := P3 h
    replace h := D4 h
    try simp only [N1, N2, N3, N4, N5, N6, N7] at h
    unfold wal_Log_Parts.s2
    refine r_ite (fun hh => ?_) (fun hh => ?_)
    · refine r_add64 (by omega) (by omega) ?_
      refine r_add64 (by omega) (by omega) ?_
      refine ⟨⟨j + 1, ?_, by omega, h⟩, by omega⟩
      rw [partsN, if_pos hh]; rfl
    · refine r_add64 (by omega) (by omega) ?_
      refine ⟨⟨j + 1, ?_, by omega, h⟩, by omega⟩
      rw [partsN, if_neg (by rw [hh]; decide)]; rfl
  · simp only [decide_eq_false_iff_not] at hge
    have : j = 10 := by omega
    subst this
    exact hk _ (WalR.shuts hp h)
end
theorem partsN_all {D : DiskD} {name : List UInt8} : ∀ n, (∀ i, i < n → hasF D (fileW name i) = true) → partsN D name n = n
  | 0, _ => rfl
  | n + 1, h => by
    rw [partsN, if_pos (h n (by omega)), partsN_all n fun i hi => h i (by omega)]
end Go.Proofs.Ytdpepgjbambinaa
