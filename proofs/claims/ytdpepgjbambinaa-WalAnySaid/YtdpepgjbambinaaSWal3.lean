/- The log: Append. -/
import Derived.Test.YtdpepgjbambinaaSWal2
--! use SWal
namespace Go.Proofs.Ytdpepgjbambinaa
open Go Go.Sep
set_option linter.unusedSimpArgs false
set_option linter.unusedVariables false
set_option maxRecDepth 100000
section
variable {B w : World} {Γ : List HProp} {l d : Nat} {W : WalD} {s : Sl} {rs : RecL} {D : DiskD}
theorem wal_put_spec {rec f : Sl} {r : List UInt8} {part used : Nat} {k : Int → K} (hD : OkD D) (hW : OkW W) (hpt : part ≤ 9) (hus : used ≤ 10000000) (hl : r.length ≤ 4096) (hr : ∀ w, Holds B Γ w → RdB w rec r)
    (h : Holds B (Bytes ty_uint8 f (frameL r) :: WalR l d W :: DiskR d D :: Γ) w)
    (hk : ∀ w, OkD (W.put D part used r).1 → Holds B (WalR l d (W.put D part used r).2.1 :: DiskR d (W.put D part used r).1 :: Γ) w → k (W.put D part used r).2.2 w) :
    wal_Log_Append.s1 k ⟨l, 0, none⟩ rec f (part : Int) (used : Int) w := by
  have hnm := hW.name
  have hfew := hW.few
  have hfl := Bytes.len h
  have hfL := frameL_len r
  obtain ⟨s, rs, hp, h⟩ := WalR.opens h.swap
  have hrl : rs.length = W.recs.length := by rw [← hp]; simp
  unfold wal_Log_Append.s1
  unfold WalD.put at hk
  refine r_dr h ?_
  clear h
  intro w h
  have hS : Holds B (blk l (.cells (wA d W s) ty_wal_Log (0, 0)) :: SlC ty_s_uint8 1 s (List.map recV rs) :: stars (List.map recB rs) :: Γ) w := (h.del 3 at3).del 3 at3
  refine r_withS hS ?_
  try simp only [add_mk, Nat.zero_add, Nat.reduceAdd]
  refine r_ldS (x := (some ⟨d, 0, none⟩)) rfl (by first | with_reducible exact M0 | with_reducible exact M1 | with_reducible exact M2 | with_reducible exact M3 | with_reducible exact M4 | with_reducible exact M5 | with_reducible exact M6 | with_reducible exact M7 | with_reducible exact M8 | with_reducible exact M9 | with_reducible exact M10 | with_reducible exact M11 | with_reducible exact M12) ?_ ?_
  · exact rfl
  refine wal_file_spec (by omega) (by omega) h ?_
  refine r_sv hS ?_
  replace h := P2 h
  replace h := P2 h
  replace h := P2 h
  replace h := P3 h
  replace h := P4 h
  try simp only [N1, N2, N3, N4, N5, N6, N7] at h
  refine append_spec (n := fileW W.name part) (x := frameL r) hD (by omega) h (fun w h => Bytes.rd h List.mem_cons_self) fun w hD' h => ?_
  refine r_ite (fun hq => ?_) (fun hq => ?_)
  · have hq' : (D.append (fileW W.name part) (frameL r)).2 ≠ 0 := by simpa using hq
    rw [if_pos hq'] at hk
    replace h := P4 h
    replace h := P4 h
    replace h := P4 h
    replace h := D4 h
    try simp only [N1, N2, N3, N4, N5, N6, N7] at h
    exact hk _ hD' (WalR.shuts hp h)
  · have hq' : ¬ (D.append (fileW W.name part) (frameL r)).2 ≠ 0 := by simpa using hq
    rw [if_neg hq'] at hk
    refine r_ar (e' := ((used + (frameL r).length : Nat) : Int)) (by rw [wrap64 (by omega) (by omega)]; omega) ?_
    replace h := P4 h
    replace h := P4 h
    replace h := P4 h
    replace h := D4 h
    try simp only [N1, N2, N3, N4, N5, N6, N7] at h
    first | refine S0 h rfl ?_ rfl ?_ | refine S1 h rfl ?_ rfl ?_ | refine S2 h rfl ?_ rfl ?_ | refine S3 h rfl ?_ rfl ?_ | refine S4 h rfl ?_ rfl ?_ | refine S5 h rfl ?_ rfl ?_ | refine S6 h rfl ?_ rfl ?_ | refine S7 h rfl ?_ rfl ?_ | refine S8 h rfl ?_ rfl ?_
    · first | exact Nat.lt_of_ble_eq_true rfl | (simp; done) | (simp; omega)
    clear h
    intro w h
    try simp only [N1, N2, N3, N4, N5, N6, N7] at h
    first | refine S0 h rfl ?_ rfl ?_ | refine S1 h rfl ?_ rfl ?_ | refine S2 h rfl ?_ rfl ?_ | refine S3 h rfl ?_ rfl ?_ | refine S4 h rfl ?_ rfl ?_ | refine S5 h rfl ?_ rfl ?_ | refine S6 h rfl ?_ rfl ?_ | refine S7 h rfl ?_ rfl ?_ | refine S8 h rfl ?_ rfl ?_
    · first | exact Nat.lt_of_ble_eq_true rfl | (simp; done) | (simp; omega)
    clear h
    intro w h
    try simp only [N1, N2, N3, N4, N5, N6, N7] at h
    first | refine S0 h rfl ?_ rfl ?_ | refine S1 h rfl ?_ rfl ?_ | refine S2 h rfl ?_ rfl ?_ | refine S3 h rfl ?_ rfl ?_ | refine S4 h rfl ?_ rfl ?_ | refine S5 h rfl ?_ rfl ?_ | refine S6 h rfl ?_ rfl ?_ | refine S7 h rfl ?_ rfl ?_ | refine S8 h rfl ?_ rfl ?_
    · first | exact Nat.lt_of_ble_eq_true rfl | (simp; done) | (simp; omega)
    clear h
    intro w h
    try simp only [N1, N2, N3, N4, N5, N6, N7] at h
    have hS : Holds B (blk l (.cells (wA d ({ W with part := part, used := used + (frameL r).length, dirty := true } : WalD) s) ty_wal_Log (0, 0)) :: SlC ty_s_uint8 1 s (List.map recV rs) :: stars (List.map recB rs) :: Γ) w := h.del 3 at3
    refine r_dr h ?_
    clear h
    intro w h
    have hS : Holds B (blk l (.cells (wA d ({ W with part := part, used := used + (frameL r).length, dirty := true } : WalD) s) ty_wal_Log (0, 0)) :: SlC ty_s_uint8 1 s (List.map recV rs) :: stars (List.map recB rs) :: Γ) w := h.del 3 at3
    refine r_withS hS ?_
    refine r_ldS (x := s) rfl M0 rfl ?_
    refine slices_Clone_spec (b := rec) (xs := r) h (fun w h => hr w h.tail.tail.tail.tail) (by omega) fun c w h _ => ?_
    refine r_sv (h.tail.del 3 at3) ?_
    refine r_new h ?_
    clear h
    intro t w h
    try simp only [add_mk, Nat.zero_add, Nat.reduceAdd]
    refine r_sv (h.tail.tail.del 3 at3) ?_
    have hn := rec_n (h.pick 3 at3)
    have hx := RdC.of_blk (n := 1) (esz := 1) h List.mem_cons_self (vs := [c.val]) rfl rfl 1
    refine r_append (h.pick 3 at3) (by kernel_rfl) (by kernel_rfl) (by' := 24) (by kernel_rfl) zero_ty_s_uint8 rfl hx (fun v hv => by simp only [List.mem_singleton] at hv; subst hv; rfl) (by simp only; omega) (by decide) fun s' w h _ _ => ?_
    try simp only [N1, N2, N3, N4, N5, N6, N7] at h
    have e1 : rs.map recV ++ [c.val] = (rs ++ [(c, r)]).map recV := by simp
    rw [e1] at h
    first | refine S0 h rfl ?_ rfl ?_ | refine S1 h rfl ?_ rfl ?_ | refine S2 h rfl ?_ rfl ?_ | refine S3 h rfl ?_ rfl ?_ | refine S4 h rfl ?_ rfl ?_ | refine S5 h rfl ?_ rfl ?_ | refine S6 h rfl ?_ rfl ?_ | refine S7 h rfl ?_ rfl ?_ | refine S8 h rfl ?_ rfl ?_
    · first | exact Nat.lt_of_ble_eq_true rfl | (simp; done) | (simp; omega)
    clear h
    intro w h
    try simp only [N1, N2, N3, N4, N5, N6, N7] at h
    replace h := P5 h
    replace h := P1 h
    replace h := P4 h
    replace h := P4 h
    replace h := P5 h
    replace h := D5 h
    try simp only [N1, N2, N3, N4, N5, N6, N7] at h
    have h2 : Holds B (stars ((rs ++ [(c, r)]).map recB) :: blk l _ :: SlC ty_s_uint8 1 s' ((rs ++ [(c, r)]).map recV) :: DiskR d _ :: Γ) w := stars_put (f := recB) (x := (c, r)) h
    replace h := h2
    replace h := P3 h
    replace h := P1 h
    replace h := P3 h
    replace h := P3 h
    try simp only [N1, N2, N3, N4, N5, N6, N7] at h
    exact hk _ hD' (WalR.shuts (W := { W with part := part, used := used + (frameL r).length, dirty := true, recs := W.recs ++ [r] }) (by rw [List.map_append, hp]; rfl) h)

theorem syncW_ok {W : WalD} (hW : OkW W) : OkW (W.syncW D).2.1 ∧ (W.syncW D).2.1.name = W.name := by
  unfold WalD.syncW
  split
  · exact ⟨hW, rfl⟩
  · exact ⟨⟨hW.name, hW.size, hW.part, hW.used, hW.few⟩, rfl⟩

theorem wal_Append_spec {rec : Sl} {r : List UInt8} {k : Int → K} (hD : OkD D) (hW : OkW W) (hl : r.length ≤ 4096) (hr : ∀ w, Holds B Γ w → RdB w rec r) (h : Holds B (WalR l d W :: DiskR d D :: Γ) w)
    (hk : ∀ w, OkD (W.app D r).1 → Holds B (WalR l d (W.app D r).2.1 :: DiskR d (W.app D r).1 :: Γ) w → k (W.app D r).2.2 w) : wal_Log_Append.call (some ⟨l, 0, none⟩) rec k w := by
  have hpt := hW.part
  have hus := hW.used
  have hsz := hW.size
  refine wal_Log_Append_ok _ _ _ _ ?_
  unfold wal_Log_Append
  unfold WalD.app at hk
  refine code_Frame_spec (b := r) hl h (fun w h => hr w h.tail.tail) fun f w h => ?_
  refine r_ite_f rfl ?_
  refine r_dr h ?_
  clear h
  intro w h
  have hfl := Bytes.len h
  have hfL := frameL_len r
  obtain ⟨s, rs, hp, h⟩ := WalR.opens h.swap
  refine r_nn rfl ?_
  try simp only [add_mk, Nat.zero_add, Nat.reduceAdd]
  refine r_ld (x := (W.part : Int)) h rfl (by first | with_reducible exact M0 | with_reducible exact M1 | with_reducible exact M2 | with_reducible exact M3 | with_reducible exact M4 | with_reducible exact M5 | with_reducible exact M6 | with_reducible exact M7 | with_reducible exact M8 | with_reducible exact M9 | with_reducible exact M10 | with_reducible exact M11 | with_reducible exact M12) ?_ ?_
  · exact rfl
  refine r_ld (x := (W.used : Int)) h rfl (by first | with_reducible exact M0 | with_reducible exact M1 | with_reducible exact M2 | with_reducible exact M3 | with_reducible exact M4 | with_reducible exact M5 | with_reducible exact M6 | with_reducible exact M7 | with_reducible exact M8 | with_reducible exact M9 | with_reducible exact M10 | with_reducible exact M11 | with_reducible exact M12) ?_ ?_
  · exact rfl
  have shut : Holds B (Bytes ty_uint8 f (frameL r) :: WalR l d W :: DiskR d D :: Γ) w := by
    have h1 := WalR.shuts hp h
    exact h1.swap
  have no : ¬ (0 < W.used ∧ W.size < (W.used + (frameL r).length : Nat)) → wal_Log_Append.s2 k ⟨l, 0, none⟩ rec f (W.part : Int) (W.used : Int) false w := fun hn => by
    rw [if_neg hn] at hk
    unfold wal_Log_Append.s2
    refine r_ite_f rfl ?_
    exact wal_put_spec hD hW (by omega) (by omega) hl hr shut hk
  refine r_ite (fun hq => ?_) (fun hq => ?_)
  · simp only [decide_eq_true_eq] at hq
    refine r_ar (e' := ((W.used + (frameL r).length : Nat) : Int)) (by rw [wrap64 (by omega) (by omega)]; omega) ?_
    refine r_ld (x := W.size) h rfl (by first | with_reducible exact M0 | with_reducible exact M1 | with_reducible exact M2 | with_reducible exact M3 | with_reducible exact M4 | with_reducible exact M5 | with_reducible exact M6 | with_reducible exact M7 | with_reducible exact M8 | with_reducible exact M9 | with_reducible exact M10 | with_reducible exact M11 | with_reducible exact M12) ?_ ?_
    · exact rfl
    by_cases hc : W.size < ((W.used + (frameL r).length : Nat) : Int)
    · rw [decide_eq_true hc]
      rw [if_pos ⟨by omega, hc⟩] at hk
      unfold wal_Log_Append.s2
      refine r_ite_t rfl ?_
      refine r_ar (e' := ((W.part + 1 : Nat) : Int)) (by rw [wrap64 (by omega) (by omega)]; omega) ?_
      refine r_ite (fun h9 => ?_) (fun h9 => ?_)
      · simp only [decide_eq_true_eq] at h9
        rw [if_pos (by omega)] at hk
        exact hk _ hD shut.tail
      · simp only [decide_eq_false_iff_not] at h9
        rw [if_neg (by omega)] at hk
        have h2 := (shut.pick 1 at1).pick 2 at2
        replace h := shut
        replace h := P2 h
        replace h := P2 h
        try simp only [N1, N2, N3, N4, N5, N6, N7] at h
        refine wal_Sync_spec hD hW h fun w hD' h => ?_
        refine r_ite (fun hz => ?_) (fun hz => ?_)
        · have hz' : (W.syncW D).2.2 ≠ 0 := by simpa using hz
          rw [if_pos hz'] at hk
          exact hk _ hD' (h.del 2 at2)
        · have hz' : ¬ (W.syncW D).2.2 ≠ 0 := by simpa using hz
          rw [if_neg hz'] at hk
          replace h := P1 h
          replace h := P1 h
          replace h := P2 h
          try simp only [N1, N2, N3, N4, N5, N6, N7] at h
          exact wal_put_spec (part := W.part + 1) (used := 0) hD' (syncW_ok hW).1 (by omega) (by omega) hl hr h hk
    · rw [decide_eq_false hc]
      exact no fun hh => hc hh.2
  · simp only [decide_eq_false_iff_not] at hq
    exact no fun hh => hq (by omega)
end
end Go.Proofs.Ytdpepgjbambinaa
