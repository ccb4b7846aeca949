/- DiskPlays. -/
import Derived.Test.YtgnkminakongkaaSSame3
--! short
namespace Go.Proofs.Ytgnkminakongkaa
open Go Go.Sep
set_option linter.unusedSimpArgs false
set_option linter.unusedVariables false
set_option maxRecDepth 100000
section
variable {B w : World} {Γ : List HProp}
theorem law03_DiskPlays_spec {k : Bool → K} {room : Int} {s : Sl} {L : List OpX} (hs : RdC B s 6 (L.flatMap opF)) (hL : ∀ x ∈ L, OpOk B x) (h : Holds B Γ w) (hk : ∀ w, Holds B Γ w → k true w) : law03_DiskPlays.call room s k w := by
  have hsn : L.length = s.n := by have := hs.len; rw [flatMap_len opF 6 opF_len] at this; omega
  refine law03_DiskPlays_ok _ _ _ _ ?_
  unfold law03_DiskPlays
  refine law03_speaks_spec h fun w h => ?_
  refine r_ite_f rfl ?_
  refine law03_great_spec hs hL h fun r w hr h => ?_
  refine r_ite (fun _ => hk _ h) (fun hr0 => ?_)
  obtain ⟨hL2, hfit⟩ := hr hr0
  refine new_spec h (fun hb => ?_) fun d w h1 h2 h => ?_
  · have g : law03_DiskPlays.s1 k room s none 1 true w := by
      unfold law03_DiskPlays.s1 law03_DiskPlays.s2
      refine r_ite_t rfl (r_ite_t rfl (r_ite_t rfl ?_))
      refine r_ite (fun _ => hk _ h) (fun hq => ?_)
      simp only [decide_eq_false_iff_not] at hq
      rw [decide_eq_true (by omega)]
      exact hk _ h
    refine r_ite (fun _ => g) (fun hq => ?_)
    refine r_ite (fun _ => g) (fun _ => g)
  · refine r_ite_f (by simp only [decide_eq_false_iff_not]; omega) ?_
    refine r_ite_f (by simp only [decide_eq_false_iff_not]; omega) ?_
    unfold law03_DiskPlays.s1
    refine r_ite_f rfl ?_
    refine ref_NewR_spec h fun m w h => ?_
    refine LoopK.of (fun t w => ∃ (j d m : Nat) (D M : DiskD), t = (some ⟨d, 0, none⟩, some ⟨m, 0, none⟩, (j : Int)) ∧ j ≤ L.length ∧ OkD D ∧ RelD D M ∧ Holds B (DiskR d D :: RefR m M :: Γ) w) (fun t _ => ((s.n : Int) - t.2.2).toNat) ⟨0, d, m, _, _, rfl, by omega, new_ok h1 h2, rel_new room, h.swap⟩ ?_
    clear h
    rintro t w ⟨j, d, m, D, M, rfl, hj, hD, hR, h⟩
    dsimp only
    unfold law03_DiskPlays.b3
    refine r_ite (fun hb => ?_) (fun _ => hk _ h.tail.tail)
    simp only [decide_eq_true_eq] at hb
    have hjl : j < L.length := by omega
    have hx : L[j]? = some L[j] := List.getElem?_eq_getElem hjl
    generalize L[j] = x at hx
    have hxo := hL x (List.mem_of_getElem? hx)
    have hxf := hfit x (List.mem_of_getElem? hx)
    have hxk := hxf.keeps
    refine r_idxN opF opF_len (by decide) (hs.old h) hx (cs := opA x) rfl fun t50 => ?_
    refine r_new h ?_
    clear h
    intro o9 w h
    try simp only [add_mk, Nat.zero_add, Nat.reduceAdd]
    first | refine r_stN 0 h rfl (by with_reducible exact at0) ?_ ?_ (fun _ _ => nofz _) ?_ ?_ | refine r_stN 1 h rfl (by with_reducible exact at1) ?_ ?_ (fun _ _ => nofz _) ?_ ?_ | refine r_stN 2 h rfl (by with_reducible exact at2) ?_ ?_ (fun _ _ => nofz _) ?_ ?_ | refine r_stN 3 h rfl (by with_reducible exact at3) ?_ ?_ (fun _ _ => nofz _) ?_ ?_ | refine r_stN 4 h rfl (by with_reducible exact at4) ?_ ?_ (fun _ _ => nofz _) ?_ ?_ | refine r_stN 5 h rfl (by with_reducible exact at5) ?_ ?_ (fun _ _ => nofz _) ?_ ?_ | refine r_stN 6 h rfl (by with_reducible exact at6) ?_ ?_ (fun _ _ => nofz _) ?_ ?_ | refine r_stN 7 h rfl (by with_reducible exact at7) ?_ ?_ (fun _ _ => nofz _) ?_ ?_
    · rfl
    · rfl
    · simp [flatV]
    clear h
    intro w h
    try simp only [List.set_cons_zero, List.set_cons_succ, List.eraseIdx_zero, List.eraseIdx_cons_zero, List.eraseIdx_cons_succ, List.setIfInBounds_toArray, List.tail_cons] at h
    try simp only [add_mk, Nat.zero_add, Nat.reduceAdd]
    have s4 : ∀ (d m : Nat) (D M : DiskD) w, OkD D → RelD D M → Holds B (DiskR d D :: RefR m M :: Γ) w → law03_DiskPlays.s4 k (fun d5_3 m7_3 t48_3 w' => (∃ (j d m : Nat) (D M : DiskD), (d5_3, m7_3, t48_3) = (some ⟨d, 0, none⟩, some ⟨m, 0, none⟩, (j : Int)) ∧ j ≤ L.length ∧ OkD D ∧ RelD D M ∧ Holds B (DiskR d D :: RefR m M :: Γ) w') ∧ ((s.n : Int) - t48_3).toNat < ((s.n : Int) - (j : Int)).toNat) (some ⟨d, 0, none⟩) (some ⟨m, 0, none⟩) s (s.n : Int) (j : Int) w := by
      clear h hD hR
      intro d m D M w hD hR h
      unfold law03_DiskPlays.s4
      refine law03_same_spec hD hR h fun w h => ?_
      refine r_ite_f rfl ?_
      refine r_add64 (by omega) (by omega) ?_
      exact ⟨⟨j + 1, d, m, D, M, rfl, by omega, hD, hR, h⟩, by omega⟩
    refine r_ld (x := x.1.kind) h rfl (by first | with_reducible exact M0 | with_reducible exact M1 | with_reducible exact M2 | with_reducible exact M3 | with_reducible exact M4 | with_reducible exact M5 | with_reducible exact M6 | with_reducible exact M7 | with_reducible exact M8 | with_reducible exact M9 | with_reducible exact M10 | with_reducible exact M11 | with_reducible exact M12) ?_ ?_
    · exact rfl
    refine r_ar rfl ?_
    refine r_ite (fun _ => ?_) (fun _ => ?_)
    · refine r_new h ?_
      clear h
      intro t57 w h
      try simp only [add_mk, Nat.zero_add, Nat.reduceAdd]
      refine r_ld (x := x.2.2) h rfl (by first | with_reducible exact M0 | with_reducible exact M1 | with_reducible exact M2 | with_reducible exact M3 | with_reducible exact M4 | with_reducible exact M5 | with_reducible exact M6 | with_reducible exact M7 | with_reducible exact M8 | with_reducible exact M9 | with_reducible exact M10 | with_reducible exact M11 | with_reducible exact M12) ?_ ?_
      · exact rfl
      have hrd : ∀ {Δ : List HProp} w, Holds B Δ w → RdC w x.2.2 1 (x.1.keeps.map (Value.int .i64)) := fun w h => hxo.keeps.old h
      have hdn : x.1.keeps.length = x.2.2.n := by have := (hrd w h).len; simpa using this
      refine r_append (vs := []) (h.imp (blk_SlC rfl rfl)) (by kernel_rfl) (by kernel_rfl) (by' := 8) (by kernel_rfl) zero_ty_int rfl (hrd w h) (ints_flat _) (by simp only; omega) (by decide) fun e w h hen _ => ?_
      simp only [List.nil_append] at h
      replace h := h.pick 1 at1
      try simp only [List.set_cons_zero, List.set_cons_succ, List.eraseIdx_zero, List.eraseIdx_cons_zero, List.eraseIdx_cons_succ, List.setIfInBounds_toArray, List.tail_cons] at h
      replace h := h.pick 1 at1
      try simp only [List.set_cons_zero, List.set_cons_succ, List.eraseIdx_zero, List.eraseIdx_cons_zero, List.eraseIdx_cons_succ, List.setIfInBounds_toArray, List.tail_cons] at h
      replace h := h.pick 3 at3
      try simp only [List.set_cons_zero, List.set_cons_succ, List.eraseIdx_zero, List.eraseIdx_cons_zero, List.eraseIdx_cons_succ, List.setIfInBounds_toArray, List.tail_cons] at h
      replace h := h.pick 3 at3
      try simp only [List.set_cons_zero, List.set_cons_succ, List.eraseIdx_zero, List.eraseIdx_cons_zero, List.eraseIdx_cons_succ, List.setIfInBounds_toArray, List.tail_cons] at h
      refine crash_spec (ks := x.1.keeps) hD h (fun w h => h.rdC (List.mem_cons_of_mem _ List.mem_cons_self)) fun o w h => ?_
      refine r_ite_f rfl ?_
      replace h := h.pick 4 at4
      try simp only [List.set_cons_zero, List.set_cons_succ, List.eraseIdx_zero, List.eraseIdx_cons_zero, List.eraseIdx_cons_succ, List.setIfInBounds_toArray, List.tail_cons] at h
      replace h := h.pick 1 at1
      try simp only [List.set_cons_zero, List.set_cons_succ, List.eraseIdx_zero, List.eraseIdx_cons_zero, List.eraseIdx_cons_succ, List.setIfInBounds_toArray, List.tail_cons] at h
      replace h := h.pick 3 at3
      try simp only [List.set_cons_zero, List.set_cons_succ, List.eraseIdx_zero, List.eraseIdx_cons_zero, List.eraseIdx_cons_succ, List.setIfInBounds_toArray, List.tail_cons] at h
      replace h := h.pick 3 at3
      try simp only [List.set_cons_zero, List.set_cons_succ, List.eraseIdx_zero, List.eraseIdx_cons_zero, List.eraseIdx_cons_succ, List.setIfInBounds_toArray, List.tail_cons] at h
      replace h := h.del 4 at4
      try simp only [List.set_cons_zero, List.set_cons_succ, List.eraseIdx_zero, List.eraseIdx_cons_zero, List.eraseIdx_cons_succ, List.setIfInBounds_toArray, List.tail_cons] at h
      refine law03_same_spec hD hR h fun w h => ?_
      unfold law03_DiskPlays.s5
      refine r_ite_f rfl ?_
      refine r_ld (x := x.2.2) h rfl (by first | with_reducible exact M0 | with_reducible exact M1 | with_reducible exact M2 | with_reducible exact M3 | with_reducible exact M4 | with_reducible exact M5 | with_reducible exact M6 | with_reducible exact M7 | with_reducible exact M8 | with_reducible exact M9 | with_reducible exact M10 | with_reducible exact M11 | with_reducible exact M12) ?_ ?_
      · exact rfl
      replace h := h.pick 3 at3
      try simp only [List.set_cons_zero, List.set_cons_succ, List.eraseIdx_zero, List.eraseIdx_cons_zero, List.eraseIdx_cons_succ, List.setIfInBounds_toArray, List.tail_cons] at h
      replace h := h.pick 3 at3
      try simp only [List.set_cons_zero, List.set_cons_succ, List.eraseIdx_zero, List.eraseIdx_cons_zero, List.eraseIdx_cons_succ, List.setIfInBounds_toArray, List.tail_cons] at h
      replace h := h.pick 3 at3
      try simp only [List.set_cons_zero, List.set_cons_succ, List.eraseIdx_zero, List.eraseIdx_cons_zero, List.eraseIdx_cons_succ, List.setIfInBounds_toArray, List.tail_cons] at h
      replace h := h.del 3 at3
      try simp only [List.set_cons_zero, List.set_cons_succ, List.eraseIdx_zero, List.eraseIdx_cons_zero, List.eraseIdx_cons_succ, List.setIfInBounds_toArray, List.tail_cons] at h
      refine ref_Crash_spec (ks := x.1.keeps) (hR.ok hD) h (fun w h => hrd w h) fun o2 w h => ?_
      replace h := h.pick 2 at2
      try simp only [List.set_cons_zero, List.set_cons_succ, List.eraseIdx_zero, List.eraseIdx_cons_zero, List.eraseIdx_cons_succ, List.setIfInBounds_toArray, List.tail_cons] at h
      replace h := h.del 2 at2
      try simp only [List.set_cons_zero, List.set_cons_succ, List.eraseIdx_zero, List.eraseIdx_cons_zero, List.eraseIdx_cons_succ, List.setIfInBounds_toArray, List.tail_cons] at h
      replace h := h.del 2 at2
      try simp only [List.set_cons_zero, List.set_cons_succ, List.eraseIdx_zero, List.eraseIdx_cons_zero, List.eraseIdx_cons_succ, List.setIfInBounds_toArray, List.tail_cons] at h
      exact s4 _ _ _ _ _ (hD.crash _) (rel_crash hR hD _) h
    · refine r_ldN h rfl (by first | with_reducible exact M0 | with_reducible exact M1 | with_reducible exact M2 | with_reducible exact M3 | with_reducible exact M4 | with_reducible exact M5 | with_reducible exact M6 | with_reducible exact M7 | with_reducible exact M8 | with_reducible exact M9 | with_reducible exact M10 | with_reducible exact M11 | with_reducible exact M12) ?_ ?_
      · rfl
      replace h := h.pick 2 at2
      try simp only [List.set_cons_zero, List.set_cons_succ, List.eraseIdx_zero, List.eraseIdx_cons_zero, List.eraseIdx_cons_succ, List.setIfInBounds_toArray, List.tail_cons] at h
      replace h := h.pick 2 at2
      try simp only [List.set_cons_zero, List.set_cons_succ, List.eraseIdx_zero, List.eraseIdx_cons_zero, List.eraseIdx_cons_succ, List.setIfInBounds_toArray, List.tail_cons] at h
      replace h := h.del 2 at2
      try simp only [List.set_cons_zero, List.set_cons_succ, List.eraseIdx_zero, List.eraseIdx_cons_zero, List.eraseIdx_cons_succ, List.setIfInBounds_toArray, List.tail_cons] at h
      refine law03_step_spec hD hR hxo hxf h fun D' M' w hD' hR' h => ?_
      refine r_ite_f rfl ?_
      exact s4 _ _ _ _ _ hD' hR' h
end
end Go.Proofs.Ytgnkminakongkaa

namespace Go.Proofs.Ytgnkminakongkaa
open Go Go.Sep Go.RowKit
theorem DiskPlays_walk (W : World) (x : Int) (_ : (Lit.int .i64 x).wf = true) (s : Sl) (y0 : Rdy W Sh_ty_s_argosylaw03_Op (Sl.val s).cells.toList) :
    Calls Try.prog 10 #[.int .i64 x, s.val] W (Ret fun v w' => v = .bool true ∧ Below W.heap.size W w') := by
  obtain ⟨h1, h2⟩ := rdy_sl y0
  obtain ⟨L, _, hL, hd⟩ := rd_list opF (fun x => OpOk W x) opF_len h1 h2 fun cs hc hr => rdy_op hc hr
  exact law_call (law03_DiskPlays_spec hL hd (Holds.start W) fun w h => ⟨rfl, h⟩)
end Go.Proofs.Ytgnkminakongkaa
