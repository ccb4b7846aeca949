/- slices.Sorted of a map's keys. -/
import Derived.Test.YtdpepgjbambinaaSSort
import Derived.Test.YtdpepgjbambinaaMapIter
import Derived.Test.YtdpepgjbambinaaRounds
import Derived.Test.YtdpepgjbambinaaIRLibMaps
namespace Go.Proofs.Ytdpepgjbambinaa
open Go Go.Sep
set_option linter.unusedSimpArgs false
set_option linter.unusedVariables false
set_option maxRecDepth 100000

theorem keyE_str : KeyE .string strV := ⟨fun _ => trivial, fun a b h => by
  have h1 : bs a = bs b := by injection h
  have h2 := congrArg (fun x : ByteArray => x.data.toList) h1
  simpa using h2, fun a => keyE_string.bits (bs a)⟩
theorem sortL_perm {l l' : List (List UInt8)} (h : l.Perm l') : sortL l = sortL l' := by
  have tr : ∀ a b c : List UInt8, decide (a ≤ b) = true → decide (b ≤ c) = true → decide (a ≤ c) = true := fun a b c h1 h2 => by
    simp only [decide_eq_true_eq] at *
    exact List.le_trans h1 h2
  have tot : ∀ a b : List UInt8, (decide (a ≤ b) || decide (b ≤ a)) = true := fun a b => by
    simp only [Bool.or_eq_true, decide_eq_true_eq]
    exact List.le_total a b
  refine List.Perm.eq_of_pairwise (le := fun a b => decide (a ≤ b) = true) (fun a b _ _ h1 h2 => ?_) (List.pairwise_mergeSort tr tot l) (List.pairwise_mergeSort tr tot l') ?_
  · simp only [decide_eq_true_eq] at h1 h2
    exact List.le_antisymm h1 h2
  · exact ((List.mergeSort_perm l _).trans h).trans (List.mergeSort_perm l' _).symm
theorem sortL_len (l : List (List UInt8)) : (sortL l).length = l.length := (List.mergeSort_perm l _).length_eq
theorem sortL_mem {l : List (List UInt8)} {x : List UInt8} : x ∈ sortL l ↔ x ∈ l := (List.mergeSort_perm l _).mem_iff


theorem mapF : mapIs Try.prog ty_map_string_p_disk_file .string ty_p_disk_file := ⟨9, by kernel_rfl, by kernel_rfl⟩
section
variable {B w : World} {Γ : List HProp} {β : Type} {cV : β → Value}
abbrev SlS (s : Sl) (ss : List (List UInt8)) : HProp := SlC ty_string 1 s (ss.map strV)

theorem slices_Collect_keys {mb t1 : Nat} {m : List (List UInt8 × β)} {k : Sl → K} (hm : m.length ≤ 1000000) (h : Holds B (blk t1 (.cells #[.map (some mb)] ty_map_string_p_disk_file (0, 0)) :: MapR strV cV mb m :: Γ) w)
    (hk : ∀ s ss w, ss.Perm (m.map Prod.fst) → Holds B (SlS s ss :: MapR strV cV mb m :: Γ) w → k s w) : slices_Collect_string.call (.func (.func 125) #[] #[.pointer (some ⟨t1, 0, none⟩)]) k w := by
  refine slices_Collect_string_ok _ _ _ ?_
  unfold slices_Collect_string
  refine slices_AppendSeq_s_string_string_ok _ _ _ _ ?_
  unfold slices_AppendSeq_s_string_string
  refine r_new h ?_
  clear h
  intro s2 w h
  try simp only [add_mk, Nat.zero_add, Nat.reduceAdd]
  refine r_rangeF h rfl (by kernel_rfl) fun D l r w hr1 hr2 h hy => ?_
  refine ret_mono (maps_Keys_map_string_disk_file_string_disk_file_1_ok (yv l) ⟨t1, 0, none⟩ (fun w3 => ∃ Δ, Holds B (blk l (.loop r) :: Δ) w3 ∧ ∀ w, Holds B Δ w → (Ld ⟨s2, 0, none⟩ Sl.val fun t12 => TakeD D (k t12)) w) w ?_) fun v w h => h.2
  unfold maps_Keys_map_string_disk_file_string_disk_file_1
  refine r_ld (x := (some mb)) h rfl (by first | with_reducible exact M0 | with_reducible exact M1 | with_reducible exact M2 | with_reducible exact M3 | with_reducible exact M4 | with_reducible exact M5 | with_reducible exact M6 | with_reducible exact M7 | with_reducible exact M8 | with_reducible exact M9 | with_reducible exact M10 | with_reducible exact M11 | with_reducible exact M12) ?_ ?_
  · exact rfl
  replace h := P3 h
  replace h := P3 h
  replace h := P3 h
  replace h := P3 h
  replace h := P4 h
  try simp only [N1, N2, N3, N4, N5, N6, N7] at h
  refine r_range mapF h fun r2 w h => ?_
  replace h := h.del 4 at4
  try simp only [N1, N2, N3, N4, N5, N6, N7] at h
  have h0 := (h.nilSl ty_string 1)
  refine LoopK.of (fun _ w => ∃ (o : Sl) (ss : List (List UInt8)) (left : List (List UInt8 × β)) (cur : Option (List UInt8 × β)), (ss ++ left.map Prod.fst).Perm (m.map Prod.fst) ∧
      Holds B (blk l (.loop r) :: blk D (.deferred (some [])) :: blk s2 (.cells #[o.val] ty_s_string (0, 0)) :: SlS o ss :: MapIt strV cV mb r2 m left cur :: Γ) w)
    (fun _ w => itCount r2 m.length w) ⟨⟨none, 0, 0⟩, [], m, none, List.Perm.refl _, ?_⟩ ?_
  · replace h := h0
    replace h := P1 h
    replace h := P1 h
    replace h := P4 h
    replace h := P4 h
    replace h := P4 h
    try simp only [N1, N2, N3, N4, N5, N6, N7] at h
    exact h
  clear h h0
  rintro _ w ⟨o, ss, left, cur, hperm, h⟩
  have hcnt := it_count (h.pick 4 at4)
  have hlen := hperm.length_eq
  simp only [List.length_append, List.length_map] at hlen
  unfold maps_Keys_map_string_disk_file_string_disk_file_1.b1
  replace h := P3 h
  replace h := P3 h
  replace h := P3 h
  replace h := P3 h
  replace h := P4 h
  try simp only [N1, N2, N3, N4, N5, N6, N7] at h
  refine r_next h (fun hl0 w h => ?_) (fun l1 p l2 w hl1 hpm h => ?_)
  · refine ⟨_, false, rfl, rfl, ?_⟩
    refine r_ite_f rfl ?_
    replace h := P4 h
    replace h := P4 h
    replace h := P4 h
    replace h := P4 h
    try simp only [N1, N2, N3, N4, N5, N6, N7] at h
    refine ⟨_, h, fun w h => ?_⟩
    refine r_ld (x := o) h rfl (by first | with_reducible exact M0 | with_reducible exact M1 | with_reducible exact M2 | with_reducible exact M3 | with_reducible exact M4 | with_reducible exact M5 | with_reducible exact M6 | with_reducible exact M7 | with_reducible exact M8 | with_reducible exact M9 | with_reducible exact M10 | with_reducible exact M11 | with_reducible exact M12) ?_ ?_
    · exact rfl
    refine r_takeD h fun w h => ?_
    replace h := P2 h
    replace h := P2 h
    replace h := D2 h
    try simp only [N1, N2, N3, N4, N5, N6, N7] at h
    rw [hl0] at hperm
    simp only [List.map_nil, List.append_nil] at hperm
    exact hk o ss _ hperm h
  · refine ⟨_, true, rfl, rfl, ?_⟩
    refine r_ite_t rfl ?_
    refine r_entry h ?_
    refine ⟨_, bs p.1, rfl, rfl, ?_⟩
    replace h := P4 h
    replace h := P4 h
    replace h := P4 h
    replace h := P4 h
    try simp only [N1, N2, N3, N4, N5, N6, N7] at h
    refine callY_mono (hy (bs p.1) (fun w => ∃ o', Holds B (blk l (.loop r) :: blk D (.deferred (some [])) :: blk s2 (.cells #[Sl.val o'] ty_s_string (0, 0)) :: SlS o' (ss ++ [p.1]) :: MapIt strV cV mb r2 m (l1 ++ l2) (some p) :: Γ) w) w _ h fun W h => ?_) fun v w hv => ?_
    · have hon : ss.length = o.n := by have := (h.pick 3 at3).slCap.1; simpa using this
      refine r_ld (x := o) h rfl (by first | with_reducible exact M0 | with_reducible exact M1 | with_reducible exact M2 | with_reducible exact M3 | with_reducible exact M4 | with_reducible exact M5 | with_reducible exact M6 | with_reducible exact M7 | with_reducible exact M8 | with_reducible exact M9 | with_reducible exact M10 | with_reducible exact M11 | with_reducible exact M12) ?_ ?_
      · exact rfl
      refine r_new h ?_
      clear h
      intro t10 w h
      try simp only [add_mk, Nat.zero_add, Nat.reduceAdd]
      refine r_append (us := [strV p.1]) (h.pick 4 at4) (by kernel_rfl) (by kernel_rfl) (by' := 16) (by kernel_rfl) zero_ty_string rfl (RdC.of_blk (E := ty_string) (b := t10) (n := 1) (vs := [strV p.1]) (cs := #[strV p.1]) h List.mem_cons_self rfl rfl 1) (by simp [flatV]) (by simp only; omega) (by decide) fun o' w h _ _ => ?_
      try simp only [N1, N2, N3, N4, N5, N6, N7] at h
      first | refine S0 h rfl ?_ rfl ?_ | refine S1 h rfl ?_ rfl ?_ | refine S2 h rfl ?_ rfl ?_ | refine S3 h rfl ?_ rfl ?_ | refine S4 h rfl ?_ rfl ?_ | refine S5 h rfl ?_ rfl ?_ | refine S6 h rfl ?_ rfl ?_ | refine S7 h rfl ?_ rfl ?_ | refine S8 h rfl ?_ rfl ?_
      · first | exact Nat.lt_of_ble_eq_true rfl | (simp; done) | (simp; omega)
      clear h
      intro w h
      try simp only [N1, N2, N3, N4, N5, N6, N7] at h
      replace h := P5 h
      replace h := P1 h
      replace h := P5 h
      replace h := P5 h
      replace h := P5 h
      replace h := D5 h
      try simp only [N1, N2, N3, N4, N5, N6, N7] at h
      refine r_endR h fun w h => ?_
      have e : ({ ({ r with state := .busy } : Loop) with state := .ready, pending := none } : Loop) = r := by
        cases r
        simp only at hr1 hr2
        simp only [hr1, hr2]
      rw [e] at h
      refine ⟨o', ?_⟩
      have e2 : ss.map strV ++ [strV p.1] = (ss ++ [p.1]).map strV := by simp
      rw [e2] at h
      exact h
    · obtain ⟨rfl, o', h⟩ := hv
      refine ⟨true, rfl, ?_⟩
      refine r_ite_f rfl ?_
      have hcnt2 := it_count (h.pick 4 at4)
      refine ⟨⟨o', _, _, _, ?_, h⟩, ?_⟩
      · refine List.Perm.trans ?_ hperm
        rw [hl1]
        simp only [List.map_append, List.map_cons, List.append_assoc]
        refine List.Perm.append_left _ ?_
        show (p.1 :: (l1.map Prod.fst ++ l2.map Prod.fst)).Perm _
        exact List.perm_middle.symm
      · rw [hcnt, hcnt2, hl1]
        simp

theorem sorted_keys_spec {mb : Nat} {m : List (List UInt8 × β)} {k : Sl → K} (hm : m.length ≤ 1000000) (h : Holds B (MapR strV cV mb m :: Γ) w)
    (hk : ∀ s w, Holds B (SlS s (sortL (m.map Prod.fst)) :: MapR strV cV mb m :: Γ) w → k s w) :
    maps_Keys_map_string_disk_file_string_disk_file.call (some mb) (fun t7 => slices_Sorted_string.call t7 k) w := by
  refine maps_Keys_map_string_disk_file_string_disk_file_ok _ _ _ ?_
  unfold maps_Keys_map_string_disk_file_string_disk_file
  refine r_new h ?_
  clear h
  intro m1 w h
  try simp only [add_mk, Nat.zero_add, Nat.reduceAdd]
  refine slices_Sorted_string_ok _ _ _ ?_
  unfold slices_Sorted_string
  refine slices_Collect_keys hm h fun s ss w hp h => ?_
  have hl := hp.length_eq
  rw [List.length_map] at hl
  refine slices_Sort_spec (by omega) h fun w h => ?_
  rw [sortL_perm hp] at h
  exact hk _ _ h
end
end Go.Proofs.Ytdpepgjbambinaa
