/- A body as frames. -/
import Derived.Test.YtgnkminakongkaaSPen
import Derived.Test.YtgnkminakongkaaRounds
import Derived.Test.YtgnkminakongkaaIRSnap
namespace Go.Proofs.Ytgnkminakongkaa
open Go Go.Sep
set_option linter.unusedSimpArgs false
set_option linter.unusedVariables false
set_option maxRecDepth 100000

def framesL (b : List UInt8) : List UInt8 := if h : b = [] then [] else frameL (b.take 1024) ++ framesL (b.drop 1024)
termination_by b.length
decreasing_by
  have : 0 < b.length := List.length_pos_iff.2 h
  simp; omega
theorem framesL_nil : framesL [] = [] := by rw [framesL, dif_pos rfl]
theorem framesL_cons {b : List UInt8} (h : b ≠ []) : framesL b = frameL (b.take 1024) ++ framesL (b.drop 1024) := by rw [framesL, dif_neg h]
def packL (b : List UInt8) : List UInt8 := frameL (numL b.length) ++ framesL b
theorem framesL_len : ∀ (n : Nat) (b : List UInt8), b.length = n → (framesL b).length ≤ 7 * b.length := by
  intro n
  induction n using Nat.strongRecOn with
  | _ n ih =>
    intro b hb
    by_cases h : b = []
    · subst h; rw [framesL_nil]; simp
    · have hp : 0 < b.length := List.length_pos_iff.2 h
      rw [framesL_cons h, List.length_append, frameL_len]
      have := ih (b.drop 1024).length (by simp; omega) _ rfl
      simp only [List.length_drop, List.length_take] at this ⊢
      omega


section
variable {B w : World} {Γ : List HProp}
theorem slices_Chunk_spec {s : Sl} {k : Value → K} (h : Holds B Γ w)
    (hk : ∀ s2 n3 w, Holds B (blk s2 (.cells #[s.val] ty_s_uint8 (0, 0)) :: blk n3 (.cells #[.int .i64 1024] ty_int (0, 0)) :: Γ) w → k (.func (.func 99) #[] #[.pointer (some ⟨s2, 0, none⟩), .pointer (some ⟨n3, 0, none⟩)]) w) : slices_Chunk_s_byte_byte.call s 1024 k w := by
  refine slices_Chunk_s_byte_byte_ok _ _ _ _ ?_
  unfold slices_Chunk_s_byte_byte
  refine r_new h ?_
  clear h
  intro s2 w h
  try simp only [add_mk, Nat.zero_add, Nat.reduceAdd]
  refine r_new h ?_
  clear h
  intro n3 w h
  try simp only [add_mk, Nat.zero_add, Nat.reduceAdd]
  refine r_ld (x := (1024 : Int)) h rfl (by first | with_reducible exact M0 | with_reducible exact M1 | with_reducible exact M2 | with_reducible exact M3 | with_reducible exact M4 | with_reducible exact M5 | with_reducible exact M6 | with_reducible exact M7 | with_reducible exact M8 | with_reducible exact M9 | with_reducible exact M10 | with_reducible exact M11 | with_reducible exact M12) ?_ ?_
  · exact rfl
  refine r_ite_f (by decide) ?_
  unfold slices_Chunk_s_byte_byte.s1
  exact hk s2 n3 _ h.swap

theorem rdB_cut {w : World} {s : Sl} {d : List UInt8} {i n : Nat} (h : RdB w s d) (hi : i + n ≤ s.n) (hcap : s.n ≤ s.c) (hsp : ∀ a, s.a = some a → a.spot = none) : RdB w ⟨cutA s.a i (i + n) 1, n, n⟩ ((d.drop i).take n) := by
  have h1 := h.take (m := i + n) (c := i + n) hi
  have h2 := h1.drop (l := i) (c := i + n) (by simp only; omega) (by simp only; omega) hsp
  simp only [Nat.mul_one] at h2
  have e : i + n - i = n := by omega
  rw [e] at h2
  show RdC w _ 1 (((d.drop i).take n).map byteV)
  rw [List.map_take, List.map_drop]
  rw [List.drop_take, e] at h2
  exact h2

theorem snap_Pack_spec {s : Sl} {xs : List UInt8} {k : Sl → K} (hl : xs.length ≤ 100000) (hcap : s.n ≤ s.c) (h : Holds B Γ w) (hr : ∀ w, Holds B Γ w → RdB w s xs)
    (hk : ∀ f w, Holds B (Bytes ty_uint8 f (packL xs) :: Γ) w → k f w) : snap_Pack.call s k w := by
  have hn : xs.length = s.n := by have := (hr w h).len; simpa using this
  refine snap_Pack_ok _ _ _ ?_
  unfold snap_Pack
  refine r_new h ?_
  clear h
  intro t10 w h
  try simp only [add_mk, Nat.zero_add, Nat.reduceAdd]
  rw [← hn]
  refine r_ar (wrapU64 (by omega) (by omega)) ?_
  replace h := (h.nilSl ty_uint8 1).swap
  refine code_Pen_Num_spec (xs := []) (n := xs.length) (by simp; omega) h fun g' w h => ?_
  have hnl : (numL xs.length).length ≤ 3 := numL_len 2 _ (by omega)
  refine code_Pen_Data_spec (by simp; omega) h fun d w h => ?_
  simp only [List.nil_append] at h
  refine code_Frame_spec (by omega) h (fun w h => Bytes.rd h List.mem_cons_self) fun f w h => ?_
  refine r_new h ?_
  clear h
  intro out w h
  try simp only [add_mk, Nat.zero_add, Nat.reduceAdd]
  first | refine S0 h rfl ?_ rfl ?_ | refine S1 h rfl ?_ rfl ?_ | refine S2 h rfl ?_ rfl ?_ | refine S3 h rfl ?_ rfl ?_ | refine S4 h rfl ?_ rfl ?_ | refine S5 h rfl ?_ rfl ?_ | refine S6 h rfl ?_ rfl ?_ | refine S7 h rfl ?_ rfl ?_ | refine S8 h rfl ?_ rfl ?_
  · first | exact Nat.lt_of_ble_eq_true rfl | (simp; done) | (simp; omega)
  clear h
  intro w h
  try simp only [N1, N2, N3, N4, N5, N6, N7] at h
  refine slices_Chunk_spec h fun s2 n3 w h => ?_
  refine r_rangeF h rfl (by kernel_rfl) fun D l r w hr1 hr2 h hy => ?_
  have hfl := framesL_len _ xs rfl
  refine ret_mono (slices_Chunk_s_byte_byte_1_ok (yv l) ⟨s2, 0, none⟩ ⟨n3, 0, none⟩ (fun w3 => ∃ Δ, Holds B (blk l (.loop r) :: Δ) w3 ∧ ∀ w, Holds B Δ w → (Ld ⟨out, 0, none⟩ Sl.val fun t33 => TakeD D (k t33)) w) w ?_) fun v w h => h.2
  unfold slices_Chunk_s_byte_byte_1
  refine LoopK.of (fun t w => ∃ (i : Nat) (o : Sl) (ys : List UInt8), t = (i : Int) ∧ i ≤ xs.length + 1024 ∧ ys ++ framesL (xs.drop i) = packL xs ∧
      Holds B (blk l (.loop r) :: blk D (.deferred (some [])) :: blk s2 (.cells #[s.val] ty_s_uint8 (0, 0)) :: blk n3 (.cells #[.int .i64 1024] ty_int (0, 0)) :: blk out (.cells #[o.val] ty_s_uint8 (0, 0)) :: Bytes ty_uint8 o ys :: Γ) w)
    (fun t _ => ((s.n : Int) - t).toNat) ⟨0, f, frameL (numL xs.length), rfl, by omega, rfl, by
      replace h := P5 h
      replace h := P5 h
      replace h := P5 h
      replace h := P5 h
      replace h := P5 h
      replace h := P5 h
      replace h := D6 h
      try simp only [N1, N2, N3, N4, N5, N6, N7] at h
      exact h⟩ ?_
  clear h
  rintro t w ⟨i, o, ys, rfl, hi, he, h⟩
  unfold slices_Chunk_s_byte_byte_1.b1
  refine r_ld (x := s) h rfl (by first | with_reducible exact M0 | with_reducible exact M1 | with_reducible exact M2 | with_reducible exact M3 | with_reducible exact M4 | with_reducible exact M5 | with_reducible exact M6 | with_reducible exact M7 | with_reducible exact M8 | with_reducible exact M9 | with_reducible exact M10 | with_reducible exact M11 | with_reducible exact M12) ?_ ?_
  · exact rfl
  have hR : ∀ w, Holds B (blk l (.loop r) :: blk D (.deferred (some [])) :: blk s2 (.cells #[s.val] ty_s_uint8 (0, 0)) :: blk n3 (.cells #[.int .i64 1024] ty_int (0, 0)) :: blk out (.cells #[o.val] ty_s_uint8 (0, 0)) :: Bytes ty_uint8 o ys :: Γ) w → RdB w s xs := fun w h => hr _ h.tail.tail.tail.tail.tail.tail
  refine r_ite (fun hb => ?_) (fun hb => ?_)
  · simp only [decide_eq_true_eq] at hb
    have hne : xs.drop i ≠ [] := fun e => by have := congrArg List.length e; simp at this; omega
    rw [framesL_cons hne] at he
    have hsp := rd_spot (hR w h) (fun e => by rw [e] at hn; simp at hn; omega)
    refine r_dr h ?_
    clear h
    intro w h
    refine r_ld (x := (1024 : Int)) h rfl (by first | with_reducible exact M0 | with_reducible exact M1 | with_reducible exact M2 | with_reducible exact M3 | with_reducible exact M4 | with_reducible exact M5 | with_reducible exact M6 | with_reducible exact M7 | with_reducible exact M8 | with_reducible exact M9 | with_reducible exact M10 | with_reducible exact M11 | with_reducible exact M12) ?_ ?_
    · exact rfl
    refine r_ld (x := s) h rfl (by first | with_reducible exact M0 | with_reducible exact M1 | with_reducible exact M2 | with_reducible exact M3 | with_reducible exact M4 | with_reducible exact M5 | with_reducible exact M6 | with_reducible exact M7 | with_reducible exact M8 | with_reducible exact M9 | with_reducible exact M10 | with_reducible exact M11 | with_reducible exact M12) ?_ ?_
    · exact rfl
    refine ⟨_, by omega, by omega, by omega, by omega, rfl, ?_⟩
    simp only [Int.toNat_natCast]
    obtain ⟨m, hm⟩ : ∃ m : Nat, m = min 1024 (xs.length - i) := ⟨_, rfl⟩
    refine r_ar (e' := (m : Int)) (by split <;> omega) ?_
    refine r_ld (x := s) h rfl (by first | with_reducible exact M0 | with_reducible exact M1 | with_reducible exact M2 | with_reducible exact M3 | with_reducible exact M4 | with_reducible exact M5 | with_reducible exact M6 | with_reducible exact M7 | with_reducible exact M8 | with_reducible exact M9 | with_reducible exact M10 | with_reducible exact M11 | with_reducible exact M12) ?_ ?_
    · exact rfl
    refine r_ar (e' := ((i + m : Nat) : Int)) (by rw [wrap64 (by omega) (by omega)]; omega) ?_
    refine r_ar (e' := ((i + m : Nat) : Int)) (by rw [wrap64 (by omega) (by omega)]; omega) ?_
    refine ⟨_, by omega, by omega, by omega, by omega, rfl, ?_⟩
    simp only [Int.toNat_natCast, show i + m - i = m by omega]
    have hmt : (xs.drop i).take 1024 = (xs.drop i).take m := by
      have h1 : (xs.drop i).length = xs.length - i := by simp
      by_cases hle : xs.length - i ≤ 1024
      · rw [List.take_of_length_le (by omega), List.take_of_length_le (by omega)]
      · have : m = 1024 := by omega
        rw [this]
    have hyl : ys.length ≤ 800000 := by
      have h1 := congrArg List.length he
      have h2 : (packL xs).length ≤ 9 + 7 * xs.length := by
        unfold packL
        rw [List.length_append, frameL_len]
        omega
      simp only [List.length_append] at h1
      omega
    refine callY_mono (hy ⟨cutA s.a i (i + m) 1, m, m⟩ (fun w => ∃ o', Holds B (blk l (.loop r) :: blk D (.deferred (some [])) :: blk s2 (.cells #[s.val] ty_s_uint8 (0, 0)) :: blk n3 (.cells #[.int .i64 1024] ty_int (0, 0)) :: blk out (.cells #[Sl.val o'] ty_s_uint8 (0, 0)) :: Bytes ty_uint8 o' (ys ++ frameL ((xs.drop i).take 1024)) :: Γ) w) w _ h fun W h => ?_) fun v w hv => ?_
    · have hc := fun w (h : Holds B (blk l (.loop { r with state := .busy }) :: blk D (.deferred (some [])) :: blk s2 (.cells #[s.val] ty_s_uint8 (0, 0)) :: blk n3 (.cells #[.int .i64 1024] ty_int (0, 0)) :: blk out (.cells #[o.val] ty_s_uint8 (0, 0)) :: Bytes ty_uint8 o ys :: Γ) w) => rdB_cut (i := i) (n := m) (hr _ h.tail.tail.tail.tail.tail.tail) (by omega) hcap hsp
      rw [hmt]
      have hml : ((xs.drop i).take m).length = m := by simp; omega
      refine code_Frame_spec (b := (xs.drop i).take m) (by omega) h hc fun f w h => ?_
      refine r_ld (x := o) h rfl (by first | with_reducible exact M0 | with_reducible exact M1 | with_reducible exact M2 | with_reducible exact M3 | with_reducible exact M4 | with_reducible exact M5 | with_reducible exact M6 | with_reducible exact M7 | with_reducible exact M8 | with_reducible exact M9 | with_reducible exact M10 | with_reducible exact M11 | with_reducible exact M12) ?_ ?_
      · exact rfl
      have hfl2 := frameL_len ((xs.drop i).take m)
      replace h := P5 h
      replace h := P5 h
      replace h := P5 h
      replace h := P5 h
      replace h := P5 h
      replace h := P5 h
      replace h := P6 h
      try simp only [N1, N2, N3, N4, N5, N6, N7] at h
      refine r_appB h (Bytes.rd h (List.mem_cons_of_mem _ List.mem_cons_self)) (by omega) fun o' w h _ _ => ?_
      first | refine S0 h rfl ?_ rfl ?_ | refine S1 h rfl ?_ rfl ?_ | refine S2 h rfl ?_ rfl ?_ | refine S3 h rfl ?_ rfl ?_ | refine S4 h rfl ?_ rfl ?_ | refine S5 h rfl ?_ rfl ?_ | refine S6 h rfl ?_ rfl ?_ | refine S7 h rfl ?_ rfl ?_ | refine S8 h rfl ?_ rfl ?_
      · first | exact Nat.lt_of_ble_eq_true rfl | (simp; done) | (simp; omega)
      clear h
      intro w h
      try simp only [N1, N2, N3, N4, N5, N6, N7] at h
      replace h := P6 h
      replace h := P6 h
      replace h := P6 h
      replace h := P6 h
      replace h := P6 h
      replace h := D6 h
      try simp only [N1, N2, N3, N4, N5, N6, N7] at h
      refine r_endR h fun w h => ?_
      have e : ({ ({ r with state := .busy } : Loop) with state := .ready, pending := none } : Loop) = r := by
        cases r
        simp only at hr1 hr2
        simp only [hr1, hr2]
      rw [e] at h
      exact ⟨o', h⟩
    · obtain ⟨rfl, o', h⟩ := hv
      refine ⟨true, rfl, ?_⟩
      refine r_ite_f rfl ?_
      refine r_ld (x := (1024 : Int)) h rfl (by first | with_reducible exact M0 | with_reducible exact M1 | with_reducible exact M2 | with_reducible exact M3 | with_reducible exact M4 | with_reducible exact M5 | with_reducible exact M6 | with_reducible exact M7 | with_reducible exact M8 | with_reducible exact M9 | with_reducible exact M10 | with_reducible exact M11 | with_reducible exact M12) ?_ ?_
      · exact rfl
      refine r_ar (e' := ((i + 1024 : Nat) : Int)) (by rw [wrap64 (by omega) (by omega)]; omega) ?_
      refine ⟨⟨i + 1024, o', _, rfl, by omega, ?_, h⟩, by omega⟩
      rw [← he, List.append_assoc, List.drop_drop]
  · simp only [decide_eq_false_iff_not] at hb
    have e0 : xs.drop i = [] := List.drop_of_length_le (by omega)
    rw [e0, framesL_nil, List.append_nil] at he
    subst he
    refine ⟨_, h, fun w h => ?_⟩
    refine r_ld (x := o) h rfl (by first | with_reducible exact M0 | with_reducible exact M1 | with_reducible exact M2 | with_reducible exact M3 | with_reducible exact M4 | with_reducible exact M5 | with_reducible exact M6 | with_reducible exact M7 | with_reducible exact M8 | with_reducible exact M9 | with_reducible exact M10 | with_reducible exact M11 | with_reducible exact M12) ?_ ?_
    · exact rfl
    replace h := h
    refine r_takeD h fun w h => ?_
    replace h := P3 h
    replace h := D1 h
    replace h := D1 h
    replace h := D1 h
    try simp only [N1, N2, N3, N4, N5, N6, N7] at h
    exact hk _ _ h
end
end Go.Proofs.Ytgnkminakongkaa
