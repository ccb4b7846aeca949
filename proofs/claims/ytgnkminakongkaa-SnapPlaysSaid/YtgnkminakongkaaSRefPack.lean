/- The document's numbers read, its packs. -/
import Derived.Test.YtgnkminakongkaaSRefFrame
import Derived.Test.YtgnkminakongkaaIRRef08
namespace Go.Proofs.Ytgnkminakongkaa
open Go Go.Sep
set_option linter.unusedSimpArgs false
set_option linter.unusedVariables false
set_option maxRecDepth 100000

theorem numL_shape : ∀ (n : Nat), ∃ l b, numL n = l ++ [b] ∧ (∀ x ∈ l, 128 ≤ x.toNat) ∧ b.toNat < 128 ∧ (b.toNat ≠ 0 ∨ l = []) := by
  intro n
  induction n using Nat.strongRecOn with
  | _ n ih =>
    by_cases hn : n < 128
    · exact ⟨[], u8 n, by rw [numL_small hn]; rfl, by simp, by rw [u8N]; omega, .inr rfl⟩
    · obtain ⟨l, b, h1, h2, h3, h4⟩ := ih (n / 128) (by omega)
      refine ⟨u8 (n % 128 + 128) :: l, b, by rw [numL_big hn, h1]; rfl, ?_, h3, ?_⟩
      · intro x hx
        rcases List.mem_cons.1 hx with rfl | hx
        · rw [u8N]; omega
        · exact h2 x hx
      · left
        rcases h4 with h4 | h4
        · exact h4
        · subst h4
          intro h0
          have hb : b = u8 0 := UInt8.toNat_inj.1 (by rw [h0]; rfl)
          have h5 : numL (n / 128) = numL 0 := by rw [h1, hb, numL_small (by decide : 0 < 128)]; rfl
          have := numL_inj _ _ h5
          omega
def valL : List UInt8 → Nat
  | [] => 0
  | b :: l => b.toNat % 128 + 128 * valL l
theorem valL_snoc : ∀ (l : List UInt8) (b : UInt8), valL (l ++ [b]) = valL l + b.toNat % 128 * 128 ^ l.length
  | [], b => by simp [valL]
  | x :: l, b => by
    have ih := valL_snoc l b
    simp only [List.cons_append, valL, ih, List.length_cons, Nat.pow_succ]
    rw [Nat.mul_add, ← Nat.add_assoc]
    congr 1
    rw [Nat.mul_comm 128, Nat.mul_assoc]
theorem valL_lt : ∀ l : List UInt8, valL l < 128 ^ l.length
  | [] => by simp [valL]
  | x :: l => by
    have ih := valL_lt l
    simp only [valL, List.length_cons, Nat.pow_succ]
    have := Nat.mod_lt x.toNat (show 0 < 128 by decide)
    omega
theorem numL_val : ∀ (l : List UInt8) (b : UInt8), (∀ x ∈ l, 128 ≤ x.toNat) → b.toNat < 128 → (b.toNat ≠ 0 ∨ l = []) → numL (valL l + b.toNat * 128 ^ l.length) = l ++ [b]
  | [], b, _, hb, _ => by
    simp only [valL, List.length_nil, Nat.pow_zero, Nat.mul_one, Nat.zero_add]
    rw [numL_small hb, u8_toNat]
    rfl
  | x :: l, b, hx, hb, h0 => by
    have hb0 : b.toNat ≠ 0 := h0.resolve_right (by simp)
    have ih := numL_val l b (fun y hy => hx y (List.mem_cons_of_mem _ hy)) hb (.inl hb0)
    have hpos : 1 ≤ b.toNat * 128 ^ l.length := Nat.mul_pos (by omega) (Nat.pow_pos (by decide))
    have e : valL (x :: l) + b.toNat * 128 ^ (x :: l).length = x.toNat % 128 + 128 * (valL l + b.toNat * 128 ^ l.length) := by
      simp only [valL, List.length_cons, Nat.pow_succ]
      rw [Nat.mul_add, ← Nat.add_assoc]
      congr 1
      rw [← Nat.mul_assoc, Nat.mul_comm 128]
    have hx1 := hx x List.mem_cons_self
    have hx2 := x.toNat_lt
    generalize hM : valL l + b.toNat * 128 ^ l.length = M at ih e
    rw [e, numL_big (by omega)]
    have e1 : (x.toNat % 128 + 128 * M) % 128 + 128 = x.toNat := by omega
    have e2 : (x.toNat % 128 + 128 * M) / 128 = M := by omega
    rw [e1, e2, u8_toNat, ih]
    rfl

section
variable {B w : World} {Γ : List HProp}
abbrev eyeA (s : Sl) (i : Nat) : Array Value := #[s.val, .int .i64 (i : Int)]
theorem ref01_Eye_Num_spec {e : Nat} {s : Sl} {hs : List UInt8} {k : Int → Int → K} (hl : hs.length ≤ 100000) (h : Holds B (blk e (.cells (eyeA s 0) ty_argosyref01_Eye (0, 0)) :: Γ) w) (hr : ∀ w, Holds B Γ w → RdB w s hs)
    (hok : ∀ (n m : Nat) w, hs.take m = numL n → m ≤ hs.length → n < 18446744073709551616 → Holds B (blk e (.cells (eyeA s m) ty_argosyref01_Eye (0, 0)) :: Γ) w → k n 0 w)
    (hno : ∀ (c : Int) w, c ≠ 0 → (∀ n, n ≤ 1000000 → hs ≠ numL n) → Holds B (blk e (.cells (eyeA s 0) ty_argosyref01_Eye (0, 0)) :: Γ) w → k 0 c w) : ref01_Eye_Num.call (some ⟨e, 0, none⟩) k w := by
  have hn : hs.length = s.n := by have := (hr w h.tail).len; simpa using this
  refine ref01_Eye_Num_ok _ _ _ ?_
  unfold ref01_Eye_Num
  refine LoopK.of (fun t w => ∃ j : Nat, t = ((valL (hs.take j) : Int), ((128 ^ j : Nat) : Int), (j : Int)) ∧ j ≤ 9 ∧ j ≤ hs.length ∧ (∀ x ∈ hs.take j, 128 ≤ x.toNat) ∧ Holds B (blk e (.cells (eyeA s 0) ty_argosyref01_Eye (0, 0)) :: Γ) w) (fun t _ => ((10 : Int) - t.2.2).toNat)
    ⟨0, rfl, by omega, by omega, by simp, h⟩ ?_
  clear h
  rintro t w ⟨j, rfl, hj9, hjl, hall, h⟩
  dsimp only
  unfold ref01_Eye_Num.b1
  refine r_dr h ?_
  clear h
  intro w h
  refine r_nn rfl ?_
  try simp only [add_mk, Nat.zero_add, Nat.reduceAdd]
  refine r_ld (x := (0 : Int)) h rfl (by first | with_reducible exact M0 | with_reducible exact M1 | with_reducible exact M2 | with_reducible exact M3 | with_reducible exact M4 | with_reducible exact M5 | with_reducible exact M6 | with_reducible exact M7 | with_reducible exact M8 | with_reducible exact M9 | with_reducible exact M10 | with_reducible exact M11 | with_reducible exact M12) ?_ ?_
  · exact rfl
  refine r_add64 (by omega) (by omega) ?_
  refine r_ld (x := s) h rfl (by first | with_reducible exact M0 | with_reducible exact M1 | with_reducible exact M2 | with_reducible exact M3 | with_reducible exact M4 | with_reducible exact M5 | with_reducible exact M6 | with_reducible exact M7 | with_reducible exact M8 | with_reducible exact M9 | with_reducible exact M10 | with_reducible exact M11 | with_reducible exact M12) ?_ ?_
  · exact rfl
  refine r_ite (fun hb => ?_) (fun hb => ?_)
  · simp only [decide_eq_true_eq] at hb
    have hx : hs[j]? = some hs[j] := List.getElem?_eq_getElem (by omega)
    generalize hX : hs[j] = x at hx
    have hx8 := x.toNat_lt
    refine r_dr h ?_
    clear h
    intro w h
    try simp only [add_mk, Nat.zero_add, Nat.reduceAdd]
    refine r_ld (x := s) h rfl (by first | with_reducible exact M0 | with_reducible exact M1 | with_reducible exact M2 | with_reducible exact M3 | with_reducible exact M4 | with_reducible exact M5 | with_reducible exact M6 | with_reducible exact M7 | with_reducible exact M8 | with_reducible exact M9 | with_reducible exact M10 | with_reducible exact M11 | with_reducible exact M12) ?_ ?_
    · exact rfl
    refine r_ld (x := (0 : Int)) h rfl (by first | with_reducible exact M0 | with_reducible exact M1 | with_reducible exact M2 | with_reducible exact M3 | with_reducible exact M4 | with_reducible exact M5 | with_reducible exact M6 | with_reducible exact M7 | with_reducible exact M8 | with_reducible exact M9 | with_reducible exact M10 | with_reducible exact M11 | with_reducible exact M12) ?_ ?_
    · exact rfl
    refine r_add64 (by omega) (by omega) ?_
    rw [Int.zero_add]
    refine r_byte (hr w h.tail) hx ?_
    refine r_ar (wrapU64 (by omega) (by omega)) ?_
    have hbad : ∀ n, n ≤ 1000000 → hs = numL n → j < 3 := fun n hn2 he => by
      have := numL_len 2 n (by omega)
      rw [← he] at this
      omega
    have hs3 : ∀ (b : Bool), (b = true → k 0 31 w) → (b = false → ref01_Eye_Num.s2 k (fun n4_1 weight5_1 k6_1 w' => (∃ j : Nat, (n4_1, weight5_1, k6_1) = ((valL (hs.take j) : Int), ((128 ^ j : Nat) : Int), (j : Int)) ∧ j ≤ 9 ∧ j ≤ hs.length ∧ (∀ x ∈ hs.take j, 128 ≤ x.toNat) ∧ Holds B (blk e (.cells (eyeA s 0) ty_argosyref01_Eye (0, 0)) :: Γ) w') ∧ ((10 : Int) - k6_1).toNat < ((10 : Int) - (j : Int)).toNat) ⟨e, 0, none⟩ (valL (hs.take j) : Int) ((128 ^ j : Nat) : Int) (j : Int) (x.toNat : Int) false w) →
        ref01_Eye_Num.s2 k (fun n4_1 weight5_1 k6_1 w' => (∃ j : Nat, (n4_1, weight5_1, k6_1) = ((valL (hs.take j) : Int), ((128 ^ j : Nat) : Int), (j : Int)) ∧ j ≤ 9 ∧ j ≤ hs.length ∧ (∀ x ∈ hs.take j, 128 ≤ x.toNat) ∧ Holds B (blk e (.cells (eyeA s 0) ty_argosyref01_Eye (0, 0)) :: Γ) w') ∧ ((10 : Int) - k6_1).toNat < ((10 : Int) - (j : Int)).toNat) ⟨e, 0, none⟩ (valL (hs.take j) : Int) ((128 ^ j : Nat) : Int) (j : Int) (x.toNat : Int) b w := by
      intro b h1 h2
      cases b with
      | false => exact h2 rfl
      | true => exact r_ite_t rfl (h1 rfl)
    have main : (j = 9 → x.toNat ≤ 1) → ref01_Eye_Num.s2 k (fun n4_1 weight5_1 k6_1 w' => (∃ j : Nat, (n4_1, weight5_1, k6_1) = ((valL (hs.take j) : Int), ((128 ^ j : Nat) : Int), (j : Int)) ∧ j ≤ 9 ∧ j ≤ hs.length ∧ (∀ x ∈ hs.take j, 128 ≤ x.toNat) ∧ Holds B (blk e (.cells (eyeA s 0) ty_argosyref01_Eye (0, 0)) :: Γ) w') ∧ ((10 : Int) - k6_1).toNat < ((10 : Int) - (j : Int)).toNat) ⟨e, 0, none⟩ (valL (hs.take j) : Int) ((128 ^ j : Nat) : Int) (j : Int) (x.toNat : Int) false w := by
      intro h91
      have htl : (hs.take j).length = j := by rw [List.length_take]; omega
      have hv := valL_lt (hs.take j)
      rw [htl] at hv
      have hsn := valL_snoc (hs.take j) x
      rw [htl] at hsn
      have htk : hs.take j ++ [x] = hs.take (j + 1) := by rw [List.take_succ_eq_append_getElem (by omega), hX]
      have hp9 : 128 ^ j ≤ 9223372036854775808 := by
        have := Nat.pow_le_pow_right (show 0 < 128 by decide) hj9
        exact Nat.le_trans this (by decide)
      have hprod : x.toNat % 128 * 128 ^ j ≤ 9223372036854775808 := by
        by_cases h9 : j = 9
        · have h1 := h91 h9
          have h2 : x.toNat % 128 ≤ 1 := by omega
          calc x.toNat % 128 * 128 ^ j ≤ 1 * 128 ^ j := Nat.mul_le_mul_right _ h2
            _ ≤ 9223372036854775808 := by omega
        · have h8 : 128 ^ j ≤ 72057594037927936 := by
            have := Nat.pow_le_pow_right (show 0 < 128 by decide) (show j ≤ 8 by omega)
            exact Nat.le_trans this (by decide)
          have h2 : x.toNat % 128 ≤ 127 := by omega
          calc x.toNat % 128 * 128 ^ j ≤ 127 * 72057594037927936 := Nat.mul_le_mul h2 h8
            _ ≤ 9223372036854775808 := by decide
      unfold ref01_Eye_Num.s2
      refine r_ite_f rfl ?_
      refine r_cd (by decide) ?_
      refine r_ar (e' := ((x.toNat % 128 : Nat) : Int)) (by rw [show (128 : Int) = ((128 : Nat) : Int) from rfl, tmodN]) ?_
      refine r_ar (e' := ((x.toNat % 128 * 128 ^ j : Nat) : Int)) (by
        rw [← Int.natCast_mul]
        exact wrapU64 (Int.natCast_nonneg _) (Int.le_trans (Int.ofNat_le.2 hprod) (by decide))) ?_
      refine r_ar (e' := ((valL (hs.take (j + 1)) : Nat) : Int)) (by
        rw [← htk, hsn, ← Int.natCast_add]
        refine wrapU64 (Int.natCast_nonneg _) (Int.le_trans (Int.ofNat_le.2 (show valL (hs.take j) + x.toNat % 128 * 128 ^ j ≤ 18446744073709551615 by omega)) (by decide))) ?_
      refine r_ar rfl ?_
      have hfinal : x.toNat < 128 → (x.toNat ≠ 0 ∨ j = 0) → hs.take (j + 1) = numL (valL (hs.take (j + 1))) := fun h1 h2 => by
        have h3 := numL_val (hs.take j) x hall h1 (h2.imp id (fun e => by rw [e]; rfl))
        rw [htl] at h3
        rw [← htk, hsn, Nat.mod_eq_of_lt h1]
        exact h3.symm
      refine r_ite (fun hb2 => ?_) (fun hb2 => ?_)
      · simp only [decide_eq_true_eq] at hb2
        have good : (x.toNat ≠ 0 ∨ j = 0) → ∀ b, b = false → ref01_Eye_Num.s3 k (fun n4_1 weight5_1 k6_1 w' => (∃ j : Nat, (n4_1, weight5_1, k6_1) = ((valL (hs.take j) : Int), ((128 ^ j : Nat) : Int), (j : Int)) ∧ j ≤ 9 ∧ j ≤ hs.length ∧ (∀ x ∈ hs.take j, 128 ≤ x.toNat) ∧ Holds B (blk e (.cells (eyeA s 0) ty_argosyref01_Eye (0, 0)) :: Γ) w') ∧ ((10 : Int) - k6_1).toNat < ((10 : Int) - (j : Int)).toNat) ⟨e, 0, none⟩ ((valL (hs.take (j + 1)) : Nat) : Int) (j : Int) b w := by
          intro h2 b hbf
          subst hbf
          unfold ref01_Eye_Num.s3
          refine r_ite_f rfl ?_
          try simp only [add_mk, Nat.zero_add, Nat.reduceAdd]
          refine r_ld (x := (0 : Int)) h rfl (by first | with_reducible exact M0 | with_reducible exact M1 | with_reducible exact M2 | with_reducible exact M3 | with_reducible exact M4 | with_reducible exact M5 | with_reducible exact M6 | with_reducible exact M7 | with_reducible exact M8 | with_reducible exact M9 | with_reducible exact M10 | with_reducible exact M11 | with_reducible exact M12) ?_ ?_
          · exact rfl
          refine r_add64 (by omega) (by omega) ?_
          refine r_ar (e' := ((j + 1 : Nat) : Int)) (by rw [wrap64 (by omega) (by omega)]; omega) ?_
          first | refine S0 h rfl ?_ rfl ?_ | refine S1 h rfl ?_ rfl ?_ | refine S2 h rfl ?_ rfl ?_ | refine S3 h rfl ?_ rfl ?_ | refine S4 h rfl ?_ rfl ?_ | refine S5 h rfl ?_ rfl ?_ | refine S6 h rfl ?_ rfl ?_ | refine S7 h rfl ?_ rfl ?_ | refine S8 h rfl ?_ rfl ?_
          · first | exact Nat.lt_of_ble_eq_true rfl | (simp; done) | (simp; omega)
          clear h
          intro w h
          try simp only [N1, N2, N3, N4, N5, N6, N7] at h
          have hvl : valL (hs.take (j + 1)) ≤ 18446744073709551615 := by rw [← htk, hsn]; omega
          exact hok _ (j + 1) _ (hfinal (by omega) h2) (by omega) (by omega) h
        refine r_ite (fun hb3 => ?_) (fun hb3 => ?_)
        · simp only [decide_eq_true_eq] at hb3
          by_cases hj0 : j = 0
          · exact good (.inr hj0) _ (by subst hj0; rfl)
          · unfold ref01_Eye_Num.s3
            refine r_ite_t (by simp only [decide_eq_true_eq]; omega) ?_
            refine hno 31 _ (by decide) (fun n hn2 he => ?_) h
            obtain ⟨l, b, h1, h2, h3, h4⟩ := numL_shape n
            rw [he, h1] at hx
            by_cases hjl2 : j < l.length
            · rw [List.getElem?_append_left hjl2] at hx
              have := h2 x (List.mem_of_getElem? hx)
              omega
            · have hlen : hs.length = l.length + 1 := by rw [he, h1]; simp
              have : j = l.length := by omega
              rw [this, List.getElem?_append_right (Nat.le_refl _)] at hx
              simp only [Nat.sub_self, List.getElem?_cons_zero, Option.some.injEq] at hx
              subst hx
              rcases h4 with h4 | h4
              · omega
              · rw [h4] at this; exact hj0 this
        · simp only [decide_eq_false_iff_not] at hb3
          exact good (.inl (by omega)) _ rfl
      · simp only [decide_eq_false_iff_not] at hb2
        refine r_add64 (by omega) (by omega) ?_
        have hj8 : j ≤ 8 := by
          by_cases h9 : j = 9
          · have := h91 h9; omega
          · omega
        refine ⟨⟨j + 1, ?_, by omega, by omega, fun y hy => ?_, h⟩, by omega⟩
        · have hp8 : 128 ^ j * 128 ≤ 9223372036854775808 := by
            rw [← Nat.pow_succ]
            have := Nat.pow_le_pow_right (show 0 < 128 by decide) (show j + 1 ≤ 9 by omega)
            exact Nat.le_trans this (by decide)
          have e : IntKind.wrap .u64 (((128 ^ j : Nat) : Int) * 128) = ((128 ^ (j + 1) : Nat) : Int) := by
            rw [show ((128 ^ j : Nat) : Int) * 128 = ((128 ^ j * 128 : Nat) : Int) from rfl, Nat.pow_succ]
            exact wrapU64 (Int.natCast_nonneg _) (Int.le_trans (Int.ofNat_le.2 hp8) (by decide))
          rw [e]
          rfl
        · rw [← htk] at hy
          rcases List.mem_append.1 hy with hy | hy
          · exact hall y hy
          · simp only [List.mem_singleton] at hy; subst hy; omega
    refine r_ite (fun hb9 => ?_) (fun hb9 => ?_)
    · simp only [decide_eq_true_eq] at hb9
      refine hs3 _ (fun ht => ?_) (fun hf => ?_)
      · simp only [decide_eq_true_eq] at ht
        exact hno 31 _ (by decide) (fun n hn2 he => by have := hbad n hn2 he; omega) h
      · simp only [decide_eq_false_iff_not] at hf
        exact main (fun _ => by omega)
    · simp only [decide_eq_false_iff_not] at hb9
      exact main (fun h9 => by omega)
  · simp only [decide_eq_false_iff_not] at hb
    refine hno 30 _ (by decide) (fun n hn2 he => ?_) h
    obtain ⟨l, b, h1, h2, h3, h4⟩ := numL_shape n
    have htk : hs.take j = hs := List.take_of_length_le (by omega)
    rw [htk] at hall
    have := hall b (by rw [he, h1]; simp)
    omega

theorem ref01_Eye_End_spec {e i : Nat} {s : Sl} {k : Int → K} (h : Holds B (blk e (.cells (eyeA s i) ty_argosyref01_Eye (0, 0)) :: Γ) w)
    (hk : ∀ w, Holds B (blk e (.cells (eyeA s i) ty_argosyref01_Eye (0, 0)) :: Γ) w → k (if i < s.n then 32 else 0) w) : ref01_Eye_End.call (some ⟨e, 0, none⟩) k w := by
  refine ref01_Eye_End_ok _ _ _ ?_
  unfold ref01_Eye_End
  refine r_dr h ?_
  clear h
  intro w h
  refine r_nn rfl ?_
  try simp only [add_mk, Nat.zero_add, Nat.reduceAdd]
  refine r_ld (x := (i : Int)) h rfl (by first | with_reducible exact M0 | with_reducible exact M1 | with_reducible exact M2 | with_reducible exact M3 | with_reducible exact M4 | with_reducible exact M5 | with_reducible exact M6 | with_reducible exact M7 | with_reducible exact M8 | with_reducible exact M9 | with_reducible exact M10 | with_reducible exact M11 | with_reducible exact M12) ?_ ?_
  · exact rfl
  refine r_ld (x := s) h rfl (by first | with_reducible exact M0 | with_reducible exact M1 | with_reducible exact M2 | with_reducible exact M3 | with_reducible exact M4 | with_reducible exact M5 | with_reducible exact M6 | with_reducible exact M7 | with_reducible exact M8 | with_reducible exact M9 | with_reducible exact M10 | with_reducible exact M11 | with_reducible exact M12) ?_ ?_
  · exact rfl
  refine r_ite (fun hb => ?_) (fun hb => ?_)
  · simp only [decide_eq_true_eq] at hb
    have := hk _ h
    rw [if_pos (by omega)] at this
    exact this
  · simp only [decide_eq_false_iff_not] at hb
    have := hk _ h
    rw [if_neg (by omega)] at this
    exact this

theorem ref08_Pack_spec {s : Sl} {xs : List UInt8} {k : Sl → K} (hl : xs.length ≤ 100000) (hcap : s.n ≤ s.c) (h : Holds B Γ w) (hr : ∀ w, Holds B Γ w → RdB w s xs)
    (hk : ∀ f w, Holds B (Bytes ty_uint8 f (packL xs) :: Γ) w → k f w) : ref08_Pack.call s k w := by
  have hn : xs.length = s.n := by have := (hr w h).len; simpa using this
  refine ref08_Pack_ok _ _ _ ?_
  unfold ref08_Pack
  rw [← hn]
  refine r_ar (wrapU64 (by omega) (by omega)) ?_
  refine ref01_Num_spec (by omega) h fun d w h => ?_
  have hnl : (numL xs.length).length ≤ 3 := numL_len 2 _ (by omega)
  refine ref01_Frame_spec (by omega) h (fun w h => Bytes.rd h List.mem_cons_self) fun f w h => ?_
  replace h := h.del 1 at1
  try simp only [N1, N2, N3, N4, N5, N6, N7] at h
  have hfl := framesL_len _ xs rfl
  refine LoopK.of (fun t w => ∃ (i : Nat) (ys : List UInt8), t.2 = (i : Int) ∧ i ≤ xs.length + 1024 ∧ ys ++ framesL (xs.drop i) = packL xs ∧ Holds B (Bytes ty_uint8 t.1 ys :: Γ) w)
    (fun t _ => ((s.n : Int) - t.2).toNat) ⟨0, frameL (numL xs.length), rfl, by omega, rfl, h⟩ ?_
  clear h
  rintro ⟨o, t⟩ w ⟨i, ys, ht, hi, he, h⟩
  simp only at ht h
  subst ht
  dsimp only
  unfold ref08_Pack.b1
  refine r_ite (fun hb => ?_) (fun hb => ?_)
  · simp only [decide_eq_true_eq] at hb
    have hne : xs.drop i ≠ [] := fun e => by have := congrArg List.length e; simp at this; omega
    rw [framesL_cons hne] at he
    have hsp := rd_spot (hr w h.tail) (fun e => by rw [e] at hn; simp at hn; omega)
    have hpl := pack_len_le hl
    have hyl : ys.length ≤ 900000 := by
      have h1 := congrArg List.length he
      simp only [List.length_append] at h1
      omega
    refine r_ar (e' := ((i + 1024 : Nat) : Int)) (by rw [wrap64 (by omega) (by omega)]; omega) ?_
    have next : ∀ m : Nat, i + m ≤ xs.length → (xs.drop i).take 1024 = (xs.drop i).take m → m ≤ 1024 → ref08_Pack.s2 k (fun o t w' => (∃ (i : Nat) (ys : List UInt8), t = (i : Int) ∧ i ≤ xs.length + 1024 ∧ ys ++ framesL (xs.drop i) = packL xs ∧ Holds B (Bytes ty_uint8 o ys :: Γ) w') ∧ ((s.n : Int) - t).toNat < ((s.n : Int) - (i : Int)).toNat) s o (i : Int) ((i + m : Nat) : Int) w := by
      intro m hm hmt hm2
      unfold ref08_Pack.s2
      refine ⟨_, by omega, by omega, by omega, by omega, rfl, ?_⟩
      simp only [Int.toNat_natCast]
      have hml : ((xs.drop i).take m).length = m := by simp; omega
      have hc := fun w (h : Holds B (Bytes ty_uint8 o ys :: Γ) w) => by
        have h1 := rdB_drop (i := i) (hr _ h.tail) (by omega) hcap hsp
        have h2 := h1.take (m := m) (c := s.c - i) (by simp only; omega)
        have e : i + m - i = m := by omega
        show RdB w ⟨cutA s.a i s.c 1, i + m - i, s.c - i⟩ ((xs.drop i).take m)
        rw [e]
        show RdC w _ 1 (((xs.drop i).take m).map byteV)
        rw [List.map_take]
        simpa using h2
      refine ref01_Frame_spec (b := (xs.drop i).take m) (by omega) h hc fun f w h => ?_
      have hfl2 := frameL_len ((xs.drop i).take m)
      refine r_appB h.swap (Bytes.rd h List.mem_cons_self) (by omega) fun o' w h _ _ => ?_
      refine r_ar (e' := ((i + 1024 : Nat) : Int)) (by rw [wrap64 (by omega) (by omega)]; omega) ?_
      refine ⟨⟨i + 1024, _, rfl, by omega, ?_, h.del 1 at1⟩, by omega⟩
      rw [← he, hmt, List.append_assoc, List.drop_drop]
    refine r_ite (fun hb2 => ?_) (fun hb2 => ?_)
    · simp only [decide_eq_true_eq] at hb2
      have := next (xs.length - i) (by omega) (by rw [List.take_of_length_le (by simp; omega), List.take_of_length_le (by simp)]) (by omega)
      have e : i + (xs.length - i) = s.n := by omega
      rw [e] at this
      exact this
    · simp only [decide_eq_false_iff_not] at hb2
      exact next 1024 (by omega) rfl (Nat.le_refl _)
  · simp only [decide_eq_false_iff_not] at hb
    have e0 : xs.drop i = [] := List.drop_of_length_le (by omega)
    rw [e0, framesL_nil, List.append_nil] at he
    subst he
    exact hk _ _ h
end
end Go.Proofs.Ytgnkminakongkaa
