/- The document's check sum, walked. -/
import Derived.Test.YtdpepgjbambinaaSRefCrc
namespace Go.Proofs.Ytdpepgjbambinaa
open Go Go.Sep
set_option linter.unusedSimpArgs false
set_option linter.unusedVariables false
set_option maxRecDepth 100000

def bitI (b : Bool) : Int := if b then 1 else 0
def bV (b : Bool) : Value := .int .i64 (bitI b)
def bl (n : Nat) (f : Nat → Bool) : List Value := (List.range n).map fun j => bV (f j)
theorem bl_len (n : Nat) (f : Nat → Bool) : (bl n f).length = n := by simp [bl]
theorem bl_snoc (n : Nat) (f : Nat → Bool) : bl n f ++ [bV (f n)] = bl (n + 1) f := by simp [bl, List.range_succ]
theorem bl_set (n : Nat) (f : Nat → Bool) (j : Nat) (b : Bool) : (bl n f).set j (bV b) = bl n (fun x => if x = j then b else f x) := by
  apply List.ext_getElem?
  intro i
  unfold bl
  by_cases hij : j = i
  · subst hij
    by_cases hl : j < n
    · rw [List.getElem?_set_self (by simpa using hl)]
      simp [List.getElem?_map, List.getElem?_range hl]
    · rw [List.getElem?_eq_none (by simp; omega), List.getElem?_eq_none (by simp; omega)]
  · rw [List.getElem?_set_ne hij, List.getElem?_map, List.getElem?_map]
    cases hr : (List.range n)[i]? with
    | none => rfl
    | some x =>
      have : x = i := by
        have h1 := (List.getElem?_eq_some_iff.1 hr)
        obtain ⟨h1, h2⟩ := h1
        simpa using h2.symm
      subst this
      simp [Ne.symm hij]
theorem bl_congr {n : Nat} {f g : Nat → Bool} (h : ∀ j, j < n → f j = g j) : bl n f = bl n g := by
  unfold bl
  exact List.map_congr_left fun j hj => by rw [h j (List.mem_range.1 hj)]

section
variable {B w : World} {Γ : List HProp}
theorem r_bit {s : Sl} {n : Nat} {f : Nat → Bool} {j : Nat} {k : Int → K} (hr : RdC w s 1 (bl n f)) (hj : j < n) (hk : k (bitI (f j)) w) : Idx s (j : Int) 1 (fun t => Ld t (Value.int .i64) k) w := by
  have e : bl n f = ((List.range n).map fun j => bitI (f j)).map (Value.int .i64) := by rw [List.map_map]; rfl
  have hr2 : RdC w s 1 (((List.range n).map fun j => bitI (f j)).map (Value.int .i64)) := by rw [← e]; exact hr
  exact r_idx1 hr2 (by rw [List.getElem?_map, List.getElem?_range hj]; rfl) hk
theorem r_appBit {g : Sl} {n t : Nat} {f : Nat → Bool} {k : Sl → K} (h : Holds B (SlC ty_int 1 g (bl n f) :: blk t (.cells #[bV (f n)] ty_int (0, 0)) :: Γ) w) (hn : n ≤ 10000000)
    (hk : ∀ s w, Holds B (SlC ty_int 1 s (bl (n + 1) f) :: Γ) w → k s w) : Do Try.prog (Builtin.append_ #[ty_s_int, ty_s_int] ty_s_int #[g.val, (Sl.mk (some ⟨t, 0, none⟩) 1 1).val]) Sl.val k w := by
  have h1 := h.slCap.1
  rw [bl_len] at h1
  have hr : RdC w ⟨some ⟨t, 0, none⟩, 1, 1⟩ 1 [bV (f n)] := RdC.of_blk (E := ty_int) (b := t) (n := 1) (vs := [bV (f n)]) (cs := #[bV (f n)]) h (List.mem_cons_of_mem _ List.mem_cons_self) rfl rfl 1
  refine r_append h (by kernel_rfl) (by kernel_rfl) (by' := 8) (by kernel_rfl) zero_ty_int rfl hr (by simp [flatV, bV]) (by simp only; omega) (by decide) fun s' w h _ _ => ?_
  rw [bl_snoc] at h
  exact hk _ _ ((h.del 1 at1))
theorem bitI_not (b : Bool) : 1 - bitI b = bitI (!b) := by cases b <;> rfl

theorem msg_at {xs : List UInt8} {i k : Nat} {x : UInt8} (hx : xs[i]? = some x) (hk : k < 8) : msg xs (8 * i + k) = x.toNat.testBit k := by
  unfold msg
  have h1 : (8 * i + k) / 8 = i := by omega
  have h2 : (8 * i + k) % 8 = k := by omega
  rw [h1, h2, hx]
  rfl
theorem msg_out {xs : List UInt8} {j : Nat} (hj : 8 * xs.length ≤ j) : msg xs j = false := by
  unfold msg
  rw [List.getElem?_eq_none (by omega)]
  rfl
theorem and1_bit (x k : Nat) : bitsOf .and .i64 ((x / 2 ^ k : Nat) : Int) 1 = bitI (x.testBit k) := by
  have h0 : x.testBit k = decide (x / 2 ^ k % 2 = 1) := Nat.testBit_eq_decide_div_mod_eq
  unfold bitsOf
  simp only
  have h1 : (BitVec.ofInt (IntKind.bits .i64) ((x / 2 ^ k : Nat) : Int) &&& BitVec.ofInt (IntKind.bits .i64) 1).toNat = x / 2 ^ k % 2 := by
    show (BitVec.ofInt 64 ((x / 2 ^ k : Nat) : Int) &&& 1#64).toNat = _
    rw [BitVec.toNat_and, BitVec.ofInt_natCast, BitVec.toNat_ofNat]
    have : (1#64).toNat = 2 ^ 1 - 1 := rfl
    rw [this, Nat.and_two_pow_sub_one_eq_mod]
    omega
  rw [h1, wrap64 (by omega) (by omega), h0]
  unfold bitI
  by_cases h : x / 2 ^ k % 2 = 1
  · rw [h]; simp
  · have : x / 2 ^ k % 2 = 0 := by omega
    rw [this]; simp
theorem shrU8 (n : Nat) (k : Nat) (hk : k < 8) : shrOf .u8 (n : Int) (k : Int) = ((n / 2 ^ k : Nat) : Int) := by
  unfold shrOf
  have : min ((k : Int).toNat) (IntKind.bits .u8) = k := by simp [IntKind.bits]; omega
  rw [this, Int.fdiv_eq_ediv_of_nonneg _ (Int.le_of_lt (Int.pow_pos (by decide))), Int.natCast_ediv, Int.natCast_pow]
  rfl
abbrev powV : List Value := pows.map fun p : Nat => Value.int .i64 (p : Int)
theorem build135 (w : World) : (Instr.build ty_18_int [(0, (.int .i64 32)), (1, (.int .i64 28)), (2, (.int .i64 27)), (3, (.int .i64 26)), (4, (.int .i64 25)), (5, (.int .i64 23)), (6, (.int .i64 22)), (7, (.int .i64 20)), (8, (.int .i64 19)), (9, (.int .i64 18)), (10, (.int .i64 14)), (11, (.int .i64 13)), (12, (.int .i64 11)), (13, (.int .i64 10)), (14, (.int .i64 9)), (15, (.int .i64 8)), (16, (.int .i64 6)), (17, (.int .i64 0))].toArray).run Try.prog w = .ok (.agg powV.toArray) w := by
  rfl

/-- The sum, out of the rest. -/
theorem sum_out (r : BitVec 32) : ∀ k, k ≤ 32 → (4294967295#32 ^^^ r).toNat % 2 ^ (k + 1) = (4294967295#32 ^^^ r).toNat % 2 ^ k + (if k < 32 ∧ r.getLsbD k = false then 2 ^ k else 0) := by
  intro k hk
  rw [Nat.mod_pow_succ]
  have h1 : (4294967295#32 ^^^ r).toNat.testBit k = (decide (k < 32) && !(r.getLsbD k)) := by
    have : (4294967295#32 ^^^ r).toNat.testBit k = (4294967295#32 ^^^ r).getLsbD k := rfl
    rw [this, BitVec.getLsbD_xor]
    have h2 : (4294967295#32).getLsbD k = decide (k < 32) := by
      have : (4294967295#32) = BitVec.allOnes 32 := rfl
      rw [this, BitVec.getLsbD_allOnes]
    rw [h2]
    by_cases h : k < 32
    · simp [h]
    · simp [h, BitVec.getLsbD_of_ge r k (by omega)]
  rw [Nat.testBit_eq_decide_div_mod_eq] at h1
  have h3 : (4294967295#32 ^^^ r).toNat / 2 ^ k % 2 < 2 := Nat.mod_lt _ (by decide)
  generalize (4294967295#32 ^^^ r).toNat / 2 ^ k % 2 = y at h1 h3
  by_cases h : k < 32 ∧ r.getLsbD k = false
  · rw [if_pos h]
    have : y = 1 := by
      rw [decide_eq_true h.1, h.2] at h1
      exact of_decide_eq_true h1
    rw [this, Nat.mul_one]
  · rw [if_neg h]
    have : y = 0 := by
      have h4 : (decide (k < 32) && !(r.getLsbD k)) = false := by
        by_cases hk2 : k < 32
        · cases hr : r.getLsbD k with
          | true => simp
          | false => exact absurd ⟨hk2, hr⟩ h
        · simp [hk2]
      rw [h4] at h1
      have : ¬ y = 1 := by simpa using h1
      omega
    rw [this, Nat.mul_zero]

theorem ref01_Sum_spec {s : Sl} {xs : List UInt8} {k : Int → K} (hl : xs.length ≤ 100000) (h : Holds B Γ w) (hr : ∀ w, Holds B Γ w → RdB w s xs) (hk : ∀ w, Holds B Γ w → k ((crcC xs).toNat : Int) w) : ref01_Sum.call s k w := by
  have hn : xs.length = s.n := by have := (hr w h).len; simpa using this
  refine ref01_Sum_ok _ _ _ ?_
  unfold ref01_Sum
  refine r_new h ?_
  clear h
  intro t13 w h
  try simp only [add_mk, Nat.zero_add, Nat.reduceAdd]
  have h0 : Holds B (SlC ty_int 1 ⟨some ⟨t13, 0, none⟩, 0, 0⟩ (bl 0 (msg xs)) :: Γ) w := h.imp (blk_SlC rfl rfl)
  clear h
  refine LoopK.of (fun t w => ∃ j : Nat, t.2 = (j : Int) ∧ j ≤ xs.length ∧ Holds B (SlC ty_int 1 t.1 (bl (8 * j) (msg xs)) :: Γ) w) (fun t _ => ((s.n : Int) - t.2).toNat) ⟨0, rfl, by omega, h0⟩ ?_
  clear h0
  rintro ⟨g, t⟩ w ⟨j, ht, hj, h⟩
  simp only at ht h
  subst ht
  dsimp only
  unfold ref01_Sum.b1
  refine r_ite (fun hb => ?_) (fun hb => ?_)
  · simp only [decide_eq_true_eq] at hb
    have hx : xs[j]? = some xs[j] := List.getElem?_eq_getElem (by omega)
    generalize xs[j] = x at hx
    have hx8 := x.toNat_lt
    refine LoopK.of (fun t w => ∃ i : Nat, t.2 = (i : Int) ∧ i ≤ 8 ∧ Holds B (SlC ty_int 1 t.1 (bl (8 * j + i) (msg xs)) :: Γ) w) (fun t _ => ((8 : Int) - t.2).toNat) ⟨0, rfl, by omega, h⟩ ?_
    clear h
    rintro ⟨g, t⟩ w ⟨i, ht, hi, h⟩
    simp only at ht h
    subst ht
    dsimp only
    unfold ref01_Sum.b2
    refine r_ite (fun hb2 => ?_) (fun hb2 => ?_)
    · simp only [decide_eq_true_eq] at hb2
      refine r_byte (hr w h.tail) hx ?_
      refine r_ar (wrapU64 (by omega) (by omega)) ?_
      refine r_cd (by omega) ?_
      refine r_ar (shrU8 _ i (by omega)) ?_
      have hq : x.toNat / 2 ^ i ≤ x.toNat := Nat.div_le_self _ _
      refine r_ar (wrap64 (Int.le_trans (by decide) (Int.natCast_nonneg _)) (Int.le_trans (Int.ofNat_le.2 hq) (by omega))) ?_
      refine r_ar (and1_bit _ _) ?_
      rw [← msg_at hx (by omega)]
      refine r_new h ?_
      clear h
      intro t34 w h
      try simp only [add_mk, Nat.zero_add, Nat.reduceAdd]
      refine r_appBit (f := msg xs) h.swap (by omega) fun g' w h => ?_
      refine r_add64 (by omega) (by omega) ?_
      exact ⟨⟨i + 1, by simp, by omega, h⟩, by omega⟩
    · simp only [decide_eq_false_iff_not] at hb2
      have : i = 8 := by omega
      subst this
      refine r_add64 (by omega) (by omega) ?_
      exact ⟨⟨j + 1, by simp, by omega, h⟩, by omega⟩
  simp only [decide_eq_false_iff_not] at hb
  have hjx : j = xs.length := by omega
  subst hjx
  refine LoopK.of (fun t w => ∃ i : Nat, t.2 = (i : Int) ∧ i ≤ 32 ∧ Holds B (SlC ty_int 1 t.1 (bl (8 * xs.length + i) (msg xs)) :: Γ) w) (fun t _ => ((32 : Int) - t.2).toNat) ⟨0, rfl, by omega, h⟩ ?_
  clear h
  rintro ⟨g, t⟩ w ⟨i, ht, hi, h⟩
  simp only at ht h
  subst ht
  dsimp only
  unfold ref01_Sum.b3
  refine r_ite (fun hb2 => ?_) (fun hb2 => ?_)
  · simp only [decide_eq_true_eq] at hb2
    refine r_new h ?_
    clear h
    intro t41 w h
    try simp only [add_mk, Nat.zero_add, Nat.reduceAdd]
    have e : (Value.int .i64 0) = bV (msg xs (8 * xs.length + i)) := by rw [msg_out (by omega)]; rfl
    rw [e] at h
    refine r_appBit (f := msg xs) h.swap (by omega) fun g' w h => ?_
    refine r_add64 (by omega) (by omega) ?_
    exact ⟨⟨i + 1, by simp, by omega, h⟩, by omega⟩
  simp only [decide_eq_false_iff_not] at hb2
  have hi32 : i = 32 := by omega
  subst hi32
  clear hb2 hb hi hj
  obtain ⟨N, hN⟩ : ∃ N, N = 8 * xs.length + 32 := ⟨_, rfl⟩
  rw [← hN] at h
  have hgn : g.n = N := by have := h.slCap.1; rw [bl_len] at this; omega
  refine LoopK.of (fun t w => ∃ i : Nat, t = (i : Int) ∧ i ≤ 32 ∧ Holds B (SlC ty_int 1 g (bl N (fun j => msg xs j ^^ decide (j < i))) :: Γ) w) (fun t _ => ((32 : Int) - t).toNat) ⟨0, rfl, by omega, by
    have e : bl N (fun j => msg xs j ^^ decide (j < 0)) = bl N (msg xs) := bl_congr fun j _ => by simp
    rw [e]; exact h⟩ ?_
  clear h
  rintro t w ⟨i, rfl, hi, h⟩
  unfold ref01_Sum.b4
  refine r_ite (fun hb2 => ?_) (fun hb2 => ?_)
  · simp only [decide_eq_true_eq] at hb2
    refine r_bit (h.rdC List.mem_cons_self) (by omega) ?_
    refine r_ar (e' := bitI (!(msg xs i ^^ decide (i < i)))) (by rw [← bitI_not]; exact wrap64 (by unfold bitI; split <;> omega) (by unfold bitI; split <;> omega)) ?_
    refine r_idxSt h (by omega) rfl fun w h => ?_
    refine r_add64 (by omega) (by omega) ?_
    refine ⟨⟨i + 1, by omega, by omega, ?_⟩, by omega⟩
    have e := bl_set N (fun j => msg xs j ^^ decide (j < i)) i (!(msg xs i ^^ decide (i < i)))
    have e2 : bl N (fun x => if x = i then !(msg xs i ^^ decide (i < i)) else (msg xs x ^^ decide (x < i))) = bl N (fun j => msg xs j ^^ decide (j < i + 1)) := bl_congr fun j _ => by
      by_cases hji : j = i
      · subst hji; simp
      · rw [if_neg hji]
        by_cases h1 : j < i
        · have : j < i + 1 := by omega
          simp [h1, this]
        · have : ¬ j < i + 1 := by omega
          simp [h1, this]
    rw [← e2, ← e]
    exact h
  simp only [decide_eq_false_iff_not] at hb2
  have hi32 : i = 32 := by omega
  subst hi32
  clear hb2 hi
  refine ⟨_, fun w => build135 w, ?_⟩
  refine r_new h ?_
  clear h
  intro pw w h
  try simp only [add_mk, Nat.zero_add, Nat.reduceAdd]
  first | refine T0 h rfl ?_ ?_ ?_ ?_ | refine T1 h rfl ?_ ?_ ?_ ?_ | refine T2 h rfl ?_ ?_ ?_ ?_ | refine T3 h rfl ?_ ?_ ?_ ?_ | refine T4 h rfl ?_ ?_ ?_ ?_ | refine T5 h rfl ?_ ?_ ?_ ?_ | refine T6 h rfl ?_ ?_ ?_ ?_ | refine T7 h rfl ?_ ?_ ?_ ?_ | refine T8 h rfl ?_ ?_ ?_ ?_
  · rfl
  · rfl
  · simp [flatV]
  clear h
  intro w h
  try simp only [N1, N2, N3, N4, N5, N6, N7] at h
  have e0 : bl N (fun j => msg xs j ^^ decide (j < 32)) = bl N (fun j => if 0 ≤ j then rest xs 0 j else false) := bl_congr fun j _ => by
    rw [if_pos (Nat.zero_le _)]
    unfold rest
    have hall : (4294967295#32) = BitVec.allOnes 32 := rfl
    by_cases hj : j < 32
    · rw [if_pos (by omega)]
      show (msg xs j ^^ decide (j < 32)) = (msg xs j ^^ (4294967295#32).getLsbD (j - 0))
      rw [hall, BitVec.getLsbD_allOnes, Nat.sub_zero]
    · rw [if_neg (by omega)]; simp [hj]
  rw [e0] at h
  clear e0
  have hpw : ∀ p ∈ pows, p ≤ 32 := by decide
  refine LoopK.of (fun t w => ∃ (i : Nat) (f : Nat → Bool), t = (i : Int) ∧ i ≤ 8 * xs.length ∧ (∀ j, i ≤ j → f j = rest xs i j) ∧ Holds B (blk pw (.cells powV.toArray ty_18_int (0, 0)) :: SlC ty_int 1 g (bl N f) :: Γ) w) (fun t _ => ((N : Int) - t).toNat)
    ⟨0, _, rfl, by omega, fun j _ => if_pos (Nat.zero_le _), h⟩ ?_
  clear h
  rintro t w ⟨i, f, rfl, hi, hf, h⟩
  unfold ref01_Sum.b5
  refine r_add64 (by omega) (by omega) ?_
  refine r_ite (fun hb => ?_) (fun hb => ?_)
  · simp only [decide_eq_true_eq] at hb
    have next : ∀ w, (∃ f : Nat → Bool, (∀ j, i + 1 ≤ j → f j = rest xs (i + 1) j) ∧ Holds B (blk pw (.cells powV.toArray ty_18_int (0, 0)) :: SlC ty_int 1 g (bl N f) :: Γ) w) →
        ref01_Sum.s6 k (fun _ _ _ => False) (fun _ _ _ => False) (fun _ _ => False) (fun t w => (∃ (i : Nat) (f : Nat → Bool), t = (i : Int) ∧ i ≤ 8 * xs.length ∧ (∀ j, i ≤ j → f j = rest xs i j) ∧ Holds B (blk pw (.cells powV.toArray ty_18_int (0, 0)) :: SlC ty_int 1 g (bl N f) :: Γ) w) ∧ ((N : Int) - t).toNat < ((N : Int) - (i : Int)).toNat) g ⟨pw, 0, none⟩ (i : Int) w := by
      rintro w ⟨f, hf, h⟩
      unfold ref01_Sum.s6
      refine r_add64 (by omega) (by omega) ?_
      exact ⟨⟨i + 1, f, by omega, by omega, hf, h⟩, by omega⟩
    refine r_bit ((h.tail).rdC List.mem_cons_self) (by omega) ?_
    have hfi := hf i (Nat.le_refl _)
    refine r_ite (fun hb2 => ?_) (fun hb2 => ?_)
    · simp only [decide_eq_true_eq] at hb2
      have hri : rest xs i i = true := by
        rw [← hfi]
        cases hfb : f i with
        | true => rfl
        | false => rw [hfb] at hb2; exact absurd hb2 (by decide)
      refine LoopK.of (fun t w => ∃ (q : Nat) (e : Nat → Bool), t = (q : Int) ∧ q ≤ 18 ∧ (∀ j, i + 1 ≤ j → e j = (rest xs i j ^^ (pows.take q).any (fun p => j + p == i + 32))) ∧ Holds B (blk pw (.cells powV.toArray ty_18_int (0, 0)) :: SlC ty_int 1 g (bl N e) :: Γ) w) (fun t _ => ((18 : Int) - t).toNat)
        ⟨0, f, rfl, by omega, fun j hj => by rw [hf j (by omega)]; simp, h⟩ ?_
      clear h hf hfi hb2
      rintro t w ⟨q, e, rfl, hq, he, h⟩
      unfold ref01_Sum.b7
      refine r_ite (fun hb3 => ?_) (fun hb3 => ?_)
      · simp only [decide_eq_true_eq] at hb3
        refine r_dr h ?_
        clear h
        intro w h
        obtain ⟨p, hp⟩ : ∃ p, pows[q]? = some p := ⟨_, List.getElem?_eq_getElem (by show q < 18; omega)⟩
        have hp32 := hpw p (List.mem_of_getElem? hp)
        have hpv : powV.toArray[0 + q * 1]? = some (.int .i64 (p : Int)) := by
          rw [Nat.zero_add, Nat.mul_one, List.getElem?_toArray, List.getElem?_map, hp]; rfl
        refine r_add64 (by omega) (by omega) ?_
        refine ⟨_, by omega, by omega, rfl, ?_⟩
        refine r_add64 (by omega) (by omega) ?_
        refine ⟨_, by omega, by omega, rfl, ?_⟩
        simp only [Int.toNat_natCast, add_mk]
        refine r_ld (x := (p : Int)) h rfl (by first | with_reducible exact M0 | with_reducible exact M1 | with_reducible exact M2 | with_reducible exact M3 | with_reducible exact M4 | with_reducible exact M5 | with_reducible exact M6 | with_reducible exact M7 | with_reducible exact M8 | with_reducible exact M9 | with_reducible exact M10 | with_reducible exact M11 | with_reducible exact M12) hpv ?_
        refine r_ar (e' := ((i + 32 - p : Nat) : Int)) (by rw [wrap64 (by omega) (by omega)]; omega) ?_
        refine r_ld (x := (p : Int)) h rfl (by first | with_reducible exact M0 | with_reducible exact M1 | with_reducible exact M2 | with_reducible exact M3 | with_reducible exact M4 | with_reducible exact M5 | with_reducible exact M6 | with_reducible exact M7 | with_reducible exact M8 | with_reducible exact M9 | with_reducible exact M10 | with_reducible exact M11 | with_reducible exact M12) hpv ?_
        refine r_ar (e' := ((i + 32 - p : Nat) : Int)) (by rw [wrap64 (by omega) (by omega)]; omega) ?_
        refine r_bit ((h.tail).rdC List.mem_cons_self) (by omega) ?_
        refine r_ar (e' := bitI (!(e (i + 32 - p)))) (by rw [← bitI_not]; exact wrap64 (by unfold bitI; split <;> omega) (by unfold bitI; split <;> omega)) ?_
        refine r_idxSt h.swap (by omega) rfl fun w h => ?_
        rw [show (Value.int .i64 (bitI (!(e (i + 32 - p))))) = bV (!(e (i + 32 - p))) from rfl, bl_set] at h
        refine r_add64 (by omega) (by omega) ?_
        refine ⟨⟨q + 1, _, by omega, by omega, fun j hj => ?_, h.swap⟩, by omega⟩
        have hql : q < pows.length := by show q < 18; omega
        have htk : pows.take (q + 1) = pows.take q ++ [p] := by
          rw [List.take_succ_eq_append_getElem hql]
          have := (List.getElem?_eq_some_iff.1 hp).2
          rw [this]
        rw [htk, List.any_append]
        by_cases hjp : j = i + 32 - p
        · rw [if_pos hjp, ← hjp, he j hj]
          have hno : (pows.take q).any (fun p => j + p == i + 32) = false := by
            rw [List.any_eq_false]
            intro p' hp' heq
            have h1 : p' = p := by have : j + p' = i + 32 := by simpa using heq
                                   omega
            subst h1
            have hdist : ∀ q, q < 18 → ∀ p, pows[q]? = some p → p ∉ pows.take q := by decide
            exact hdist q (by omega) _ hp hp'
          rw [hno]
          have : ([p].any fun p => j + p == i + 32) = true := by simp; omega
          rw [this]
          cases rest xs i j <;> rfl
        · rw [if_neg hjp, he j hj]
          have : ([p].any fun p => j + p == i + 32) = false := by simp; omega
          rw [this, Bool.or_false]
      · simp only [decide_eq_false_iff_not] at hb3
        have hq18 : q = 18 := by omega
        subst hq18
        refine next w ⟨e, fun j hj => ?_, h⟩
        rw [he j hj, rest_step xs i j hj, hri, Bool.true_and]
        rfl
    · simp only [decide_eq_false_iff_not] at hb2
      have hri : rest xs i i = false := by
        rw [← hfi]
        cases hfb : f i with
        | false => rfl
        | true => rw [hfb] at hb2; exact absurd rfl hb2
      refine next w ⟨f, fun j hj => ?_, h⟩
      rw [hf j (by omega), rest_step xs i j hj, hri, Bool.false_and, Bool.xor_false]
  · simp only [decide_eq_false_iff_not] at hb
    have hiN : i = 8 * xs.length := by omega
    subst hiN
    have hfin : ∀ q, q < 32 → f (8 * xs.length + q) = (crcR xs).getLsbD q := fun q hq => by
      rw [hf _ (by omega)]
      unfold rest
      rw [msg_out (by omega), if_pos (by omega)]
      have h1 := crcR_bits xs xs.length (Nat.le_refl _)
      rw [List.take_length] at h1
      rw [← h1, Nat.add_sub_cancel_left, Bool.false_xor]
    refine LoopK.of (fun t w => ∃ q : Nat, t = ((((crcC xs).toNat % 2 ^ q : Nat) : Int), (q : Int)) ∧ q ≤ 32 ∧ Holds B (blk pw (.cells powV.toArray ty_18_int (0, 0)) :: SlC ty_int 1 g (bl N f) :: Γ) w) (fun t _ => ((32 : Int) - t.2).toNat) ⟨0, by simp [Nat.mod_one], by omega, h⟩ ?_
    clear h
    rintro t w ⟨q, rfl, hq, h⟩
    dsimp only
    unfold ref01_Sum.b8
    refine r_ite (fun hb2 => ?_) (fun hb2 => ?_)
    · simp only [decide_eq_true_eq] at hb2
      have hso := sum_out (crcR xs) q (by omega)
      refine r_ar (e' := ((8 * xs.length : Nat) : Int)) (by rw [wrap64 (by omega) (by omega)]; omega) ?_
      refine r_ar (e' := ((8 * xs.length + q : Nat) : Int)) (by rw [wrap64 (by omega) (by omega)]; omega) ?_
      refine r_bit ((h.tail).rdC List.mem_cons_self) (by omega) ?_
      rw [hfin q (by omega)]
      refine r_ite (fun hb3 => ?_) (fun hb3 => ?_)
      · simp only [decide_eq_true_eq] at hb3
        have hz : (crcR xs).getLsbD q = false := by
          cases hz : (crcR xs).getLsbD q with
          | false => rfl
          | true => rw [hz] at hb3; exact absurd hb3 (by decide)
        rw [if_pos ⟨by omega, hz⟩] at hso
        have hp2 : 2 ^ q ≤ 2 ^ 31 := Nat.pow_le_pow_right (by decide) (by omega)
        have hm := Nat.mod_lt (crcC xs).toNat (Nat.two_pow_pos q)
        refine r_ar (wrapU64 (by omega) (by omega)) ?_
        refine r_cd (by omega) ?_
        refine r_ar (e' := ((2 ^ q : Nat) : Int)) ?_ ?_
        · unfold shlOf
          have : min ((q : Int).toNat) (IntKind.bits .u32) = q := by simp [IntKind.bits]; omega
          rw [this, Int.one_mul]
          have e : ((2 : Int) ^ q) = ((2 ^ q : Nat) : Int) := by rw [Int.natCast_pow]; rfl
          rw [e]
          exact wrapU32 (by omega) (by omega)
        refine r_ar (e' := (((crcC xs).toNat % 2 ^ (q + 1) : Nat) : Int)) ?_ ?_
        · have : (crcC xs).toNat % 2 ^ (q + 1) = (crcC xs).toNat % 2 ^ q + 2 ^ q := hso
          rw [this, wrapU32 (by omega) (by omega)]
          omega
        unfold ref01_Sum.s9
        refine r_add64 (by omega) (by omega) ?_
        exact ⟨⟨q + 1, rfl, by omega, h⟩, by omega⟩
      · simp only [decide_eq_false_iff_not] at hb3
        have hz : ¬ (q < 32 ∧ (crcR xs).getLsbD q = false) := fun hz => by
          rw [hz.2] at hb3; exact hb3 rfl
        rw [if_neg hz, Nat.add_zero] at hso
        unfold ref01_Sum.s9
        refine r_add64 (by omega) (by omega) ?_
        have e : (crcC xs).toNat % 2 ^ q = (crcC xs).toNat % 2 ^ (q + 1) := hso.symm
        rw [e]
        exact ⟨⟨q + 1, rfl, by omega, h⟩, by omega⟩
    · simp only [decide_eq_false_iff_not] at hb2
      have hq32 : q = 32 := by omega
      subst hq32
      rw [Nat.mod_eq_of_lt (crcC xs).isLt]
      exact hk _ h.tail.tail
end
end Go.Proofs.Ytdpepgjbambinaa
