/- Plain forms of functions, and that their code comes to them (package lib_slices). -/
import Derived.Test.YtgnkminakongkaaCalls
import Derived.Test.YtgnkminakongkaaRounds
namespace Go.Proofs.Ytgnkminakongkaa
open Go Go.Sep
set_option linter.unusedVariables false
set_option linter.unusedSimpArgs false
set_option maxRecDepth 100000
set_option maxHeartbeats 4000000
def slices_Clone_s_byte_byte (s0 : Sl) (Q : Sl → K) : K :=
  Ite ((s0).a.isNone)
    (Q (Sl.mk none 0 0))
    (New 5 #[] fun t5 =>
    Do Try.prog (Builtin.append_ #[33, 33] 33 #[(Sl.val (Sl.mk (some t5) 0 0)), (Sl.val s0)]) Sl.val fun t7 =>
    Q t7)
theorem slices_Clone_s_byte_byte_ok (s0 : Sl) (Q : Sl → K) (w : World) (h : slices_Clone_s_byte_byte s0 Q w) : slices_Clone_s_byte_byte.call s0 Q w := by
  unfold slices_Clone_s_byte_byte.call CallF
  refine f_start (args := [(Sl.val s0)]) Try.func52 rfl (Nat.le_of_ble_eq_true rfl) ?_
  intro a hs
  unfold slices_Clone_s_byte_byte at h
  refine wp_seq_k fun K1 hK1 => ?_
  refine wp_region_lit ?_
  refine t_pure hs rfl rfl (by decide) (p_assign rfl rfl) ?_
  clear hs a; intro a hs
  refine hK1 _ _ ?_
  refine wp_seq_k fun K2 hK2 => ?_
  refine wp_seq_k fun K3 hK3 => ?_
  refine wp_region_lit ?_
  refine t_pure hs rfl rfl (by decide) (p_move rfl rfl) ?_
  clear hs a; intro a hs
  refine t_pure hs rfl rfl (by decide) (p_eq_sl rfl rfl rfl Try.underlying33) ?_
  clear hs a; intro a hs
  refine hK3 _ _ ?_
  refine c_cond hs rfl (fun hb => ?_) (fun hb => ?_)
  · replace h := h.1 hb
    clear hb
    refine wp_seq_k fun K4 hK4 => ?_
    refine wp_region_lit ?_
    refine t_pure hs rfl rfl (by decide) (p_assign rfl rfl) ?_
    clear hs a; intro a hs
    refine hK4 _ _ ?_
    refine wp_ret ?_
    refine f_ret (fn := Try.f52) hs (fun a hs => r_one hs rfl (rfl)) ⟨(Sl.mk none 0 0), rfl, h⟩
  · replace h := h.2 hb
    clear hb
    refine wp_skip ?_
    refine hK2 _ _ ?_
    refine wp_seq_k fun K5 hK5 => ?_
    refine wp_region_lit ?_
    obtain ⟨t5, w1, ha, hw, h⟩ := h
    refine t_eff hs rfl rfl (by decide) (e_buildSlice (z := #[]) (cs := #[]) rfl sl_33 zt_5 (by decide) rfl rz_5_0 (by rfl) ha hw) ?_
    clear hs a ha hw; intro a hs
    refine t_pure hs rfl rfl (by decide) (p_move rfl rfl) ?_
    clear hs a; intro a hs
    obtain ⟨t7, w1, hd, h⟩ := h
    refine t_eff hs rfl rfl (by decide) (e_append rfl rfl rfl rfl hd) ?_
    clear hs a hd; intro a hs
    refine t_pure hs rfl rfl (by decide) (p_assign rfl rfl) ?_
    clear hs a; intro a hs
    refine hK5 _ _ ?_
    refine wp_ret ?_
    refine f_ret (fn := Try.f52) hs (fun a hs => r_one hs rfl (rfl)) ⟨t7, rfl, h⟩
def slices_Sorted_string (seq0 : Value) (Q : Sl → K) : K :=
  slices_Collect_string.call seq0 fun t5 =>
  slices_Sort_s_string_string.call t5 <|
  Q t5
theorem slices_Sorted_string_ok (seq0 : Value) (Q : Sl → K) (w : World) (h : slices_Sorted_string seq0 Q w) : slices_Sorted_string.call seq0 Q w := by
  unfold slices_Sorted_string.call CallF
  refine f_start (args := [seq0]) Try.func53 rfl (Nat.le_of_ble_eq_true rfl) ?_
  intro a hs
  unfold slices_Sorted_string at h
  refine wp_seq_k fun K1 hK1 => ?_
  refine wp_region_lit ?_
  refine t_pure hs rfl rfl (by decide) (p_assign rfl rfl) ?_
  clear hs a; intro a hs
  refine hK1 _ _ ?_
  refine wp_seq_k fun K2 hK2 => ?_
  refine wp_region_lit ?_
  refine t_pure hs rfl rfl (by decide) (p_move rfl rfl) ?_
  clear hs a; intro a hs
  refine t_call hs rfl rfl (by decide) (e_call rfl rfl rfl cb_71) h ?_
  clear hs a h
  intro v a w hk hs
  obtain ⟨t5, rfl, h⟩ := hk
  refine t_pure hs rfl rfl (by decide) (p_assign rfl rfl) ?_
  clear hs a; intro a hs
  refine hK2 _ _ ?_
  refine wp_seq_k fun K3 hK3 => ?_
  refine wp_region_lit ?_
  refine t_pure hs rfl rfl (by decide) (p_move rfl rfl) ?_
  clear hs a; intro a hs
  refine t_call hs rfl rfl (by decide) (e_call rfl rfl rfl cb_72) h ?_
  clear hs a h
  intro v a w hk hs
  obtain ⟨rfl, h⟩ := hk
  refine hK3 _ _ ?_
  refine wp_seq_k fun K4 hK4 => ?_
  refine wp_region_lit ?_
  refine t_pure hs rfl rfl (by decide) (p_move rfl rfl) ?_
  clear hs a; intro a hs
  refine t_pure hs rfl rfl (by decide) (p_assign rfl rfl) ?_
  clear hs a; intro a hs
  refine hK4 _ _ ?_
  refine wp_ret ?_
  refine f_ret (fn := Try.f53) hs (fun a hs => r_one hs rfl (rfl)) ⟨t5, rfl, h⟩
def slices_Collect_string (seq0 : Value) (Q : Sl → K) : K :=
  slices_AppendSeq_s_string_string.call (Sl.mk none 0 0) seq0 fun t4 =>
  Q t4
theorem slices_Collect_string_ok (seq0 : Value) (Q : Sl → K) (w : World) (h : slices_Collect_string seq0 Q w) : slices_Collect_string.call seq0 Q w := by
  unfold slices_Collect_string.call CallF
  refine f_start (args := [seq0]) Try.func71 rfl (Nat.le_of_ble_eq_true rfl) ?_
  intro a hs
  unfold slices_Collect_string at h
  refine wp_seq_k fun K1 hK1 => ?_
  refine wp_region_lit ?_
  refine t_pure hs rfl rfl (by decide) (p_assign rfl rfl) ?_
  clear hs a; intro a hs
  refine hK1 _ _ ?_
  refine wp_seq_k fun K2 hK2 => ?_
  refine wp_region_lit ?_
  refine t_pure hs rfl rfl (by decide) (p_move rfl rfl) ?_
  clear hs a; intro a hs
  refine t_call hs rfl rfl (by decide) (e_call rfl rfl rfl cb_95) h ?_
  clear hs a h
  intro v a w hk hs
  obtain ⟨t4, rfl, h⟩ := hk
  refine t_pure hs rfl rfl (by decide) (p_assign rfl rfl) ?_
  clear hs a; intro a hs
  refine hK2 _ _ ?_
  refine wp_ret ?_
  refine f_ret (fn := Try.f71) hs (fun a hs => r_one hs rfl (rfl)) ⟨t4, rfl, h⟩
def slices_Sort_s_string_string (x0 : Sl) (Q : K) : K :=
  Ar (IntKind.wrap .u64 (x0.n : Int)) fun t8 =>
  math_bits_Len.call t8 fun t9 =>
  slices_pdqsortOrdered_string.call x0 0 (x0.n : Int) t9 <|
  Q
theorem slices_Sort_s_string_string_ok (x0 : Sl) (Q : K) (w : World) (h : slices_Sort_s_string_string x0 Q w) : slices_Sort_s_string_string.call x0 Q w := by
  unfold slices_Sort_s_string_string.call CallF
  refine f_start (args := [(Sl.val x0)]) Try.func72 rfl (Nat.le_of_ble_eq_true rfl) ?_
  intro a hs
  unfold slices_Sort_s_string_string at h
  refine wp_seq_k fun K1 hK1 => ?_
  refine wp_region_lit ?_
  refine t_pure hs rfl rfl (by decide) (p_move rfl rfl) ?_
  clear hs a; intro a hs
  refine t_pure hs rfl rfl (by decide) (p_len rfl rfl sl_59) ?_
  clear hs a; intro a hs
  refine t_pure hs rfl rfl (by decide) (p_assign rfl rfl) ?_
  clear hs a; intro a hs
  refine hK1 _ _ ?_
  refine wp_region_lit ?_
  refine t_pure hs rfl rfl (by decide) (p_move rfl rfl) ?_
  clear hs a; intro a hs
  refine t_pure hs rfl rfl (by decide) (p_move rfl rfl) ?_
  clear hs a; intro a hs
  refine t_pure hs rfl rfl (by decide) (p_move rfl rfl) ?_
  clear hs a; intro a hs
  obtain ⟨t8, he, h⟩ := h
  refine t_pure hs rfl rfl (by decide) (Pure.int he (p_conv_int rfl rfl in_3 in_166)) ?_
  clear hs a he; intro a hs
  refine t_call hs rfl rfl (by decide) (e_call rfl rfl rfl cb_97) h ?_
  clear hs a h
  intro v a w hk hs
  obtain ⟨t9, rfl, h⟩ := hk
  refine t_call hs rfl rfl (by decide) (e_call rfl rfl rfl cb_96) h ?_
  clear hs a h
  intro v a w hk hs
  obtain ⟨rfl, h⟩ := hk
  refine f_end (fn := Try.f72) hs (fun a hs => r_many hs (rs := []) (vs := []) rfl (by decide) trivial) ⟨rfl, h⟩
def slices_Chunk_s_byte_byte.s1 (Q : Value → K)  (s2_1 : Addr) (n3_1 : Addr) : K :=
  Q (.func (.func 99) #[] #[(.pointer (some s2_1)), (.pointer (some n3_1))])
def slices_Chunk_s_byte_byte (s0 : Sl) (n1 : Int) (Q : Value → K) : K :=
  New 33 #[(Sl.val s0)] fun s2 =>
  New 3 #[(.int .i64 n1)] fun n3 =>
  Ld n3 (Value.int .i64) fun t5 =>
  Ite (decide (t5 < 1))
    (Rd Try.prog (Instr.makeInterface 9 (.string ⟨#[99, 97, 110, 110, 111, 116, 32, 98, 101, 32, 108, 101, 115, 115, 32, 116, 104, 97, 110, 32, 49]⟩)) id fun t7 =>
    Dead)
    (slices_Chunk_s_byte_byte.s1 Q s2 n3)
theorem slices_Chunk_s_byte_byte_ok (s0 : Sl) (n1 : Int) (Q : Value → K) (w : World) (h : slices_Chunk_s_byte_byte s0 n1 Q w) : slices_Chunk_s_byte_byte.call s0 n1 Q w := by
  unfold slices_Chunk_s_byte_byte.call CallF
  refine f_start (args := [(Sl.val s0), (.int .i64 n1)]) Try.func82 rfl (Nat.le_of_ble_eq_true rfl) ?_
  intro a hs
  unfold slices_Chunk_s_byte_byte at h
  refine wp_seq_k fun K1 hK1 => ?_
  refine wp_region_lit ?_
  obtain ⟨s2, w1, ha, hw, h⟩ := h
  refine t_eff hs rfl rfl (by decide) (e_box rfl rfl rfl ha hw) ?_
  clear hs a ha hw; intro a hs
  obtain ⟨n3, w1, ha, hw, h⟩ := h
  refine t_eff hs rfl rfl (by decide) (e_box rfl rfl rfl ha hw) ?_
  clear hs a ha hw; intro a hs
  refine t_pure hs rfl rfl (by decide) (p_assign rfl rfl) ?_
  clear hs a; intro a hs
  refine hK1 _ _ ?_
  refine wp_seq_k fun K2 hK2 => ?_
  have J1 : ∀ (a : Act) (w : World), Slots a 9 [(2, (.pointer (some s2))), (3, (.pointer (some n3)))] → slices_Chunk_s_byte_byte.s1 Q s2 n3 w → K2 a w := by
    clear h hs
    intro a w hs h
    refine hK2 _ _ ?_
    unfold slices_Chunk_s_byte_byte.s1 at h
    refine wp_seq_k fun K3 hK3 => ?_
    refine wp_region_lit ?_
    refine t_pure hs rfl rfl (by decide) (p_makeFunc rfl rfl rfl) ?_
    clear hs a; intro a hs
    refine t_pure hs rfl rfl (by decide) (p_assign rfl rfl) ?_
    clear hs a; intro a hs
    refine hK3 _ _ ?_
    refine wp_ret ?_
    refine f_ret (fn := Try.f82) hs (fun a hs => r_one hs rfl (rfl)) ⟨(.func (.func 99) #[] #[(.pointer (some s2)), (.pointer (some n3))]), rfl, h⟩
  clear hK2
  refine wp_seq_k fun K4 hK4 => ?_
  refine wp_region_lit ?_
  obtain ⟨t5, hv, h⟩ := h
  refine t_eff hs rfl rfl (by decide) (e_load rfl rfl ct_3 hv) ?_
  clear hs a hv; intro a hs
  refine t_pure hs rfl rfl (by decide) (p_lt rfl rfl rfl) ?_
  clear hs a; intro a hs
  refine hK4 _ _ ?_
  refine c_cond hs rfl (fun hb => ?_) (fun hb => ?_)
  · replace h := h.1 hb
    clear hb
    refine wp_region_lit ?_
    obtain ⟨t7, hd, h⟩ := h
    refine t_eff hs rfl rfl (by decide) (e_makeInterface rfl rfl hd) ?_
    clear hs a hd; intro a hs
    exact h.elim
  · replace h := h.2 hb
    clear hb
    refine wp_skip ?_
    exact J1 _ _ (hs.to ⟨rfl, rfl, trivial⟩) h
def slices_Equal_s_byte_byte.b1 (Q : Bool → K)  (X1 : Int → K) (s0_1 : Sl) (s1_1 : Sl) (t12_1 : Int) (t13_1 : Int) : K :=
  Ite (decide (t13_1 < t12_1))
    (Dr <|
    Idx s0_1 t13_1 1 fun t18 =>
    Ld t18 (Value.int .u8) fun t19 =>
    Idx s1_1 t13_1 1 fun t22 =>
    Ld t22 (Value.int .u8) fun t23 =>
    Ite (decide (t19 ≠ t23))
      (Q false)
      (Ar (IntKind.wrap .i64 (t13_1 + 1)) fun t25 =>
      X1 t25))
    (Q true)
def slices_Equal_s_byte_byte (s0 : Sl) (s1 : Sl) (Q : Bool → K) : K :=
  Ite (decide ((s0.n : Int) ≠ (s1.n : Int)))
    (Q false)
    (LoopK (α := Int) (fun X x => slices_Equal_s_byte_byte.b1 Q X s0 s1 (s0.n : Int) x) 0)
theorem slices_Equal_s_byte_byte_ok (s0 : Sl) (s1 : Sl) (Q : Bool → K) (w : World) (h : slices_Equal_s_byte_byte s0 s1 Q w) : slices_Equal_s_byte_byte.call s0 s1 Q w := by
  unfold slices_Equal_s_byte_byte.call CallF
  refine f_start (args := [(Sl.val s0), (Sl.val s1)]) Try.func84 rfl (Nat.le_of_ble_eq_true rfl) ?_
  intro a hs
  unfold slices_Equal_s_byte_byte at h
  refine wp_seq_k fun K1 hK1 => ?_
  refine wp_region_lit ?_
  refine t_pure hs rfl rfl (by decide) (p_assign rfl rfl) ?_
  clear hs a; intro a hs
  refine hK1 _ _ ?_
  refine wp_seq_k fun K2 hK2 => ?_
  refine wp_seq_k fun K3 hK3 => ?_
  refine wp_region_lit ?_
  refine t_pure hs rfl rfl (by decide) (p_move rfl rfl) ?_
  clear hs a; intro a hs
  refine t_pure hs rfl rfl (by decide) (p_len rfl rfl sl_33) ?_
  clear hs a; intro a hs
  refine t_pure hs rfl rfl (by decide) (p_move rfl rfl) ?_
  clear hs a; intro a hs
  refine t_pure hs rfl rfl (by decide) (p_len rfl rfl sl_33) ?_
  clear hs a; intro a hs
  refine t_pure hs rfl rfl (by decide) (p_ne rfl rfl rfl) ?_
  clear hs a; intro a hs
  refine hK3 _ _ ?_
  refine c_cond hs rfl (fun hb => ?_) (fun hb => ?_)
  · replace h := h.1 hb
    clear hb
    refine wp_seq_k fun K4 hK4 => ?_
    refine wp_region_lit ?_
    refine t_pure hs rfl rfl (by decide) (p_assign rfl rfl) ?_
    clear hs a; intro a hs
    refine hK4 _ _ ?_
    refine wp_ret ?_
    refine f_ret (fn := Try.f84) hs (fun a hs => r_one hs rfl (rfl)) ⟨false, rfl, h⟩
  · replace h := h.2 hb
    clear hb
    refine wp_skip ?_
    refine hK2 _ _ ?_
    refine wp_seq_k fun K5 hK5 => ?_
    refine wp_seq_k fun K6 hK6 => ?_
    refine wp_region_lit ?_
    refine t_pure hs rfl rfl (by decide) (p_move rfl rfl) ?_
    clear hs a; intro a hs
    refine t_pure hs rfl rfl (by decide) (p_len rfl rfl sl_33) ?_
    clear hs a; intro a hs
    refine t_pure hs rfl rfl (by decide) (p_move rfl rfl) ?_
    clear hs a; intro a hs
    refine hK6 _ _ ?_
    refine wp_block ?_
    obtain ⟨I1, μ1, h0, hr⟩ := h
    refine c_loop (α := Int) I1 μ1 (fun x a => Slots a 26 [(0, (Sl.val s0)), (1, (Sl.val s1)), (12, (.int .i64 (s0.n : Int))), (13, (.int .i64 x))]) 0 h0 (hs.to ⟨rfl, rfl, rfl, rfl, trivial⟩) ?_
    clear h0 hs a
    intro t13_1 a w hI hs
    have h : slices_Equal_s_byte_byte.b1 Q (fun t13_1n w' => I1 t13_1n w' ∧ μ1 t13_1n w' < μ1 t13_1 w) s0 s1 (s0.n : Int) t13_1 w := hr t13_1 w hI
    clear hr hI
    generalize hX1 : (fun t13_1n w' => I1 t13_1n w' ∧ μ1 t13_1n w' < μ1 t13_1 w) = X1 at h
    unfold slices_Equal_s_byte_byte.b1 at h
    replace hs : Slots a 26 [(0, (Sl.val s0)), (1, (Sl.val s1)), (12, (.int .i64 (s0.n : Int))), (13, (.int .i64 t13_1))] := hs
    refine wp_seq_k fun K7 hK7 => ?_
    refine wp_region_lit ?_
    refine t_pure hs rfl rfl (by decide) (p_lt rfl rfl rfl) ?_
    clear hs a; intro a hs
    refine hK7 _ _ ?_
    refine wp_seq_k fun K8 hK8 => ?_
    refine c_cond hs rfl (fun hb => ?_) (fun hb => ?_)
    · replace h := h.1 hb
      clear hb
      refine wp_skip ?_
      refine hK8 _ _ ?_
      refine wp_seq_k fun K9 hK9 => ?_
      refine wp_block ?_
      refine wp_seq_k fun K10 hK10 => ?_
      refine wp_region_lit ?_
      refine t_pure hs rfl rfl (by decide) (p_move rfl rfl) ?_
      clear hs a; intro a hs
      refine t_pure hs rfl rfl (by decide) (p_assign rfl rfl) ?_
      clear hs a; intro a hs
      refine hK10 _ _ ?_
      refine wp_seq_k fun K11 hK11 => ?_
      obtain ⟨w1, hw1, h⟩ := h
      refine s_start mixed (by kernel_rfl) hw1 ?_
      clear hw1
      refine s_pure hs rfl rfl (by decide) (p_move rfl rfl) ?_
      clear hs a; intro a hs
      refine s_pure hs rfl rfl (by decide) (p_move rfl rfl) ?_
      clear hs a; intro a hs
      obtain ⟨qt18, t18, ha, h0, h1, he, h⟩ := h
      refine s_pure hs rfl rfl (by decide) (Pure.adr he (p_idx rfl rfl rfl sl_33 ha h0 h1)) ?_
      clear hs a ha h0 h1 he; intro a hs
      obtain ⟨t19, hv, h⟩ := h
      refine s_eff hs rfl rfl (by decide) (e_load rfl rfl ct_5 hv) ?_
      clear hs a hv; intro a hs
      refine s_pure hs rfl rfl (by decide) (p_move rfl rfl) ?_
      clear hs a; intro a hs
      refine s_pure hs rfl rfl (by decide) (p_move rfl rfl) ?_
      clear hs a; intro a hs
      obtain ⟨qt22, t22, ha, h0, h1, he, h⟩ := h
      refine s_pure hs rfl rfl (by decide) (Pure.adr he (p_idx rfl rfl rfl sl_33 ha h0 h1)) ?_
      clear hs a ha h0 h1 he; intro a hs
      obtain ⟨t23, hv, h⟩ := h
      refine s_eff hs rfl rfl (by decide) (e_load rfl rfl ct_5 hv) ?_
      clear hs a hv; intro a hs
      replace hs := hs.to (τ := [(0, (Sl.val s0)), (1, (Sl.val s1)), (12, (.int .i64 (s0.n : Int))), (13, (.int .i64 t13_1)), (19, (.int .u8 t19)), (23, (.int .u8 t23))]) ⟨rfl, rfl, rfl, rfl, rfl, rfl, trivial⟩
      refine s_pure hs rfl rfl (by decide) (p_ne rfl rfl rfl) ?_
      clear hs a; intro a hs
      refine hK11 _ _ ?_
      refine c_cond hs rfl (fun hb => ?_) (fun hb => ?_)
      · replace h := h.1 hb
        clear hb
        refine wp_seq_k fun K12 hK12 => ?_
        refine wp_region_lit ?_
        refine t_pure hs rfl rfl (by decide) (p_assign rfl rfl) ?_
        clear hs a; intro a hs
        refine hK12 _ _ ?_
        refine wp_ret ?_
        refine f_ret (fn := Try.f84) hs (fun a hs => r_one hs rfl (rfl)) ⟨false, rfl, h⟩
      · replace h := h.2 hb
        clear hb
        refine wp_skip ?_
        refine hK9 _ _ ?_
        refine wp_region_lit ?_
        obtain ⟨t25, he, h⟩ := h
        refine t_pure hs rfl rfl (by decide) (Pure.int he (p_add rfl rfl rfl)) ?_
        clear hs a he; intro a hs
        refine t_pure hs rfl rfl (by decide) (p_move rfl rfl) ?_
        clear hs a; intro a hs
        rw [← hX1] at h
        exact ⟨t25, hs.to ⟨rfl, rfl, rfl, rfl, trivial⟩, h⟩
    · replace h := h.2 hb
      clear hb
      refine wp_exit ?_
      refine hK5 _ _ ?_
      refine wp_seq_k fun K13 hK13 => ?_
      refine wp_region_lit ?_
      refine t_pure hs rfl rfl (by decide) (p_assign rfl rfl) ?_
      clear hs a; intro a hs
      refine hK13 _ _ ?_
      refine wp_ret ?_
      refine f_ret (fn := Try.f84) hs (fun a hs => r_one hs rfl (rfl)) ⟨true, rfl, h⟩
def slices_AppendSeq_s_string_string (s0 : Sl) (seq1 : Value) (Q : Sl → K) : K :=
  New 59 #[(Sl.val s0)] fun s2 =>
  RangeF Try.prog seq1 Value.string (fun KN1 x7 =>
    Ld s2 Sl.val fun t8 =>
    New 9 #[(.string x7)] fun t10 =>
    Do Try.prog (Builtin.append_ #[59, 59] 59 #[(Sl.val t8), (Sl.val (Sl.mk (some t10) 1 1))]) Sl.val fun t11 =>
    St s2 (Sl.val t11) <|
    KN1)
  fun D1 =>
  Ld s2 Sl.val fun t12 =>
  TakeD D1 <|
  Q t12
theorem slices_AppendSeq_s_string_string_ok (s0 : Sl) (seq1 : Value) (Q : Sl → K) (w : World) (h : slices_AppendSeq_s_string_string s0 seq1 Q w) : slices_AppendSeq_s_string_string.call s0 seq1 Q w := by
  unfold slices_AppendSeq_s_string_string.call CallF
  refine fI_start (args := [(Sl.val s0), seq1]) Try.func95 rfl (Nat.le_of_ble_eq_true rfl) ?_
  intro a hs
  unfold slices_AppendSeq_s_string_string at h
  refine wpIn_seq_k fun K1 hK1 => ?_
  refine wpIn_region_lit ?_
  obtain ⟨s2, w1, ha, hw, h⟩ := h
  refine tI_eff free_wide hs rfl rfl (by decide) (fun _ h => by cases h) (e_box rfl rfl rfl ha hw) ?_
  clear hs a ha hw; intro a hs
  refine tI_pure free_wide hs rfl rfl (by decide) (fun _ h => by cases h) (p_assign rfl rfl) ?_
  clear hs a; intro a hs
  refine hK1 _ _ ?_
  refine wpIn_seq_k fun K2 hK2 => ?_
  refine wpIn_seq_k fun K3 hK3 => ?_
  refine wpIn_region_lit ?_
  refine tI_pure free_wide hs rfl rfl (by decide) (fun _ h => by cases h) (p_move rfl rfl) ?_
  clear hs a; intro a hs
  refine hK3 _ _ ?_
  refine wpIn_block ?_
  refine c_range (σ2 := fun x7 => [(2, (.pointer (some s2))), (5, (.string x7))]) hs rfl (by decide) h ?_ ?_ ?_
  · clear hs h a
    intro l1 x7 k a w hs hk
    replace hs := hs.to (τ := [(2, (.pointer (some s2))), (7, (.string x7))]) ⟨rfl, rfl, trivial⟩
    refine wpIn_region_lit ?_
    refine tI_pure (free_wide.round l1) hs rfl rfl (by decide) (fun _ h => by cases h) (p_assign rfl rfl) ?_
    clear hs a; intro a hs
    exact hk _ (hs.to ⟨rfl, rfl, trivial⟩)
  · clear hs h a
    intro l1 x7 KN1 a w hs h
    refine wpIn_block ?_
    refine wpIn_region_lit ?_
    obtain ⟨t8, hv, h⟩ := h
    refine tI_eff (free_wide.round l1) hs rfl rfl (by decide) (fun _ h => by cases h) (e_load rfl rfl ct_59 hv) ?_
    clear hs a hv; intro a hs
    refine tI_pure (free_wide.round l1) hs rfl rfl (by decide) (fun _ h => by cases h) (p_move rfl rfl) ?_
    clear hs a; intro a hs
    obtain ⟨t10, w1, ha, hw, h⟩ := h
    refine tI_eff (free_wide.round l1) hs rfl rfl (by decide) (fun _ h => by cases h) (e_buildSlice (z := #[(.string ⟨#[]⟩)]) (cs := #[(.string x7)]) rfl sl_59 zt_9 (by decide) rfl rz_9_1 (by rfl) ha hw) ?_
    clear hs a ha hw; intro a hs
    obtain ⟨t11, w1, hd, h⟩ := h
    refine tI_eff (free_wide.round l1) hs rfl rfl (by decide) (fun _ h => by cases h) (e_append rfl rfl rfl rfl hd) ?_
    clear hs a hd; intro a hs
    obtain ⟨w1, hw, hc, hf, hv, h⟩ := h
    refine tI_skip (free_wide.round l1) hs rfl rfl (fun _ h => by cases h) (e_store rfl rfl rfl sz_59 hw hc hf hv) ?_
    clear hs a hw hc hf hv; intro a hs
    exact h
  · clear h hs a
    intro D1 a w hs h
    replace hs := hs.to (τ := [(2, (.pointer (some s2)))]) ⟨rfl, trivial⟩
    refine hK2 _ _ ?_
    refine wpIn_seq_k fun K4 hK4 => ?_
    refine wpIn_region_lit ?_
    obtain ⟨t12, hv, h⟩ := h
    refine tI_eff free_wide hs rfl rfl (by decide) (fun _ h => by cases h) (e_load rfl rfl ct_59 hv) ?_
    clear hs a hv; intro a hs
    refine tI_pure free_wide hs rfl rfl (by decide) (fun _ h => by cases h) (p_assign rfl rfl) ?_
    clear hs a; intro a hs
    refine hK4 _ _ ?_
    refine wpIn_ret ?_
    refine fI_retM (fn := Try.f95) hs (fun a w hs => r_one hs rfl (rfl)) ⟨h.1, t12, rfl, h.2⟩
def slices_Chunk_s_byte_byte_1.b1 (Q : K)  (X1 : Int → K) (yield0_1 : Value) (t1_1 : Addr) (t2_1 : Addr) (i4_1 : Int) : K :=
  Ld t1_1 Sl.val fun t7 =>
  Ite (decide (i4_1 < (t7.n : Int)))
    (Dr <|
    Ld t2_1 (Value.int .i64) fun t13 =>
    Ld t1_1 Sl.val fun t14 =>
    Slc t14 i4_1 (t14.n : Int) (t14.c : Int) 1 fun t16 =>
    Ar (if ((t16.n : Int) : Int) < t13 then (t16.n : Int) else t13) fun t18 =>
    Ld t1_1 Sl.val fun t20 =>
    Ar (IntKind.wrap .i64 (i4_1 + t18)) fun t24 =>
    Ar (IntKind.wrap .i64 (i4_1 + t18)) fun t27 =>
    Slc t20 i4_1 t24 t27 1 fun t28 =>
    CallY Try.prog yield0_1 [(Sl.val t28)] <| Ans1 (fun (t29 : Bool) => Value.bool t29) fun t29 =>
    Ite (!t29)
      (Q)
      (Ld t2_1 (Value.int .i64) fun t11 =>
      Ar (IntKind.wrap .i64 (i4_1 + t11)) fun t12 =>
      X1 t12))
    (Q)
def slices_Chunk_s_byte_byte_1 (yield0 : Value) (t1 : Addr) (t2 : Addr) (Q : K) : K :=
  LoopK (α := Int) (fun X x => slices_Chunk_s_byte_byte_1.b1 Q X yield0 t1 t2 x) 0
theorem slices_Chunk_s_byte_byte_1_ok (yield0 : Value) (t1 : Addr) (t2 : Addr) (Q : K) (w : World) (h : slices_Chunk_s_byte_byte_1 yield0 t1 t2 Q w) : slices_Chunk_s_byte_byte_1.call yield0 t1 t2 Q w := by
  unfold slices_Chunk_s_byte_byte_1.call CallF
  refine fI_start (args := [yield0, (.pointer (some t1)), (.pointer (some t2))]) Try.func99 rfl (Nat.le_of_ble_eq_true rfl) ?_
  intro a hs
  unfold slices_Chunk_s_byte_byte_1 at h
  refine wpIn_seq_k fun K1 hK1 => ?_
  refine wpIn_region_lit ?_
  refine tI_pure free_wide hs rfl rfl (by decide) (fun _ h => by cases h) (p_assign rfl rfl) ?_
  clear hs a; intro a hs
  refine hK1 _ _ ?_
  refine wpIn_block ?_
  obtain ⟨I1, μ1, h0, hr⟩ := h
  refine cI_loop (α := Int) I1 μ1 (fun x a => SlotsD [] a 31 [(0, yield0), (1, (.pointer (some t1))), (2, (.pointer (some t2))), (4, (.int .i64 x))]) 0 h0 (hs.to ⟨rfl, rfl, rfl, rfl, trivial⟩) ?_
  clear h0 hs a
  intro i4_1 a w hI hs
  have h : slices_Chunk_s_byte_byte_1.b1 Q (fun i4_1n w' => I1 i4_1n w' ∧ μ1 i4_1n w' < μ1 i4_1 w) yield0 t1 t2 i4_1 w := hr i4_1 w hI
  clear hr hI
  generalize hX1 : (fun i4_1n w' => I1 i4_1n w' ∧ μ1 i4_1n w' < μ1 i4_1 w) = X1 at h
  unfold slices_Chunk_s_byte_byte_1.b1 at h
  replace hs : SlotsD [] a 31 [(0, yield0), (1, (.pointer (some t1))), (2, (.pointer (some t2))), (4, (.int .i64 i4_1))] := hs
  refine wpIn_seq_k fun K2 hK2 => ?_
  refine wpIn_seq_k fun K3 hK3 => ?_
  refine wpIn_region_lit ?_
  refine tI_pure free_wide hs rfl rfl (by decide) (fun _ h => by cases h) (p_move rfl rfl) ?_
  clear hs a; intro a hs
  obtain ⟨t7, hv, h⟩ := h
  refine tI_eff free_wide hs rfl rfl (by decide) (fun _ h => by cases h) (e_load rfl rfl ct_33 hv) ?_
  clear hs a hv; intro a hs
  refine tI_pure free_wide hs rfl rfl (by decide) (fun _ h => by cases h) (p_len rfl rfl sl_33) ?_
  clear hs a; intro a hs
  refine tI_pure free_wide hs rfl rfl (by decide) (fun _ h => by cases h) (p_lt rfl rfl rfl) ?_
  clear hs a; intro a hs
  refine hK3 _ _ ?_
  refine cI_cond hs rfl (fun hb => ?_) (fun hb => ?_)
  · replace h := h.1 hb
    clear hb
    refine wpIn_skip ?_
    refine hK2 _ _ ?_
    refine wpIn_seq_k fun K4 hK4 => ?_
    refine wpIn_block ?_
    refine wpIn_seq_k fun K5 hK5 => ?_
    refine wpIn_wide.2 ?_
    replace hs := hs.nil
    obtain ⟨w1, hw1, h⟩ := h
    refine s_start mixed (by kernel_rfl) hw1 ?_
    clear hw1
    obtain ⟨t13, hv, h⟩ := h
    refine s_eff hs rfl rfl (by decide) (e_load rfl rfl ct_3 hv) ?_
    clear hs a hv; intro a hs
    obtain ⟨t14, hv, h⟩ := h
    refine s_eff hs rfl rfl (by decide) (e_load rfl rfl ct_33 hv) ?_
    clear hs a hv; intro a hs
    refine s_pure hs rfl rfl (by decide) (p_move rfl rfl) ?_
    clear hs a; intro a hs
    obtain ⟨t16, h0, h1, h2, h3, he, h⟩ := h
    refine s_pure hs rfl rfl (by decide) (Pure.sl he (p_slc rfl rfl sl_33 ⟨_, rfl⟩ rfl rfl (by decide) h0 h1 h2 h3)) ?_
    clear hs a h0 h1 h2 h3 he; intro a hs
    refine s_pure hs rfl rfl (by decide) (p_len rfl rfl sl_33) ?_
    clear hs a; intro a hs
    obtain ⟨t18, he, h⟩ := h
    refine s_pure hs rfl rfl (by decide) (Pure.int he (p_min _ rfl rfl rfl)) ?_
    clear hs a he; intro a hs
    refine s_pure hs rfl rfl (by decide) (p_assign rfl rfl) ?_
    clear hs a; intro a hs
    replace hs := hs.D
    refine hK5 _ _ ?_
    refine wpIn_seq_k fun K6 hK6 => ?_
    refine wpIn_region_lit ?_
    refine tI_pure free_wide hs rfl rfl (by decide) (fun _ h => by cases h) (p_move rfl rfl) ?_
    clear hs a; intro a hs
    obtain ⟨t20, hv, h⟩ := h
    refine tI_eff free_wide hs rfl rfl (by decide) (fun _ h => by cases h) (e_load rfl rfl ct_33 hv) ?_
    clear hs a hv; intro a hs
    refine tI_pure free_wide hs rfl rfl (by decide) (fun _ h => by cases h) (p_move rfl rfl) ?_
    clear hs a; intro a hs
    refine tI_pure free_wide hs rfl rfl (by decide) (fun _ h => by cases h) (p_move rfl rfl) ?_
    clear hs a; intro a hs
    refine tI_pure free_wide hs rfl rfl (by decide) (fun _ h => by cases h) (p_move rfl rfl) ?_
    clear hs a; intro a hs
    obtain ⟨t24, he, h⟩ := h
    refine tI_pure free_wide hs rfl rfl (by decide) (fun _ h => by cases h) (Pure.int he (p_add rfl rfl rfl)) ?_
    clear hs a he; intro a hs
    refine tI_pure free_wide hs rfl rfl (by decide) (fun _ h => by cases h) (p_move rfl rfl) ?_
    clear hs a; intro a hs
    refine tI_pure free_wide hs rfl rfl (by decide) (fun _ h => by cases h) (p_move rfl rfl) ?_
    clear hs a; intro a hs
    replace hs := hs.to (τ := [(0, yield0), (1, (.pointer (some t1))), (2, (.pointer (some t2))), (4, (.int .i64 i4_1)), (19, yield0), (20, (Sl.val t20)), (21, (.int .i64 i4_1)), (24, (.int .i64 t24)), (25, (.int .i64 i4_1)), (26, (.int .i64 t18))]) ⟨rfl, rfl, rfl, rfl, rfl, rfl, rfl, rfl, rfl, rfl, trivial⟩
    obtain ⟨t27, he, h⟩ := h
    refine tI_pure free_wide hs rfl rfl (by decide) (fun _ h => by cases h) (Pure.int he (p_add rfl rfl rfl)) ?_
    clear hs a he; intro a hs
    obtain ⟨t28, h0, h1, h2, h3, he, h⟩ := h
    refine tI_pure free_wide hs rfl rfl (by decide) (fun _ h => by cases h) (Pure.sl he (p_slc rfl rfl sl_33 ⟨_, rfl⟩ ⟨_, rfl⟩ ⟨_, rfl⟩ (by decide) h0 h1 h2 h3)) ?_
    clear hs a h0 h1 h2 h3 he; intro a hs
    obtain ⟨l1, hg, h⟩ := h
    refine tI_yield hs rfl rfl (by decide) (fun _ h => by cases h) (e_yield rfl (congrArg some hg) rfl) h ?_
    clear hs a h hg
    intro v a w hk hs
    obtain ⟨t29, rfl, h⟩ := hk
    refine tI_pure free_wide hs rfl rfl (by decide) (fun _ h => by cases h) (p_not rfl rfl) ?_
    clear hs a; intro a hs
    refine hK6 _ _ ?_
    refine cI_cond hs rfl (fun hb => ?_) (fun hb => ?_)
    · replace h := h.1 hb
      clear hb
      refine wpIn_ret ?_
      refine fI_ret (fn := Try.f99) hs (fun a hs => r_many hs (rs := []) (vs := []) rfl (by decide) trivial) ⟨rfl, h⟩
    · replace h := h.2 hb
      clear hb
      refine wpIn_skip ?_
      refine hK4 _ _ ?_
      refine wpIn_region_lit ?_
      refine tI_pure free_wide hs rfl rfl (by decide) (fun _ h => by cases h) (p_move rfl rfl) ?_
      clear hs a; intro a hs
      obtain ⟨t11, hv, h⟩ := h
      refine tI_eff free_wide hs rfl rfl (by decide) (fun _ h => by cases h) (e_load rfl rfl ct_3 hv) ?_
      clear hs a hv; intro a hs
      obtain ⟨t12, he, h⟩ := h
      refine tI_pure free_wide hs rfl rfl (by decide) (fun _ h => by cases h) (Pure.int he (p_add rfl rfl rfl)) ?_
      clear hs a he; intro a hs
      refine tI_pure free_wide hs rfl rfl (by decide) (fun _ h => by cases h) (p_assign rfl rfl) ?_
      clear hs a; intro a hs
      rw [← hX1] at h
      exact ⟨t12, hs.to ⟨rfl, rfl, rfl, rfl, trivial⟩, h⟩
  · replace h := h.2 hb
    clear hb
    refine wpIn_exit ?_
    refine fI_end (fn := Try.f99) hs (fun a hs => r_many hs (rs := []) (vs := []) rfl (by decide) trivial) ⟨rfl, h⟩
end Go.Proofs.Ytgnkminakongkaa
