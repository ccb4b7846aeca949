/- Plain forms of functions, and that their code comes to them (package lib_slices). -/
import Derived.Test.YtgnkminakongkaaCalls
import Derived.Test.YtgnkminakongkaaRounds
namespace Go.Proofs.Ytgnkminakongkaa
open Go Go.Sep
set_option linter.unusedVariables false
set_option linter.unusedSimpArgs false
set_option maxRecDepth 100000
set_option maxHeartbeats 4000000
def slices_Clone_s_byte_byte (s0 : Sl) (Q : Sl → K) : K :=
  Ite ((s0).a.isNone)
    (Q (Sl.mk none 0 0))
    (New 5 #[] fun t5 =>
    Do Try.prog (Builtin.append_ #[33, 33] 33 #[(Sl.val (Sl.mk (some t5) 0 0)), (Sl.val s0)]) Sl.val fun t7 =>
    Q t7)
theorem slices_Clone_s_byte_byte_ok (s0 : Sl) (Q : Sl → K) (w : World) (h : slices_Clone_s_byte_byte s0 Q w) : slices_Clone_s_byte_byte.call s0 Q w := by
  unfold slices_Clone_s_byte_byte.call CallF
  refine f_start (args := [(Sl.val s0)]) Try.func52 rfl (Nat.le_of_ble_eq_true rfl) ?_
  intro a hs
  unfold slices_Clone_s_byte_byte at h
  refine wp_seq_k fun K1 hK1 => ?_
  refine wp_region_lit ?_
  refine t_pure hs rfl rfl (by decide) (p_assign rfl rfl) ?_
  clear hs a
  intro a hs
  refine hK1 _ _ ?_
  refine wp_seq_k fun K2 hK2 => ?_
  refine wp_seq_k fun K3 hK3 => ?_
  refine wp_region_lit ?_
  refine t_pure hs rfl rfl (by decide) (p_move rfl rfl) ?_
  clear hs a
  intro a hs
  refine t_pure hs rfl rfl (by decide) (p_eq_sl rfl rfl rfl Try.underlying33) ?_
  clear hs a
  intro a hs
  refine hK3 _ _ ?_
  refine c_cond hs rfl (fun hb => ?_) (fun hb => ?_)
  · replace h := h.1 hb
    clear hb
    refine wp_seq_k fun K4 hK4 => ?_
    refine wp_region_lit ?_
    refine t_pure hs rfl rfl (by decide) (p_assign rfl rfl) ?_
    clear hs a
    intro a hs
    refine hK4 _ _ ?_
    refine wp_ret ?_
    refine f_ret (fn := Try.f52) hs (fun a hs => r_one hs rfl (rfl)) ⟨(Sl.mk none 0 0), rfl, h⟩
  · replace h := h.2 hb
    clear hb
    refine wp_skip ?_
    refine hK2 _ _ ?_
    refine wp_seq_k fun K5 hK5 => ?_
    refine wp_region_lit ?_
    obtain ⟨t5, w1, ha, hw, h⟩ := h
    refine t_eff hs rfl rfl (by decide) (e_buildSlice (z := #[]) (cs := #[]) rfl sl_33 zt_5 (by decide) rfl rz_5_0 (by rfl) ha hw) ?_
    clear hs a ha hw
    intro a hs
    refine t_pure hs rfl rfl (by decide) (p_move rfl rfl) ?_
    clear hs a
    intro a hs
    obtain ⟨t7, w1, hd, h⟩ := h
    refine t_eff hs rfl rfl (by decide) (e_append rfl rfl rfl rfl hd) ?_
    clear hs a hd
    intro a hs
    refine t_pure hs rfl rfl (by decide) (p_assign rfl rfl) ?_
    clear hs a
    intro a hs
    refine hK5 _ _ ?_
    refine wp_ret ?_
    refine f_ret (fn := Try.f52) hs (fun a hs => r_one hs rfl (rfl)) ⟨t7, rfl, h⟩
def slices_Sorted_string (seq0 : Value) (Q : Sl → K) : K :=
  slices_Collect_string.call seq0 fun t5 =>
  slices_Sort_s_string_string.call t5 <|
  Q t5
theorem slices_Sorted_string_ok (seq0 : Value) (Q : Sl → K) (w : World) (h : slices_Sorted_string seq0 Q w) : slices_Sorted_string.call seq0 Q w := by
  unfold slices_Sorted_string.call CallF
  refine f_start (args := [seq0]) Try.func53 rfl (Nat.le_of_ble_eq_true rfl) ?_
  intro a hs
  unfold slices_Sorted_string at h
  refine wp_seq_k fun K1 hK1 => ?_
  refine wp_region_lit ?_
  refine t_pure hs rfl rfl (by decide) (p_assign rfl rfl) ?_
  clear hs a
  intro a hs
  refine hK1 _ _ ?_
  refine wp_seq_k fun K2 hK2 => ?_
  refine wp_region_lit ?_
  refine t_pure hs rfl rfl (by decide) (p_move rfl rfl) ?_
  clear hs a
  intro a hs
  refine t_call hs rfl rfl (by decide) (e_call rfl rfl rfl cb_71) h ?_
  clear hs a h
  intro v a w hk hs
  obtain ⟨t5, rfl, h⟩ := hk
  refine t_pure hs rfl rfl (by decide) (p_assign rfl rfl) ?_
  clear hs a
  intro a hs
  refine hK2 _ _ ?_
  refine wp_seq_k fun K3 hK3 => ?_
  refine wp_region_lit ?_
  refine t_pure hs rfl rfl (by decide) (p_move rfl rfl) ?_
  clear hs a
  intro a hs
  refine t_call hs rfl rfl (by decide) (e_call rfl rfl rfl cb_72) h ?_
  clear hs a h
  intro v a w hk hs
  obtain ⟨rfl, h⟩ := hk
  refine hK3 _ _ ?_
  refine wp_seq_k fun K4 hK4 => ?_
  refine wp_region_lit ?_
  refine t_pure hs rfl rfl (by decide) (p_move rfl rfl) ?_
  clear hs a
  intro a hs
  refine t_pure hs rfl rfl (by decide) (p_assign rfl rfl) ?_
  clear hs a
  intro a hs
  refine hK4 _ _ ?_
  refine wp_ret ?_
  refine f_ret (fn := Try.f53) hs (fun a hs => r_one hs rfl (rfl)) ⟨t5, rfl, h⟩
def slices_Collect_string (seq0 : Value) (Q : Sl → K) : K :=
  slices_AppendSeq_s_string_string.call (Sl.mk none 0 0) seq0 fun t4 =>
  Q t4
theorem slices_Collect_string_ok (seq0 : Value) (Q : Sl → K) (w : World) (h : slices_Collect_string seq0 Q w) : slices_Collect_string.call seq0 Q w := by
  unfold slices_Collect_string.call CallF
  refine f_start (args := [seq0]) Try.func71 rfl (Nat.le_of_ble_eq_true rfl) ?_
  intro a hs
  unfold slices_Collect_string at h
  refine wp_seq_k fun K1 hK1 => ?_
  refine wp_region_lit ?_
  refine t_pure hs rfl rfl (by decide) (p_assign rfl rfl) ?_
  clear hs a
  intro a hs
  refine hK1 _ _ ?_
  refine wp_seq_k fun K2 hK2 => ?_
  refine wp_region_lit ?_
  refine t_pure hs rfl rfl (by decide) (p_move rfl rfl) ?_
  clear hs a
  intro a hs
  refine t_call hs rfl rfl (by decide) (e_call rfl rfl rfl cb_95) h ?_
  clear hs a h
  intro v a w hk hs
  obtain ⟨t4, rfl, h⟩ := hk
  refine t_pure hs rfl rfl (by decide) (p_assign rfl rfl) ?_
  clear hs a
  intro a hs
  refine hK2 _ _ ?_
  refine wp_ret ?_
  refine f_ret (fn := Try.f71) hs (fun a hs => r_one hs rfl (rfl)) ⟨t4, rfl, h⟩
def slices_Sort_s_string_string (x0 : Sl) (Q : K) : K :=
  Ar (IntKind.wrap .u64 (x0.n : Int)) fun t8 =>
  math_bits_Len.call t8 fun t9 =>
  slices_pdqsortOrdered_string.call x0 0 (x0.n : Int) t9 <|
  Q
theorem slices_Sort_s_string_string_ok (x0 : Sl) (Q : K) (w : World) (h : slices_Sort_s_string_string x0 Q w) : slices_Sort_s_string_string.call x0 Q w := by
  unfold slices_Sort_s_string_string.call CallF
  refine f_start (args := [(Sl.val x0)]) Try.func72 rfl (Nat.le_of_ble_eq_true rfl) ?_
  intro a hs
  unfold slices_Sort_s_string_string at h
  refine wp_seq_k fun K1 hK1 => ?_
  refine wp_region_lit ?_
  refine t_pure hs rfl rfl (by decide) (p_move rfl rfl) ?_
  clear hs a
  intro a hs
  refine t_pure hs rfl rfl (by decide) (p_len rfl rfl sl_59) ?_
  clear hs a
  intro a hs
  refine t_pure hs rfl rfl (by decide) (p_assign rfl rfl) ?_
  clear hs a
  intro a hs
  refine hK1 _ _ ?_
  refine wp_region_lit ?_
  refine t_pure hs rfl rfl (by decide) (p_move rfl rfl) ?_
  clear hs a
  intro a hs
  refine t_pure hs rfl rfl (by decide) (p_move rfl rfl) ?_
  clear hs a
  intro a hs
  refine t_pure hs rfl rfl (by decide) (p_move rfl rfl) ?_
  clear hs a
  intro a hs
  obtain ⟨t8, he, h⟩ := h
  refine t_pure hs rfl rfl (by decide) (Pure.int he (p_conv_int rfl rfl in_3 in_166)) ?_
  clear hs a he
  intro a hs
  refine t_call hs rfl rfl (by decide) (e_call rfl rfl rfl cb_97) h ?_
  clear hs a h
  intro v a w hk hs
  obtain ⟨t9, rfl, h⟩ := hk
  refine t_call hs rfl rfl (by decide) (e_call rfl rfl rfl cb_96) h ?_
  clear hs a h
  intro v a w hk hs
  obtain ⟨rfl, h⟩ := hk
  refine f_end (fn := Try.f72) hs (fun a hs => r_many hs (rs := []) (vs := []) rfl (by decide) trivial) ⟨rfl, h⟩
def slices_Chunk_s_byte_byte.s1 (Q : Value → K)  (s2_1 : Addr) (n3_1 : Addr) : K :=
  Q (.func (.func 99) #[] #[(.pointer (some s2_1)), (.pointer (some n3_1))])
def slices_Chunk_s_byte_byte (s0 : Sl) (n1 : Int) (Q : Value → K) : K :=
  New 33 #[(Sl.val s0)] fun s2 =>
  New 3 #[(.int .i64 n1)] fun n3 =>
  Ld n3 (Value.int .i64) fun t5 =>
  Ite (decide (t5 < 1))
    (Rd Try.prog (Instr.makeInterface 9 (.string ⟨#[99, 97, 110, 110, 111, 116, 32, 98, 101, 32, 108, 101, 115, 115, 32, 116, 104, 97, 110, 32, 49]⟩)) id fun t7 =>
    Dead)
    (slices_Chunk_s_byte_byte.s1 Q s2 n3)
theorem slices_Chunk_s_byte_byte_ok (s0 : Sl) (n1 : Int) (Q : Value → K) (w : World) (h : slices_Chunk_s_byte_byte s0 n1 Q w) : slices_Chunk_s_byte_byte.call s0 n1 Q w := by
  unfold slices_Chunk_s_byte_byte.call CallF
  refine f_start (args := [(Sl.val s0), (.int .i64 n1)]) Try.func82 rfl (Nat.le_of_ble_eq_true rfl) ?_
  intro a hs
  unfold slices_Chunk_s_byte_byte at h
  refine wp_seq_k fun K1 hK1 => ?_
  refine wp_region_lit ?_
  obtain ⟨s2, w1, ha, hw, h⟩ := h
  refine t_eff hs rfl rfl (by decide) (e_box rfl rfl rfl ha hw) ?_
  clear hs a ha hw
  intro a hs
  obtain ⟨n3, w1, ha, hw, h⟩ := h
  refine t_eff hs rfl rfl (by decide) (e_box rfl rfl rfl ha hw) ?_
  clear hs a ha hw
  intro a hs
  refine t_pure hs rfl rfl (by decide) (p_assign rfl rfl) ?_
  clear hs a
  intro a hs
  refine hK1 _ _ ?_
  refine wp_seq_k fun K2 hK2 => ?_
  have J1 : ∀ (a : Act) (w : World), Slots a 9 [(2, (.pointer (some s2))), (3, (.pointer (some n3)))] → slices_Chunk_s_byte_byte.s1 Q s2 n3 w → K2 a w := by
    clear h hs
    intro a w hs h
    refine hK2 _ _ ?_
    unfold slices_Chunk_s_byte_byte.s1 at h
    refine wp_seq_k fun K3 hK3 => ?_
    refine wp_region_lit ?_
    refine t_pure hs rfl rfl (by decide) (p_makeFunc rfl rfl rfl) ?_
    clear hs a
    intro a hs
    refine t_pure hs rfl rfl (by decide) (p_assign rfl rfl) ?_
    clear hs a
    intro a hs
    refine hK3 _ _ ?_
    refine wp_ret ?_
    refine f_ret (fn := Try.f82) hs (fun a hs => r_one hs rfl (rfl)) ⟨(.func (.func 99) #[] #[(.pointer (some s2)), (.pointer (some n3))]), rfl, h⟩
  clear hK2
  refine wp_seq_k fun K4 hK4 => ?_
  refine wp_region_lit ?_
  obtain ⟨t5, hv, h⟩ := h
  refine t_eff hs rfl rfl (by decide) (e_load rfl rfl ct_3 hv) ?_
  clear hs a hv
  intro a hs
  refine t_pure hs rfl rfl (by decide) (p_lt rfl rfl rfl) ?_
  clear hs a
  intro a hs
  refine hK4 _ _ ?_
  refine c_cond hs rfl (fun hb => ?_) (fun hb => ?_)
  · replace h := h.1 hb
    clear hb
    refine wp_region_lit ?_
    obtain ⟨t7, hd, h⟩ := h
    refine t_eff hs rfl rfl (by decide) (e_makeInterface rfl rfl hd) ?_
    clear hs a hd
    intro a hs
    exact h.elim
  · replace h := h.2 hb
    clear hb
    refine wp_skip ?_
    exact J1 _ _ (hs.to ⟨rfl, rfl, trivial⟩) h
def slices_Equal_s_byte_byte.b1 (Q : Bool → K)  (X1 : Int → K) (s0_1 : Sl) (s1_1 : Sl) (t12_1 : Int) (t13_1 : Int) : K :=
  Ite (decide (t13_1 < t12_1))
    (Dr <|
    Idx s0_1 t13_1 1 fun t18 =>
    Ld t18 (Value.int .u8) fun t19 =>
    Idx s1_1 t13_1 1 fun t22 =>
    Ld t22 (Value.int .u8) fun t23 =>
    Ite (decide (t19 ≠ t23))
      (Q false)
      (Ar (IntKind.wrap .i64 (t13_1 + 1)) fun t25 =>
      X1 t25))
    (Q true)
def slices_Equal_s_byte_byte (s0 : Sl) (s1 : Sl) (Q : Bool → K) : K :=
  Ite (decide ((s0.n : Int) ≠ (s1.n : Int)))
    (Q false)
    (LoopK (α := Int) (fun X x => slices_Equal_s_byte_byte.b1 Q X s0 s1 (s0.n : Int) x) 0)
theorem slices_Equal_s_byte_byte_ok (s0 : Sl) (s1 : Sl) (Q : Bool → K) (w : World) (h : slices_Equal_s_byte_byte s0 s1 Q w) : slices_Equal_s_byte_byte.call s0 s1 Q w := by
  unfold slices_Equal_s_byte_byte.call CallF
  refine f_start (args := [(Sl.val s0), (Sl.val s1)]) Try.func84 rfl (Nat.le_of_ble_eq_true rfl) ?_
  intro a hs
  unfold slices_Equal_s_byte_byte at h
  refine wp_seq_k fun K1 hK1 => ?_
  refine wp_region_lit ?_
  refine t_pure hs rfl rfl (by decide) (p_assign rfl rfl) ?_
  clear hs a
  intro a hs
  refine hK1 _ _ ?_
  refine wp_seq_k fun K2 hK2 => ?_
  refine wp_seq_k fun K3 hK3 => ?_
  refine wp_region_lit ?_
  refine t_pure hs rfl rfl (by decide) (p_move rfl rfl) ?_
  clear hs a
  intro a hs
  refine t_pure hs rfl rfl (by decide) (p_len rfl rfl sl_33) ?_
  clear hs a
  intro a hs
  refine t_pure hs rfl rfl (by decide) (p_move rfl rfl) ?_
  clear hs a
  intro a hs
  refine t_pure hs rfl rfl (by decide) (p_len rfl rfl sl_33) ?_
  clear hs a
  intro a hs
  refine t_pure hs rfl rfl (by decide) (p_ne rfl rfl rfl) ?_
  clear hs a
  intro a hs
  refine hK3 _ _ ?_
  refine c_cond hs rfl (fun hb => ?_) (fun hb => ?_)
  · replace h := h.1 hb
    clear hb
    refine wp_seq_k fun K4 hK4 => ?_
    refine wp_region_lit ?_
    refine t_pure hs rfl rfl (by decide) (p_assign rfl rfl) ?_
    clear hs a
    intro a hs
    refine hK4 _ _ ?_
    refine wp_ret ?_
    refine f_ret (fn := Try.f84) hs (fun a hs => r_one hs rfl (rfl)) ⟨false, rfl, h⟩
  · replace h := h.2 hb
    clear hb
    refine wp_skip ?_
    refine hK2 _ _ ?_
    refine wp_seq_k fun K5 hK5 => ?_
    refine wp_seq_k fun K6 hK6 => ?_
    refine wp_region_lit ?_
    refine t_pure hs rfl rfl (by decide) (p_move rfl rfl) ?_
    clear hs a
    intro a hs
    refine t_pure hs rfl rfl (by decide) (p_len rfl rfl sl_33) ?_
    clear hs a
    intro a hs
    refine t_pure hs rfl rfl (by decide) (p_move rfl rfl) ?_
    clear hs a
    intro a hs
    refine hK6 _ _ ?_
    refine wp_block ?_
    obtain ⟨I1, μ1, h0, hr⟩ := h
    refine c_loop (α := Int) I1 μ1 (fun x a => Slots a 26 [(0, (Sl.val s0)), (1, (Sl.val s1)), (12, (.int .i64 (s0.n : Int))), (13, (.int .i64 x))]) 0 h0 (hs.to ⟨rfl, rfl, rfl, rfl, trivial⟩) ?_
    clear h0 hs a
    intro t13_1 a w hI hs
    have h : slices_Equal_s_byte_byte.b1 Q (fun t13_1n w' => I1 t13_1n w' ∧ μ1 t13_1n w' < μ1 t13_1 w) s0 s1 (s0.n : Int) t13_1 w := hr t13_1 w hI
    clear hr hI
    generalize hX1 : (fun t13_1n w' => I1 t13_1n w' ∧ μ1 t13_1n w' < μ1 t13_1 w) = X1 at h
    unfold slices_Equal_s_byte_byte.b1 at h
    replace hs : Slots a 26 [(0, (Sl.val s0)), (1, (Sl.val s1)), (12, (.int .i64 (s0.n : Int))), (13, (.int .i64 t13_1))] := hs
    refine wp_seq_k fun K7 hK7 => ?_
    refine wp_region_lit ?_
    refine t_pure hs rfl rfl (by decide) (p_lt rfl rfl rfl) ?_
    clear hs a
    intro a hs
    refine hK7 _ _ ?_
    refine wp_seq_k fun K8 hK8 => ?_
    refine c_cond hs rfl (fun hb => ?_) (fun hb => ?_)
    · replace h := h.1 hb
      clear hb
      refine wp_skip ?_
      refine hK8 _ _ ?_
      refine wp_seq_k fun K9 hK9 => ?_
      refine wp_block ?_
      refine wp_seq_k fun K10 hK10 => ?_
      refine wp_region_lit ?_
      refine t_pure hs rfl rfl (by decide) (p_move rfl rfl) ?_
      clear hs a
      intro a hs
      refine t_pure hs rfl rfl (by decide) (p_assign rfl rfl) ?_
      clear hs a
      intro a hs
      refine hK10 _ _ ?_
      refine wp_seq_k fun K11 hK11 => ?_
      obtain ⟨w1, hw1, h⟩ := h
      refine s_start mixed (by kernel_rfl) hw1 ?_
      clear hw1
      refine s_pure hs rfl rfl (by decide) (p_move rfl rfl) ?_
      clear hs a
      intro a hs
      refine s_pure hs rfl rfl (by decide) (p_move rfl rfl) ?_
      clear hs a
      intro a hs
      obtain ⟨qt18, t18, ha, h0, h1, he, h⟩ := h
      refine s_pure hs rfl rfl (by decide) (Pure.adr he (p_idx rfl rfl rfl sl_33 ha h0 h1)) ?_
      clear hs a ha h0 h1 he
      intro a hs
      obtain ⟨t19, hv, h⟩ := h
      refine s_eff hs rfl rfl (by decide) (e_load rfl rfl ct_5 hv) ?_
      clear hs a hv
      intro a hs
      refine s_pure hs rfl rfl (by decide) (p_move rfl rfl) ?_
      clear hs a
      intro a hs
      refine s_pure hs rfl rfl (by decide) (p_move rfl rfl) ?_
      clear hs a
      intro a hs
      obtain ⟨qt22, t22, ha, h0, h1, he, h⟩ := h
      refine s_pure hs rfl rfl (by decide) (Pure.adr he (p_idx rfl rfl rfl sl_33 ha h0 h1)) ?_
      clear hs a ha h0 h1 he
      intro a hs
      obtain ⟨t23, hv, h⟩ := h
      refine s_eff hs rfl rfl (by decide) (e_load rfl rfl ct_5 hv) ?_
      clear hs a hv
      intro a hs
      replace hs := hs.to (τ := [(0, (Sl.val s0)), (1, (Sl.val s1)), (12, (.int .i64 (s0.n : Int))), (13, (.int .i64 t13_1)), (19, (.int .u8 t19)), (23, (.int .u8 t23))]) ⟨rfl, rfl, rfl, rfl, rfl, rfl, trivial⟩
      refine s_pure hs rfl rfl (by decide) (p_ne rfl rfl rfl) ?_
      clear hs a
      intro a hs
      refine hK11 _ _ ?_
      refine c_cond hs rfl (fun hb => ?_) (fun hb => ?_)
      · replace h := h.1 hb
        clear hb
        refine wp_seq_k fun K12 hK12 => ?_
        refine wp_region_lit ?_
        refine t_pure hs rfl rfl (by decide) (p_assign rfl rfl) ?_
        clear hs a
        intro a hs
        refine hK12 _ _ ?_
        refine wp_ret ?_
        refine f_ret (fn := Try.f84) hs (fun a hs => r_one hs rfl (rfl)) ⟨false, rfl, h⟩
      · replace h := h.2 hb
        clear hb
        refine wp_skip ?_
        refine hK9 _ _ ?_
        refine wp_region_lit ?_
        obtain ⟨t25, he, h⟩ := h
        refine t_pure hs rfl rfl (by decide) (Pure.int he (p_add rfl rfl rfl)) ?_
        clear hs a he
        intro a hs
        refine t_pure hs rfl rfl (by decide) (p_move rfl rfl) ?_
        clear hs a
        intro a hs
        rw [← hX1] at h
        exact ⟨t25, hs.to ⟨rfl, rfl, rfl, rfl, trivial⟩, h⟩
    · replace h := h.2 hb
      clear hb
      refine wp_exit ?_
      refine hK5 _ _ ?_
      refine wp_seq_k fun K13 hK13 => ?_
      refine wp_region_lit ?_
      refine t_pure hs rfl rfl (by decide) (p_assign rfl rfl) ?_
      clear hs a
      intro a hs
      refine hK13 _ _ ?_
      refine wp_ret ?_
      refine f_ret (fn := Try.f84) hs (fun a hs => r_one hs rfl (rfl)) ⟨true, rfl, h⟩
def slices_BinarySearchFunc_s_btree_item_string_api_Record_btree_item_string_api_Record_string.s2 (Q : Int → Bool → K) (X1 : Int → Int → K) (t6_2 : Int) (t7_2 : Bool) : K :=
  Q t6_2 t7_2
def slices_BinarySearchFunc_s_btree_item_string_api_Record_btree_item_string_api_Record_string.b1 (Q : Int → Bool → K)  (X1 : Int → Int → K) (x0_1 : Sl) (target1_1 : ByteArray) (cmp2_1 : Value) (n8_1 : Int) (i9_1 : Int) (j10_1 : Int) : K :=
  Ite (decide (i9_1 < j10_1))
    (Ar (IntKind.wrap .i64 (i9_1 + j10_1)) fun t20 =>
    Ar (IntKind.wrap .u64 t20) fun t21 =>
    Cd (0 ≤ (1 : Int)) <|
    Ar (shrOf .u64 t21 1) fun t22 =>
    Ar (IntKind.wrap .i64 t22) fun t23 =>
    Idx x0_1 t23 5 fun t27 =>
    LdN t27 5 fun t28 =>
    CallV Try.prog cmp2_1 [(.agg t28), (.string target1_1)] <| Ans1 (fun (t30 : Int) => (Value.int .i64) t30) fun t30 =>
    Ite (decide (t30 < 0))
      (Ar (IntKind.wrap .i64 (t23 + 1)) fun t33 =>
      X1 t33 j10_1)
      (X1 i9_1 t23))
    (Ite (decide (i9_1 < n8_1))
      (Idx x0_1 i9_1 5 fun t43 =>
      LdN t43 5 fun t44 =>
      CallV Try.prog cmp2_1 [(.agg t44), (.string target1_1)] <| Ans1 (fun (t46 : Int) => (Value.int .i64) t46) fun t46 =>
      slices_BinarySearchFunc_s_btree_item_string_api_Record_btree_item_string_api_Record_string.s2 Q X1 i9_1 (decide (t46 = 0)))
      (slices_BinarySearchFunc_s_btree_item_string_api_Record_btree_item_string_api_Record_string.s2 Q X1 i9_1 false))
def slices_BinarySearchFunc_s_btree_item_string_api_Record_btree_item_string_api_Record_string (x0 : Sl) (target1 : ByteArray) (cmp2 : Value) (Q : Int → Bool → K) : K :=
  LoopK (α := Int × Int) (fun X x => slices_BinarySearchFunc_s_btree_item_string_api_Record_btree_item_string_api_Record_string.b1 Q (fun i9_1 j10_1 => X (i9_1, j10_1)) x0 target1 cmp2 (x0.n : Int) x.1 x.2) (0, (x0.n : Int))
theorem slices_BinarySearchFunc_s_btree_item_string_api_Record_btree_item_string_api_Record_string_ok (x0 : Sl) (target1 : ByteArray) (cmp2 : Value) (Q : Int → Bool → K) (w : World) (h : slices_BinarySearchFunc_s_btree_item_string_api_Record_btree_item_string_api_Record_string x0 target1 cmp2 Q w) : slices_BinarySearchFunc_s_btree_item_string_api_Record_btree_item_string_api_Record_string.call x0 target1 cmp2 Q w := by
  unfold slices_BinarySearchFunc_s_btree_item_string_api_Record_btree_item_string_api_Record_string.call CallF
  refine f_start (args := [(Sl.val x0), (.string target1), cmp2]) Try.func90 rfl (Nat.le_of_ble_eq_true rfl) ?_
  intro a hs
  unfold slices_BinarySearchFunc_s_btree_item_string_api_Record_btree_item_string_api_Record_string at h
  refine wp_seq_k fun K1 hK1 => ?_
  refine wp_region_lit ?_
  refine t_pure hs rfl rfl (by decide) (p_assign rfl rfl) ?_
  clear hs a
  intro a hs
  refine t_pure hs rfl rfl (by decide) (p_assign rfl rfl) ?_
  clear hs a
  intro a hs
  refine hK1 _ _ ?_
  refine wp_seq_k fun K2 hK2 => ?_
  refine wp_region_lit ?_
  refine t_pure hs rfl rfl (by decide) (p_move rfl rfl) ?_
  clear hs a
  intro a hs
  refine t_pure hs rfl rfl (by decide) (p_len rfl rfl sl_124) ?_
  clear hs a
  intro a hs
  refine t_pure hs rfl rfl (by decide) (p_assign rfl rfl) ?_
  clear hs a
  intro a hs
  refine hK2 _ _ ?_
  refine wp_seq_k fun K3 hK3 => ?_
  refine wp_region_lit ?_
  refine t_pure hs rfl rfl (by decide) (p_move rfl rfl) ?_
  clear hs a
  intro a hs
  refine t_pure hs rfl rfl (by decide) (p_assign rfl rfl) ?_
  clear hs a
  intro a hs
  refine t_pure hs rfl rfl (by decide) (p_assign rfl rfl) ?_
  clear hs a
  intro a hs
  refine hK3 _ _ ?_
  refine wp_seq_k fun K4 hK4 => ?_
  refine wp_block ?_
  obtain ⟨I1, μ1, h0, hr⟩ := h
  refine c_loop (α := Int × Int) I1 μ1 (fun x a => Slots a 49 [(0, (Sl.val x0)), (1, (.string target1)), (2, cmp2), (8, (.int .i64 (x0.n : Int))), (9, (.int .i64 x.1)), (10, (.int .i64 x.2))]) (0, (x0.n : Int)) h0 (hs.to ⟨rfl, rfl, rfl, rfl, rfl, rfl, trivial⟩) ?_
  clear h0 hs a
  rintro ⟨i9_1, j10_1⟩ a w hI hs
  have h : slices_BinarySearchFunc_s_btree_item_string_api_Record_btree_item_string_api_Record_string.b1 Q (fun i9_1n j10_1n w' => I1 (i9_1n, j10_1n) w' ∧ μ1 (i9_1n, j10_1n) w' < μ1 (i9_1, j10_1) w) x0 target1 cmp2 (x0.n : Int) i9_1 j10_1 w := hr (i9_1, j10_1) w hI
  clear hr hI
  generalize hX1 : (fun i9_1n j10_1n w' => I1 (i9_1n, j10_1n) w' ∧ μ1 (i9_1n, j10_1n) w' < μ1 (i9_1, j10_1) w) = X1 at h
  unfold slices_BinarySearchFunc_s_btree_item_string_api_Record_btree_item_string_api_Record_string.b1 at h
  replace hs : Slots a 49 [(0, (Sl.val x0)), (1, (.string target1)), (2, cmp2), (8, (.int .i64 (x0.n : Int))), (9, (.int .i64 i9_1)), (10, (.int .i64 j10_1))] := hs
  refine wp_seq_k fun K5 hK5 => ?_
  refine wp_seq_k fun K6 hK6 => ?_
  refine wp_region_lit ?_
  refine t_pure hs rfl rfl (by decide) (p_move rfl rfl) ?_
  clear hs a
  intro a hs
  refine t_pure hs rfl rfl (by decide) (p_move rfl rfl) ?_
  clear hs a
  intro a hs
  refine t_pure hs rfl rfl (by decide) (p_lt rfl rfl rfl) ?_
  clear hs a
  intro a hs
  refine hK6 _ _ ?_
  refine c_cond hs rfl (fun hb => ?_) (fun hb => ?_)
  · replace h := h.1 hb
    clear hb
    refine wp_skip ?_
    refine hK5 _ _ ?_
    refine wp_block ?_
    refine wp_seq_k fun K7 hK7 => ?_
    refine wp_region_lit ?_
    refine t_pure hs rfl rfl (by decide) (p_move rfl rfl) ?_
    clear hs a
    intro a hs
    refine t_pure hs rfl rfl (by decide) (p_move rfl rfl) ?_
    clear hs a
    intro a hs
    obtain ⟨t20, he, h⟩ := h
    refine t_pure hs rfl rfl (by decide) (Pure.int he (p_add rfl rfl rfl)) ?_
    clear hs a he
    intro a hs
    obtain ⟨t21, he, h⟩ := h
    refine t_pure hs rfl rfl (by decide) (Pure.int he (p_conv_int rfl rfl in_3 in_166)) ?_
    clear hs a he
    intro a hs
    obtain ⟨h0, t22, he, h⟩ := h
    refine t_pure hs rfl rfl (by decide) (Pure.int he (p_shr rfl rfl rfl h0)) ?_
    clear hs a h0 he
    intro a hs
    obtain ⟨t23, he, h⟩ := h
    refine t_pure hs rfl rfl (by decide) (Pure.int he (p_conv_int rfl rfl in_166 in_3)) ?_
    clear hs a he
    intro a hs
    refine t_pure hs rfl rfl (by decide) (p_assign rfl rfl) ?_
    clear hs a
    intro a hs
    refine hK7 _ _ ?_
    refine wp_seq_k fun K8 hK8 => ?_
    refine wp_region_lit ?_
    refine t_pure hs rfl rfl (by decide) (p_move rfl rfl) ?_
    clear hs a
    intro a hs
    refine t_pure hs rfl rfl (by decide) (p_move rfl rfl) ?_
    clear hs a
    intro a hs
    refine t_pure hs rfl rfl (by decide) (p_move rfl rfl) ?_
    clear hs a
    intro a hs
    obtain ⟨qt27, t27, ha, h0, h1, he, h⟩ := h
    refine t_pure hs rfl rfl (by decide) (Pure.adr he (p_idx rfl rfl rfl sl_124 ha h0 h1)) ?_
    clear hs a ha h0 h1 he
    intro a hs
    obtain ⟨t28, hn, hv, h⟩ := h
    refine t_eff hs rfl rfl (by decide) (e_loadN rfl rfl at_133 hn hv) ?_
    clear hs a hn hv
    intro a hs
    refine t_pure hs rfl rfl (by decide) (p_move rfl rfl) ?_
    clear hs a
    intro a hs
    obtain ⟨g1, fs1, cs1, hg, hcb, h⟩ := h
    refine t_call hs rfl rfl (by decide) (e_callv rfl (congrArg some hg) rfl hcb) h ?_
    clear hs a h hg hcb
    intro v a w hk hs
    obtain ⟨t30, rfl, h⟩ := hk
    refine t_pure hs rfl rfl (by decide) (p_lt rfl rfl rfl) ?_
    clear hs a
    intro a hs
    refine hK8 _ _ ?_
    refine c_cond hs rfl (fun hb => ?_) (fun hb => ?_)
    · replace h := h.1 hb
      clear hb
      refine wp_region_lit ?_
      refine t_pure hs rfl rfl (by decide) (p_move rfl rfl) ?_
      clear hs a
      intro a hs
      obtain ⟨t33, he, h⟩ := h
      refine t_pure hs rfl rfl (by decide) (Pure.int he (p_add rfl rfl rfl)) ?_
      clear hs a he
      intro a hs
      refine t_pure hs rfl rfl (by decide) (p_assign rfl rfl) ?_
      clear hs a
      intro a hs
      rw [← hX1] at h
      exact ⟨(t33, j10_1), hs.to ⟨rfl, rfl, rfl, rfl, rfl, rfl, trivial⟩, h⟩
    · replace h := h.2 hb
      clear hb
      refine wp_region_lit ?_
      refine t_pure hs rfl rfl (by decide) (p_move rfl rfl) ?_
      clear hs a
      intro a hs
      refine t_pure hs rfl rfl (by decide) (p_assign rfl rfl) ?_
      clear hs a
      intro a hs
      rw [← hX1] at h
      exact ⟨(i9_1, t23), hs.to ⟨rfl, rfl, rfl, rfl, rfl, rfl, trivial⟩, h⟩
  · replace h := h.2 hb
    clear hb
    refine wp_exit ?_
    refine hK4 _ _ ?_
    refine wp_seq_k fun K9 hK9 => ?_
    have J2 : ∀ (t6_2 : Int) (t7_2 : Bool) (a : Act) (w : World), Slots a 49 [(6, (.int .i64 t6_2)), (7, (.bool t7_2))] → slices_BinarySearchFunc_s_btree_item_string_api_Record_btree_item_string_api_Record_string.s2 Q X1 t6_2 t7_2 w → K9 a w := by
      clear h hs
      intro t6_2 t7_2 a w hs h
      refine hK9 _ _ ?_
      unfold slices_BinarySearchFunc_s_btree_item_string_api_Record_btree_item_string_api_Record_string.s2 at h
      refine wp_ret ?_
      refine f_ret (fn := Try.f90) hs (fun a hs => r_many hs (rs := [ResultVar.tmp 6, ResultVar.tmp 7]) (vs := [(.int .i64 t6_2), (.bool t7_2)]) rfl (by decide) ⟨rfl, rfl, trivial⟩) ⟨t6_2, t7_2, rfl, h⟩
    clear hK9
    refine wp_region_lit ?_
    refine t_pure hs rfl rfl (by decide) (p_move rfl rfl) ?_
    clear hs a
    intro a hs
    refine t_pure hs rfl rfl (by decide) (p_move rfl rfl) ?_
    clear hs a
    intro a hs
    refine t_pure hs rfl rfl (by decide) (p_move rfl rfl) ?_
    clear hs a
    intro a hs
    refine t_pure hs rfl rfl (by decide) (p_lt rfl rfl rfl) ?_
    clear hs a
    intro a hs
    refine t_pure hs rfl rfl (by decide) (p_move rfl rfl) ?_
    clear hs a
    intro a hs
    refine split_bool (decide (i9_1 < (x0.n : Int))) (fun hb => ?_) (fun hb => ?_)
    · replace h := h.1 hb
      rw [hb] at hs
      clear hb
      refine t_yes hs rfl ?_
      refine t_pure hs rfl rfl (by decide) (p_move rfl rfl) ?_
      clear hs a
      intro a hs
      refine t_yes hs rfl ?_
      refine t_pure hs rfl rfl (by decide) (p_move rfl rfl) ?_
      clear hs a
      intro a hs
      refine t_yes hs rfl ?_
      refine t_pure hs rfl rfl (by decide) (p_move rfl rfl) ?_
      clear hs a
      intro a hs
      replace hs := hs.to (τ := [(1, (.string target1)), (35, (.int .i64 i9_1)), (39, (.bool true)), (40, cmp2), (41, (Sl.val x0)), (42, (.int .i64 i9_1))]) ⟨rfl, rfl, rfl, rfl, rfl, rfl, trivial⟩
      refine t_yes hs rfl ?_
      obtain ⟨qt43, t43, ha, h0, h1, he, h⟩ := h
      refine t_pure hs rfl rfl (by decide) (Pure.adr he (p_idx rfl rfl rfl sl_124 ha h0 h1)) ?_
      clear hs a ha h0 h1 he
      intro a hs
      refine t_yes hs rfl ?_
      obtain ⟨t44, hn, hv, h⟩ := h
      refine t_eff hs rfl rfl (by decide) (e_loadN rfl rfl at_133 hn hv) ?_
      clear hs a hn hv
      intro a hs
      refine t_yes hs rfl ?_
      refine t_pure hs rfl rfl (by decide) (p_move rfl rfl) ?_
      clear hs a
      intro a hs
      refine t_yes hs rfl ?_
      obtain ⟨g1, fs1, cs1, hg, hcb, h⟩ := h
      refine t_call hs rfl rfl (by decide) (e_callv rfl (congrArg some hg) rfl hcb) h ?_
      clear hs a h hg hcb
      intro v a w hk hs
      obtain ⟨t46, rfl, h⟩ := hk
      refine t_yes hs rfl ?_
      refine t_pure hs rfl rfl (by decide) (p_eq rfl rfl rfl) ?_
      clear hs a
      intro a hs
      refine t_pure hs rfl rfl (by decide) (p_pick_t rfl rfl rfl) ?_
      clear hs a
      intro a hs
      refine t_pure hs rfl rfl (by decide) (p_assign rfl rfl) ?_
      clear hs a
      intro a hs
      refine t_pure hs rfl rfl (by decide) (p_assign rfl rfl) ?_
      clear hs a
      intro a hs
      exact J2 i9_1 (decide (t46 = 0)) _ _ (hs.to ⟨rfl, rfl, trivial⟩) h
    · replace h := h.2 hb
      rw [hb] at hs
      clear hb
      refine t_no hs rfl rfl (by decide) ?_
      clear hs a
      intro a hs
      refine t_no hs rfl rfl (by decide) ?_
      clear hs a
      intro a hs
      refine t_no hs rfl rfl (by decide) ?_
      clear hs a
      intro a hs
      replace hs := hs.to (τ := [(1, (.string target1)), (35, (.int .i64 i9_1)), (39, (.bool false)), (40, undef), (41, undef), (42, undef)]) ⟨rfl, rfl, rfl, rfl, rfl, rfl, trivial⟩
      refine t_no hs rfl rfl (by decide) ?_
      clear hs a
      intro a hs
      refine t_no hs rfl rfl (by decide) ?_
      clear hs a
      intro a hs
      refine t_no hs rfl rfl (by decide) ?_
      clear hs a
      intro a hs
      refine t_no hs rfl rfl (by decide) ?_
      clear hs a
      intro a hs
      refine t_no hs rfl rfl (by decide) ?_
      clear hs a
      intro a hs
      refine t_pure hs rfl rfl (by decide) (p_pick_f rfl rfl rfl) ?_
      clear hs a
      intro a hs
      refine t_pure hs rfl rfl (by decide) (p_assign rfl rfl) ?_
      clear hs a
      intro a hs
      refine t_pure hs rfl rfl (by decide) (p_assign rfl rfl) ?_
      clear hs a
      intro a hs
      exact J2 i9_1 false _ _ (hs.to ⟨rfl, rfl, trivial⟩) h
def slices_AppendSeq_s_string_string (s0 : Sl) (seq1 : Value) (Q : Sl → K) : K :=
  New 59 #[(Sl.val s0)] fun s2 =>
  RangeF Try.prog seq1 Value.string (fun KN1 x7 =>
    Ld s2 Sl.val fun t8 =>
    New 9 #[(.string x7)] fun t10 =>
    Do Try.prog (Builtin.append_ #[59, 59] 59 #[(Sl.val t8), (Sl.val (Sl.mk (some t10) 1 1))]) Sl.val fun t11 =>
    St s2 (Sl.val t11) <|
    KN1)
  fun D1 =>
  Ld s2 Sl.val fun t12 =>
  TakeD D1 <|
  Q t12
theorem slices_AppendSeq_s_string_string_ok (s0 : Sl) (seq1 : Value) (Q : Sl → K) (w : World) (h : slices_AppendSeq_s_string_string s0 seq1 Q w) : slices_AppendSeq_s_string_string.call s0 seq1 Q w := by
  unfold slices_AppendSeq_s_string_string.call CallF
  refine fI_start (args := [(Sl.val s0), seq1]) Try.func95 rfl (Nat.le_of_ble_eq_true rfl) ?_
  intro a hs
  unfold slices_AppendSeq_s_string_string at h
  refine wpIn_seq_k fun K1 hK1 => ?_
  refine wpIn_region_lit ?_
  obtain ⟨s2, w1, ha, hw, h⟩ := h
  refine tI_eff free_wide hs rfl rfl (by decide) (fun _ h => by cases h) (e_box rfl rfl rfl ha hw) ?_
  clear hs a ha hw
  intro a hs
  refine tI_pure free_wide hs rfl rfl (by decide) (fun _ h => by cases h) (p_assign rfl rfl) ?_
  clear hs a
  intro a hs
  refine hK1 _ _ ?_
  refine wpIn_seq_k fun K2 hK2 => ?_
  refine wpIn_seq_k fun K3 hK3 => ?_
  refine wpIn_region_lit ?_
  refine tI_pure free_wide hs rfl rfl (by decide) (fun _ h => by cases h) (p_move rfl rfl) ?_
  clear hs a
  intro a hs
  refine hK3 _ _ ?_
  refine wpIn_block ?_
  refine c_range (σ2 := fun x7 => [(2, (.pointer (some s2))), (5, (.string x7))]) hs rfl (by decide) h ?_ ?_ ?_
  · clear hs h a
    intro l1 x7 k a w hs hk
    replace hs := hs.to (τ := [(2, (.pointer (some s2))), (7, (.string x7))]) ⟨rfl, rfl, trivial⟩
    refine wpIn_region_lit ?_
    refine tI_pure (free_wide.round l1) hs rfl rfl (by decide) (fun _ h => by cases h) (p_assign rfl rfl) ?_
    clear hs a
    intro a hs
    exact hk _ (hs.to ⟨rfl, rfl, trivial⟩)
  · clear hs h a
    intro l1 x7 KN1 a w hs h
    refine wpIn_block ?_
    refine wpIn_region_lit ?_
    obtain ⟨t8, hv, h⟩ := h
    refine tI_eff (free_wide.round l1) hs rfl rfl (by decide) (fun _ h => by cases h) (e_load rfl rfl ct_59 hv) ?_
    clear hs a hv
    intro a hs
    refine tI_pure (free_wide.round l1) hs rfl rfl (by decide) (fun _ h => by cases h) (p_move rfl rfl) ?_
    clear hs a
    intro a hs
    obtain ⟨t10, w1, ha, hw, h⟩ := h
    refine tI_eff (free_wide.round l1) hs rfl rfl (by decide) (fun _ h => by cases h) (e_buildSlice (z := #[(.string ⟨#[]⟩)]) (cs := #[(.string x7)]) rfl sl_59 zt_9 (by decide) rfl rz_9_1 (by rfl) ha hw) ?_
    clear hs a ha hw
    intro a hs
    obtain ⟨t11, w1, hd, h⟩ := h
    refine tI_eff (free_wide.round l1) hs rfl rfl (by decide) (fun _ h => by cases h) (e_append rfl rfl rfl rfl hd) ?_
    clear hs a hd
    intro a hs
    obtain ⟨w1, hw, hc, hf, hv, h⟩ := h
    refine tI_skip (free_wide.round l1) hs rfl rfl (fun _ h => by cases h) (e_store rfl rfl rfl sz_59 hw hc hf hv) ?_
    clear hs a hw hc hf hv
    intro a hs
    exact h
  · clear h hs a
    intro D1 a w hs h
    replace hs := hs.to (τ := [(2, (.pointer (some s2)))]) ⟨rfl, trivial⟩
    refine hK2 _ _ ?_
    refine wpIn_seq_k fun K4 hK4 => ?_
    refine wpIn_region_lit ?_
    obtain ⟨t12, hv, h⟩ := h
    refine tI_eff free_wide hs rfl rfl (by decide) (fun _ h => by cases h) (e_load rfl rfl ct_59 hv) ?_
    clear hs a hv
    intro a hs
    refine tI_pure free_wide hs rfl rfl (by decide) (fun _ h => by cases h) (p_assign rfl rfl) ?_
    clear hs a
    intro a hs
    refine hK4 _ _ ?_
    refine wpIn_ret ?_
    refine fI_retM (fn := Try.f95) hs (fun a w hs => r_one hs rfl (rfl)) ⟨h.1, t12, rfl, h.2⟩
def slices_pdqsortOrdered_string.s5 (Q : K) (X1 : Int → Int → Int → Bool → Bool → K) (data0_5 : Sl) (a1_5 : Int) (b2_5 : Int) (limit3_5 : Int) (wasBalanced8_5 : Bool) (wasPartitioned9_5 : Bool) (length10_5 : Int) (pivot11_5 : Int) (t87_5 : Bool) : K :=
  Ite t87_5
    (slices_partitionEqualOrdered_string.call data0_5 a1_5 b2_5 pivot11_5 fun t92 =>
    X1 t92 b2_5 limit3_5 wasBalanced8_5 wasPartitioned9_5)
    (slices_partitionOrdered_string.call data0_5 a1_5 b2_5 pivot11_5 fun t99x0 t99x1 =>
    Ar (IntKind.wrap .i64 (t99x0 - a1_5)) fun t105 =>
    Ar (IntKind.wrap .i64 (b2_5 - t99x0)) fun t108 =>
    Cd ((8 : Int) ≠ 0) <|
    Ar (IntKind.wrap .i64 (Int.tdiv length10_5 8)) fun t110 =>
    Ite (decide (t105 < t108))
      (slices_pdqsortOrdered_string.call data0_5 a1_5 t99x0 limit3_5 <|
      Ar (IntKind.wrap .i64 (t99x0 + 1)) fun t123 =>
      X1 t123 b2_5 limit3_5 (decide (t110 ≤ t105)) t99x1)
      (Ar (IntKind.wrap .i64 (t99x0 + 1)) fun t129 =>
      slices_pdqsortOrdered_string.call data0_5 t129 b2_5 limit3_5 <|
      X1 a1_5 t99x0 limit3_5 (decide (t110 ≤ t108)) t99x1))
def slices_pdqsortOrdered_string.s4 (Q : K) (X1 : Int → Int → Int → Bool → Bool → K) (data0_4 : Sl) (a1_4 : Int) (b2_4 : Int) (limit3_4 : Int) (wasBalanced8_4 : Bool) (wasPartitioned9_4 : Bool) (length10_4 : Int) (pivot11_4 : Int) : K :=
  Dr <|
  Ite (decide ((0 : Int) < a1_4))
    (Ar (IntKind.wrap .i64 (a1_4 - 1)) fun t78 =>
    Idx data0_4 t78 1 fun t79 =>
    Idx data0_4 pivot11_4 1 fun t83 =>
    Ld t79 Value.string fun t80 =>
    Ld t83 Value.string fun t84 =>
    cmp_Less_string.call t80 t84 fun t85 =>
    slices_pdqsortOrdered_string.s5 Q X1 data0_4 a1_4 b2_4 limit3_4 wasBalanced8_4 wasPartitioned9_4 length10_4 pivot11_4 (!t85))
    (slices_pdqsortOrdered_string.s5 Q X1 data0_4 a1_4 b2_4 limit3_4 wasBalanced8_4 wasPartitioned9_4 length10_4 pivot11_4 false)
def slices_pdqsortOrdered_string.s6 (Q : K) (X1 : Int → Int → Int → Bool → Bool → K) (data0_6 : Sl) (a1_6 : Int) (b2_6 : Int) (limit3_6 : Int) (wasBalanced8_6 : Bool) (wasPartitioned9_6 : Bool) (length10_6 : Int) (pivot11_6 : Int) (t68_6 : Bool) : K :=
  Ite t68_6
    (slices_partialInsertionSortOrdered_string.call data0_6 a1_6 b2_6 fun t72 =>
    Ite t72
      (Q)
      (slices_pdqsortOrdered_string.s4 Q X1 data0_6 a1_6 b2_6 limit3_6 wasBalanced8_6 wasPartitioned9_6 length10_6 pivot11_6))
    (slices_pdqsortOrdered_string.s4 Q X1 data0_6 a1_6 b2_6 limit3_6 wasBalanced8_6 wasPartitioned9_6 length10_6 pivot11_6)
def slices_pdqsortOrdered_string.s3 (Q : K) (X1 : Int → Int → Int → Bool → Bool → K) (data0_3 : Sl) (a1_3 : Int) (b2_3 : Int) (limit3_3 : Int) (wasBalanced8_3 : Bool) (wasPartitioned9_3 : Bool) (length10_3 : Int) (pivot11_3 : Int) (hint12_3 : Int) : K :=
  Ite wasBalanced8_3
    (Ite wasPartitioned9_3
      (slices_pdqsortOrdered_string.s6 Q X1 data0_3 a1_3 b2_3 limit3_3 true true length10_3 pivot11_3 (decide (hint12_3 = 1)))
      (slices_pdqsortOrdered_string.s6 Q X1 data0_3 a1_3 b2_3 limit3_3 true false length10_3 pivot11_3 false))
    (slices_pdqsortOrdered_string.s6 Q X1 data0_3 a1_3 b2_3 limit3_3 false wasPartitioned9_3 length10_3 pivot11_3 false)
def slices_pdqsortOrdered_string.s2 (Q : K) (X1 : Int → Int → Int → Bool → Bool → K) (data0_2 : Sl) (a1_2 : Int) (b2_2 : Int) (limit3_2 : Int) (wasBalanced8_2 : Bool) (wasPartitioned9_2 : Bool) (length10_2 : Int) : K :=
  slices_choosePivotOrdered_string.call data0_2 a1_2 b2_2 fun t46x0 t46x1 =>
  Ite (decide (t46x1 = 2))
    (slices_reverseRangeOrdered_string.call data0_2 a1_2 b2_2 <|
    Ar (IntKind.wrap .i64 (b2_2 - 1)) fun t56 =>
    Ar (IntKind.wrap .i64 (t46x0 - a1_2)) fun t59 =>
    Ar (IntKind.wrap .i64 (t56 - t59)) fun t60 =>
    slices_pdqsortOrdered_string.s3 Q X1 data0_2 a1_2 b2_2 limit3_2 wasBalanced8_2 wasPartitioned9_2 length10_2 t60 1)
    (slices_pdqsortOrdered_string.s3 Q X1 data0_2 a1_2 b2_2 limit3_2 wasBalanced8_2 wasPartitioned9_2 length10_2 t46x0 t46x1)
def slices_pdqsortOrdered_string.b1 (Q : K)  (X1 : Int → Int → Int → Bool → Bool → K) (data0_1 : Sl) (a1_1 : Int) (b2_1 : Int) (limit3_1 : Int) (wasBalanced8_1 : Bool) (wasPartitioned9_1 : Bool) : K :=
  Ar (IntKind.wrap .i64 (b2_1 - a1_1)) fun t21 =>
  Ite (decide (t21 ≤ 12))
    (slices_insertionSortOrdered_string.call data0_1 a1_1 b2_1 <|
    Q)
    (Ite (decide (limit3_1 = 0))
      (slices_heapSortOrdered_string.call data0_1 a1_1 b2_1 <|
      Q)
      (Ite (!wasBalanced8_1)
        (slices_breakPatternsOrdered_string.call data0_1 a1_1 b2_1 <|
        Ar (IntKind.wrap .i64 (limit3_1 - 1)) fun t41 =>
        slices_pdqsortOrdered_string.s2 Q X1 data0_1 a1_1 b2_1 t41 wasBalanced8_1 wasPartitioned9_1 t21)
        (slices_pdqsortOrdered_string.s2 Q X1 data0_1 a1_1 b2_1 limit3_1 wasBalanced8_1 wasPartitioned9_1 t21)))
def slices_pdqsortOrdered_string (data0 : Sl) (a1 : Int) (b2 : Int) (limit3 : Int) (Q : K) : K :=
  LoopK (α := Int × Int × Int × Bool × Bool) (fun X x => slices_pdqsortOrdered_string.b1 Q (fun a1_1 b2_1 limit3_1 wasBalanced8_1 wasPartitioned9_1 => X (a1_1, b2_1, limit3_1, wasBalanced8_1, wasPartitioned9_1)) data0 x.1 x.2.1 x.2.2.1 x.2.2.2.1 x.2.2.2.2) (a1, b2, limit3, true, true)
theorem slices_pdqsortOrdered_string_ok (data0 : Sl) (a1 : Int) (b2 : Int) (limit3 : Int) (Q : K) (w : World) (h : slices_pdqsortOrdered_string data0 a1 b2 limit3 Q w) : slices_pdqsortOrdered_string.call data0 a1 b2 limit3 Q w := by
  unfold slices_pdqsortOrdered_string.call CallF
  refine f_start (args := [(Sl.val data0), (.int .i64 a1), (.int .i64 b2), (.int .i64 limit3)]) Try.func96 rfl (Nat.le_of_ble_eq_true rfl) ?_
  intro a hs
  unfold slices_pdqsortOrdered_string at h
  refine wp_seq_k fun K1 hK1 => ?_
  refine wp_region_lit ?_
  refine t_pure hs rfl rfl (by decide) (p_assign rfl rfl) ?_
  clear hs a
  intro a hs
  refine hK1 _ _ ?_
  refine wp_seq_k fun K2 hK2 => ?_
  refine wp_region_lit ?_
  refine t_pure hs rfl rfl (by decide) (p_assign rfl rfl) ?_
  clear hs a
  intro a hs
  refine hK2 _ _ ?_
  refine wp_block ?_
  obtain ⟨I1, μ1, h0, hr⟩ := h
  refine c_loop (α := Int × Int × Int × Bool × Bool) I1 μ1 (fun x a => Slots a 134 [(0, (Sl.val data0)), (1, (.int .i64 x.1)), (2, (.int .i64 x.2.1)), (3, (.int .i64 x.2.2.1)), (8, (.bool x.2.2.2.1)), (9, (.bool x.2.2.2.2))]) (a1, b2, limit3, true, true) h0 (hs.to ⟨rfl, rfl, rfl, rfl, rfl, rfl, trivial⟩) ?_
  clear h0 hs a
  rintro ⟨a1_1, b2_1, limit3_1, wasBalanced8_1, wasPartitioned9_1⟩ a w hI hs
  have h : slices_pdqsortOrdered_string.b1 Q (fun a1_1n b2_1n limit3_1n wasBalanced8_1n wasPartitioned9_1n w' => I1 (a1_1n, b2_1n, limit3_1n, wasBalanced8_1n, wasPartitioned9_1n) w' ∧ μ1 (a1_1n, b2_1n, limit3_1n, wasBalanced8_1n, wasPartitioned9_1n) w' < μ1 (a1_1, b2_1, limit3_1, wasBalanced8_1, wasPartitioned9_1) w) data0 a1_1 b2_1 limit3_1 wasBalanced8_1 wasPartitioned9_1 w := hr (a1_1, b2_1, limit3_1, wasBalanced8_1, wasPartitioned9_1) w hI
  clear hr hI
  generalize hX1 : (fun a1_1n b2_1n limit3_1n wasBalanced8_1n wasPartitioned9_1n w' => I1 (a1_1n, b2_1n, limit3_1n, wasBalanced8_1n, wasPartitioned9_1n) w' ∧ μ1 (a1_1n, b2_1n, limit3_1n, wasBalanced8_1n, wasPartitioned9_1n) w' < μ1 (a1_1, b2_1, limit3_1, wasBalanced8_1, wasPartitioned9_1) w) = X1 at h
  unfold slices_pdqsortOrdered_string.b1 at h
  replace hs : Slots a 134 [(0, (Sl.val data0)), (1, (.int .i64 a1_1)), (2, (.int .i64 b2_1)), (3, (.int .i64 limit3_1)), (8, (.bool wasBalanced8_1)), (9, (.bool wasPartitioned9_1))] := hs
  refine wp_block ?_
  refine wp_seq_k fun K3 hK3 => ?_
  refine wp_region_lit ?_
  refine t_pure hs rfl rfl (by decide) (p_move rfl rfl) ?_
  clear hs a
  intro a hs
  refine t_pure hs rfl rfl (by decide) (p_move rfl rfl) ?_
  clear hs a
  intro a hs
  obtain ⟨t21, he, h⟩ := h
  refine t_pure hs rfl rfl (by decide) (Pure.int he (p_sub rfl rfl rfl)) ?_
  clear hs a he
  intro a hs
  refine t_pure hs rfl rfl (by decide) (p_assign rfl rfl) ?_
  clear hs a
  intro a hs
  refine hK3 _ _ ?_
  refine wp_seq_k fun K4 hK4 => ?_
  refine wp_seq_k fun K5 hK5 => ?_
  refine wp_region_lit ?_
  refine t_pure hs rfl rfl (by decide) (p_move rfl rfl) ?_
  clear hs a
  intro a hs
  refine t_pure hs rfl rfl (by decide) (p_le rfl rfl rfl) ?_
  clear hs a
  intro a hs
  refine hK5 _ _ ?_
  refine c_cond hs rfl (fun hb => ?_) (fun hb => ?_)
  · replace h := h.1 hb
    clear hb
    refine wp_seq_k fun K6 hK6 => ?_
    refine wp_region_lit ?_
    refine t_pure hs rfl rfl (by decide) (p_move rfl rfl) ?_
    clear hs a
    intro a hs
    refine t_pure hs rfl rfl (by decide) (p_move rfl rfl) ?_
    clear hs a
    intro a hs
    refine t_pure hs rfl rfl (by decide) (p_move rfl rfl) ?_
    clear hs a
    intro a hs
    refine t_call hs rfl rfl (by decide) (e_call rfl rfl rfl cb_109) h ?_
    clear hs a h
    intro v a w hk hs
    obtain ⟨rfl, h⟩ := hk
    refine hK6 _ _ ?_
    refine wp_ret ?_
    refine f_ret (fn := Try.f96) hs (fun a hs => r_many hs (rs := []) (vs := []) rfl (by decide) trivial) ⟨rfl, h⟩
  · replace h := h.2 hb
    clear hb
    refine wp_skip ?_
    refine hK4 _ _ ?_
    refine wp_seq_k fun K7 hK7 => ?_
    refine wp_seq_k fun K8 hK8 => ?_
    refine wp_region_lit ?_
    refine t_pure hs rfl rfl (by decide) (p_move rfl rfl) ?_
    clear hs a
    intro a hs
    refine t_pure hs rfl rfl (by decide) (p_eq rfl rfl rfl) ?_
    clear hs a
    intro a hs
    refine hK8 _ _ ?_
    refine c_cond hs rfl (fun hb => ?_) (fun hb => ?_)
    · replace h := h.1 hb
      clear hb
      refine wp_seq_k fun K9 hK9 => ?_
      refine wp_region_lit ?_
      refine t_pure hs rfl rfl (by decide) (p_move rfl rfl) ?_
      clear hs a
      intro a hs
      refine t_pure hs rfl rfl (by decide) (p_move rfl rfl) ?_
      clear hs a
      intro a hs
      refine t_pure hs rfl rfl (by decide) (p_move rfl rfl) ?_
      clear hs a
      intro a hs
      refine t_call hs rfl rfl (by decide) (e_call rfl rfl rfl cb_110) h ?_
      clear hs a h
      intro v a w hk hs
      obtain ⟨rfl, h⟩ := hk
      refine hK9 _ _ ?_
      refine wp_ret ?_
      refine f_ret (fn := Try.f96) hs (fun a hs => r_many hs (rs := []) (vs := []) rfl (by decide) trivial) ⟨rfl, h⟩
    · replace h := h.2 hb
      clear hb
      refine wp_skip ?_
      refine hK7 _ _ ?_
      refine wp_seq_k fun K10 hK10 => ?_
      have J2 : ∀ (limit3_2 : Int) (wasBalanced8_2 : Bool) (wasPartitioned9_2 : Bool) (a : Act) (w : World), Slots a 134 [(0, (Sl.val data0)), (1, (.int .i64 a1_1)), (2, (.int .i64 b2_1)), (3, (.int .i64 limit3_2)), (8, (.bool wasBalanced8_2)), (9, (.bool wasPartitioned9_2)), (10, (.int .i64 t21))] → slices_pdqsortOrdered_string.s2 Q X1 data0 a1_1 b2_1 limit3_2 wasBalanced8_2 wasPartitioned9_2 t21 w → K10 a w := by
        clear h hs
        intro limit3_2 wasBalanced8_2 wasPartitioned9_2 a w hs h
        refine hK10 _ _ ?_
        unfold slices_pdqsortOrdered_string.s2 at h
        refine wp_seq_k fun K11 hK11 => ?_
        refine wp_region_lit ?_
        refine t_pure hs rfl rfl (by decide) (p_move rfl rfl) ?_
        clear hs a
        intro a hs
        refine t_pure hs rfl rfl (by decide) (p_move rfl rfl) ?_
        clear hs a
        intro a hs
        refine t_pure hs rfl rfl (by decide) (p_move rfl rfl) ?_
        clear hs a
        intro a hs
        refine t_call hs rfl rfl (by decide) (e_call rfl rfl rfl cb_112) h ?_
        clear hs a h
        intro v a w hk hs
        obtain ⟨t46x0, t46x1, rfl, h⟩ := hk
        refine t_pure hs rfl rfl (by decide) (p_move rfl rfl) ?_
        clear hs a
        intro a hs
        refine t_pure hs rfl rfl (by decide) (p_extract rfl rfl rfl) ?_
        clear hs a
        intro a hs
        refine t_pure hs rfl rfl (by decide) (p_extract rfl rfl rfl) ?_
        clear hs a
        intro a hs
        refine t_pure hs rfl rfl (by decide) (p_assign rfl rfl) ?_
        clear hs a
        intro a hs
        replace hs := hs.to (τ := [(0, (Sl.val data0)), (1, (.int .i64 a1_1)), (2, (.int .i64 b2_1)), (3, (.int .i64 limit3_2)), (8, (.bool wasBalanced8_2)), (9, (.bool wasPartitioned9_2)), (10, (.int .i64 t21)), (11, (.int .i64 t46x0)), (48, (.int .i64 t46x1))]) ⟨rfl, rfl, rfl, rfl, rfl, rfl, rfl, rfl, rfl, trivial⟩
        refine t_pure hs rfl rfl (by decide) (p_assign rfl rfl) ?_
        clear hs a
        intro a hs
        refine hK11 _ _ ?_
        refine wp_seq_k fun K12 hK12 => ?_
        have J3 : ∀ (wasBalanced8_3 : Bool) (wasPartitioned9_3 : Bool) (pivot11_3 : Int) (hint12_3 : Int) (a : Act) (w : World), Slots a 134 [(0, (Sl.val data0)), (1, (.int .i64 a1_1)), (2, (.int .i64 b2_1)), (3, (.int .i64 limit3_2)), (8, (.bool wasBalanced8_3)), (9, (.bool wasPartitioned9_3)), (10, (.int .i64 t21)), (11, (.int .i64 pivot11_3)), (12, (.int .i64 hint12_3))] → slices_pdqsortOrdered_string.s3 Q X1 data0 a1_1 b2_1 limit3_2 wasBalanced8_3 wasPartitioned9_3 t21 pivot11_3 hint12_3 w → K12 a w := by
          clear h hs
          intro wasBalanced8_3 wasPartitioned9_3 pivot11_3 hint12_3 a w hs h
          refine hK12 _ _ ?_
          unfold slices_pdqsortOrdered_string.s3 at h
          refine wp_seq_k fun K13 hK13 => ?_
          have J4 : ∀ (wasBalanced8_4 : Bool) (wasPartitioned9_4 : Bool) (a : Act) (w : World), Slots a 134 [(0, (Sl.val data0)), (1, (.int .i64 a1_1)), (2, (.int .i64 b2_1)), (3, (.int .i64 limit3_2)), (8, (.bool wasBalanced8_4)), (9, (.bool wasPartitioned9_4)), (10, (.int .i64 t21)), (11, (.int .i64 pivot11_3))] → slices_pdqsortOrdered_string.s4 Q X1 data0 a1_1 b2_1 limit3_2 wasBalanced8_4 wasPartitioned9_4 t21 pivot11_3 w → K13 a w := by
            clear h hs
            intro wasBalanced8_4 wasPartitioned9_4 a w hs h
            refine hK13 _ _ ?_
            unfold slices_pdqsortOrdered_string.s4 at h
            refine wp_seq_k fun K14 hK14 => ?_
            refine wp_seq_k fun K15 hK15 => ?_
            have J5 : ∀ (wasBalanced8_5 : Bool) (wasPartitioned9_5 : Bool) (t87_5 : Bool) (a : Act) (w : World), Slots a 134 [(0, (Sl.val data0)), (1, (.int .i64 a1_1)), (2, (.int .i64 b2_1)), (3, (.int .i64 limit3_2)), (8, (.bool wasBalanced8_5)), (9, (.bool wasPartitioned9_5)), (10, (.int .i64 t21)), (11, (.int .i64 pivot11_3)), (87, (.bool t87_5))] → slices_pdqsortOrdered_string.s5 Q X1 data0 a1_1 b2_1 limit3_2 wasBalanced8_5 wasPartitioned9_5 t21 pivot11_3 t87_5 w → K15 a w := by
              clear h hs
              intro wasBalanced8_5 wasPartitioned9_5 t87_5 a w hs h
              refine hK15 _ _ ?_
              unfold slices_pdqsortOrdered_string.s5 at h
              refine c_cond hs rfl (fun hb => ?_) (fun hb => ?_)
              · replace h := h.1 hb
                clear hb
                refine wp_seq_k fun K16 hK16 => ?_
                refine wp_region_lit ?_
                refine t_pure hs rfl rfl (by decide) (p_move rfl rfl) ?_
                clear hs a
                intro a hs
                refine t_pure hs rfl rfl (by decide) (p_move rfl rfl) ?_
                clear hs a
                intro a hs
                refine t_pure hs rfl rfl (by decide) (p_move rfl rfl) ?_
                clear hs a
                intro a hs
                refine t_pure hs rfl rfl (by decide) (p_move rfl rfl) ?_
                clear hs a
                intro a hs
                refine t_call hs rfl rfl (by decide) (e_call rfl rfl rfl cb_116) h ?_
                clear hs a h
                intro v a w hk hs
                obtain ⟨t92, rfl, h⟩ := hk
                refine t_pure hs rfl rfl (by decide) (p_assign rfl rfl) ?_
                clear hs a
                intro a hs
                refine hK16 _ _ ?_
                refine wp_seq_k fun K17 hK17 => ?_
                refine wp_region_lit ?_
                refine t_pure hs rfl rfl (by decide) (p_move rfl rfl) ?_
                clear hs a
                intro a hs
                refine t_pure hs rfl rfl (by decide) (p_assign rfl rfl) ?_
                clear hs a
                intro a hs
                refine hK17 _ _ ?_
                refine wp_exit ?_
                rw [← hX1] at h
                exact ⟨(t92, b2_1, limit3_2, wasBalanced8_5, wasPartitioned9_5), hs.to ⟨rfl, rfl, rfl, rfl, rfl, rfl, trivial⟩, h⟩
              · replace h := h.2 hb
                clear hb
                refine wp_skip ?_
                refine hK14 _ _ ?_
                refine wp_seq_k fun K18 hK18 => ?_
                refine wp_region_lit ?_
                refine t_pure hs rfl rfl (by decide) (p_move rfl rfl) ?_
                clear hs a
                intro a hs
                refine t_pure hs rfl rfl (by decide) (p_move rfl rfl) ?_
                clear hs a
                intro a hs
                refine t_pure hs rfl rfl (by decide) (p_move rfl rfl) ?_
                clear hs a
                intro a hs
                refine t_pure hs rfl rfl (by decide) (p_move rfl rfl) ?_
                clear hs a
                intro a hs
                refine t_call hs rfl rfl (by decide) (e_call rfl rfl rfl cb_117) h ?_
                clear hs a h
                intro v a w hk hs
                obtain ⟨t99x0, t99x1, rfl, h⟩ := hk
                refine t_pure hs rfl rfl (by decide) (p_move rfl rfl) ?_
                clear hs a
                intro a hs
                refine t_pure hs rfl rfl (by decide) (p_extract rfl rfl rfl) ?_
                clear hs a
                intro a hs
                refine t_pure hs rfl rfl (by decide) (p_extract rfl rfl rfl) ?_
                clear hs a
                intro a hs
                replace hs := hs.to (τ := [(0, (Sl.val data0)), (1, (.int .i64 a1_1)), (2, (.int .i64 b2_1)), (3, (.int .i64 limit3_2)), (10, (.int .i64 t21)), (100, (.int .i64 t99x0)), (101, (.bool t99x1))]) ⟨rfl, rfl, rfl, rfl, rfl, rfl, rfl, trivial⟩
                refine t_pure hs rfl rfl (by decide) (p_assign rfl rfl) ?_
                clear hs a
                intro a hs
                refine t_pure hs rfl rfl (by decide) (p_assign rfl rfl) ?_
                clear hs a
                intro a hs
                refine hK18 _ _ ?_
                refine wp_seq_k fun K19 hK19 => ?_
                refine wp_region_lit ?_
                refine t_pure hs rfl rfl (by decide) (p_move rfl rfl) ?_
                clear hs a
                intro a hs
                refine t_pure hs rfl rfl (by decide) (p_assign rfl rfl) ?_
                clear hs a
                intro a hs
                refine hK19 _ _ ?_
                refine wp_seq_k fun K20 hK20 => ?_
                refine wp_region_lit ?_
                refine t_pure hs rfl rfl (by decide) (p_move rfl rfl) ?_
                clear hs a
                intro a hs
                refine t_pure hs rfl rfl (by decide) (p_move rfl rfl) ?_
                clear hs a
                intro a hs
                obtain ⟨t105, he, h⟩ := h
                refine t_pure hs rfl rfl (by decide) (Pure.int he (p_sub rfl rfl rfl)) ?_
                clear hs a he
                intro a hs
                refine t_pure hs rfl rfl (by decide) (p_move rfl rfl) ?_
                clear hs a
                intro a hs
                refine t_pure hs rfl rfl (by decide) (p_move rfl rfl) ?_
                clear hs a
                intro a hs
                obtain ⟨t108, he, h⟩ := h
                refine t_pure hs rfl rfl (by decide) (Pure.int he (p_sub rfl rfl rfl)) ?_
                clear hs a he
                intro a hs
                refine t_pure hs rfl rfl (by decide) (p_assign rfl rfl) ?_
                clear hs a
                intro a hs
                refine t_pure hs rfl rfl (by decide) (p_assign rfl rfl) ?_
                clear hs a
                intro a hs
                refine hK20 _ _ ?_
                refine wp_seq_k fun K21 hK21 => ?_
                refine wp_region_lit ?_
                refine t_pure hs rfl rfl (by decide) (p_move rfl rfl) ?_
                clear hs a
                intro a hs
                obtain ⟨h0, t110, he, h⟩ := h
                refine t_pure hs rfl rfl (by decide) (Pure.int he (p_quo rfl rfl rfl h0)) ?_
                clear hs a h0 he
                intro a hs
                refine t_pure hs rfl rfl (by decide) (p_assign rfl rfl) ?_
                clear hs a
                intro a hs
                refine hK21 _ _ ?_
                refine wp_seq_k fun K22 hK22 => ?_
                refine wp_region_lit ?_
                refine t_pure hs rfl rfl (by decide) (p_move rfl rfl) ?_
                clear hs a
                intro a hs
                refine t_pure hs rfl rfl (by decide) (p_move rfl rfl) ?_
                clear hs a
                intro a hs
                refine t_pure hs rfl rfl (by decide) (p_lt rfl rfl rfl) ?_
                clear hs a
                intro a hs
                refine hK22 _ _ ?_
                refine c_cond hs rfl (fun hb => ?_) (fun hb => ?_)
                · replace h := h.1 hb
                  clear hb
                  refine wp_seq_k fun K23 hK23 => ?_
                  refine wp_region_lit ?_
                  refine t_pure hs rfl rfl (by decide) (p_move rfl rfl) ?_
                  clear hs a
                  intro a hs
                  refine t_pure hs rfl rfl (by decide) (p_move rfl rfl) ?_
                  clear hs a
                  intro a hs
                  refine t_pure hs rfl rfl (by decide) (p_ge rfl rfl rfl) ?_
                  clear hs a
                  intro a hs
                  refine t_pure hs rfl rfl (by decide) (p_assign rfl rfl) ?_
                  clear hs a
                  intro a hs
                  refine hK23 _ _ ?_
                  refine wp_seq_k fun K24 hK24 => ?_
                  refine wp_region_lit ?_
                  refine t_pure hs rfl rfl (by decide) (p_move rfl rfl) ?_
                  clear hs a
                  intro a hs
                  refine t_pure hs rfl rfl (by decide) (p_move rfl rfl) ?_
                  clear hs a
                  intro a hs
                  refine t_pure hs rfl rfl (by decide) (p_move rfl rfl) ?_
                  clear hs a
                  intro a hs
                  refine t_pure hs rfl rfl (by decide) (p_move rfl rfl) ?_
                  clear hs a
                  intro a hs
                  refine t_call hs rfl rfl (by decide) (e_call rfl rfl rfl cb_96) h ?_
                  clear hs a h
                  intro v a w hk hs
                  obtain ⟨rfl, h⟩ := hk
                  refine hK24 _ _ ?_
                  refine wp_region_lit ?_
                  refine t_pure hs rfl rfl (by decide) (p_move rfl rfl) ?_
                  clear hs a
                  intro a hs
                  obtain ⟨t123, he, h⟩ := h
                  refine t_pure hs rfl rfl (by decide) (Pure.int he (p_add rfl rfl rfl)) ?_
                  clear hs a he
                  intro a hs
                  refine t_pure hs rfl rfl (by decide) (p_assign rfl rfl) ?_
                  clear hs a
                  intro a hs
                  rw [← hX1] at h
                  exact ⟨(t123, b2_1, limit3_2, (decide (t110 ≤ t105)), t99x1), hs.to ⟨rfl, rfl, rfl, rfl, rfl, rfl, trivial⟩, h⟩
                · replace h := h.2 hb
                  clear hb
                  refine wp_seq_k fun K25 hK25 => ?_
                  refine wp_region_lit ?_
                  refine t_pure hs rfl rfl (by decide) (p_move rfl rfl) ?_
                  clear hs a
                  intro a hs
                  refine t_pure hs rfl rfl (by decide) (p_move rfl rfl) ?_
                  clear hs a
                  intro a hs
                  refine t_pure hs rfl rfl (by decide) (p_ge rfl rfl rfl) ?_
                  clear hs a
                  intro a hs
                  refine t_pure hs rfl rfl (by decide) (p_assign rfl rfl) ?_
                  clear hs a
                  intro a hs
                  refine hK25 _ _ ?_
                  refine wp_seq_k fun K26 hK26 => ?_
                  refine wp_region_lit ?_
                  refine t_pure hs rfl rfl (by decide) (p_move rfl rfl) ?_
                  clear hs a
                  intro a hs
                  refine t_pure hs rfl rfl (by decide) (p_move rfl rfl) ?_
                  clear hs a
                  intro a hs
                  obtain ⟨t129, he, h⟩ := h
                  refine t_pure hs rfl rfl (by decide) (Pure.int he (p_add rfl rfl rfl)) ?_
                  clear hs a he
                  intro a hs
                  refine t_pure hs rfl rfl (by decide) (p_move rfl rfl) ?_
                  clear hs a
                  intro a hs
                  refine t_pure hs rfl rfl (by decide) (p_move rfl rfl) ?_
                  clear hs a
                  intro a hs
                  refine t_call hs rfl rfl (by decide) (e_call rfl rfl rfl cb_96) h ?_
                  clear hs a h
                  intro v a w hk hs
                  obtain ⟨rfl, h⟩ := hk
                  refine hK26 _ _ ?_
                  refine wp_region_lit ?_
                  refine t_pure hs rfl rfl (by decide) (p_move rfl rfl) ?_
                  clear hs a
                  intro a hs
                  refine t_pure hs rfl rfl (by decide) (p_assign rfl rfl) ?_
                  clear hs a
                  intro a hs
                  rw [← hX1] at h
                  exact ⟨(a1_1, t99x0, limit3_2, (decide (t110 ≤ t108)), t99x1), hs.to ⟨rfl, rfl, rfl, rfl, rfl, rfl, trivial⟩, h⟩
            clear hK15
            obtain ⟨w1, hw1, h⟩ := h
            refine d_start (S := Is w1) (ds := [12]) #[false, false, false, false, false, false, false, false, false, false, false, false, false, false, false] mixed rfl rfl ?_
            rw [← hw1]
            have hS := Is.intro w1
            clear hw1
            refine d_pure hs #[true, false, false, false, false, false, false, false, false, false, false, false, false, false, false] (i := 0) rfl rfl rfl (by decide) (by kernel_rfl) (tight_body (P := Try.prog) (fn := Try.f96)) (p_move rfl rfl) ?_
            clear hs a
            intro a hs
            refine d_pure hs #[true, true, false, false, false, false, false, false, false, false, false, false, false, false, false] (i := 1) rfl rfl rfl (by decide) (by kernel_rfl) (tight_body (P := Try.prog) (fn := Try.f96)) (p_gt rfl rfl rfl) ?_
            clear hs a
            intro a hs
            refine d_pure hs #[true, true, true, false, false, false, false, false, false, false, false, false, false, false, false] (i := 2) rfl rfl rfl (by decide) (by kernel_rfl) (tight_body (P := Try.prog) (fn := Try.f96)) (p_move rfl rfl) ?_
            clear hs a
            intro a hs
            refine split_bool (decide ((0 : Int) < a1_1)) (fun hb => ?_) (fun hb => ?_)
            · replace h := h.1 hb
              rw [hb] at hs
              clear hb
              refine d_pure hs #[true, true, true, true, false, false, false, false, false, false, false, false, false, false, false] (i := 3) rfl rfl rfl (by decide) (by kernel_rfl) (tight_body (P := Try.prog) (fn := Try.f96)) (p_move rfl rfl) ?_
              clear hs a
              intro a hs
              refine d_pure hs #[true, true, true, true, true, false, false, false, false, false, false, false, false, false, false] (i := 4) rfl rfl rfl (by decide) (by kernel_rfl) (tight_body (P := Try.prog) (fn := Try.f96)) (p_move rfl rfl) ?_
              clear hs a
              intro a hs
              obtain ⟨t78, he, h⟩ := h
              refine d_pure hs #[true, true, true, true, true, true, false, false, false, false, false, false, false, false, false] (i := 5) rfl rfl rfl (by decide) (by kernel_rfl) (tight_body (P := Try.prog) (fn := Try.f96)) (Pure.int he (p_sub rfl rfl rfl)) ?_
              clear hs a he
              intro a hs
              obtain ⟨qt79, t79, ha, h0, h1, he, h⟩ := h
              refine d_pure hs #[true, true, true, true, true, true, true, false, false, false, false, false, false, false, false] (i := 6) rfl rfl rfl (by decide) (by kernel_rfl) (tight_body (P := Try.prog) (fn := Try.f96)) (Pure.adr he (p_idx rfl rfl rfl sl_59 ha h0 h1)) ?_
              clear hs a ha h0 h1 he
              intro a hs
              refine d_pure hs #[true, true, true, true, true, true, true, false, true, false, false, false, false, false, false] (i := 8) rfl rfl rfl (by decide) (by kernel_rfl) (tight_body (P := Try.prog) (fn := Try.f96)) (p_move rfl rfl) ?_
              clear hs a
              intro a hs
              replace hs := hs.to (τ := [(0, (Sl.val data0)), (1, (.int .i64 a1_1)), (2, (.int .i64 b2_1)), (3, (.int .i64 limit3_2)), (8, (.bool wasBalanced8_4)), (9, (.bool wasPartitioned9_4)), (10, (.int .i64 t21)), (11, (.int .i64 pivot11_3)), (75, (.bool true)), (79, (.pointer (some t79))), (81, (Sl.val data0))]) ⟨rfl, rfl, rfl, rfl, rfl, rfl, rfl, rfl, rfl, rfl, rfl, trivial⟩
              refine d_pure hs #[true, true, true, true, true, true, true, false, true, true, false, false, false, false, false] (i := 9) rfl rfl rfl (by decide) (by kernel_rfl) (tight_body (P := Try.prog) (fn := Try.f96)) (p_move rfl rfl) ?_
              clear hs a
              intro a hs
              obtain ⟨qt83, t83, ha, h0, h1, he, h⟩ := h
              refine d_pure hs #[true, true, true, true, true, true, true, false, true, true, true, false, false, false, false] (i := 10) rfl rfl rfl (by decide) (by kernel_rfl) (tight_body (P := Try.prog) (fn := Try.f96)) (Pure.adr he (p_idx rfl rfl rfl sl_59 ha h0 h1)) ?_
              clear hs a ha h0 h1 he
              intro a hs
              obtain ⟨t80, hv, h⟩ := h
              refine d_read hs #[true, true, true, true, true, true, true, true, true, true, true, false, false, false, false] (i := 7) rfl rfl rfl (by decide) (by kernel_rfl) (by kernel_rfl) (tight_body (P := Try.prog) (fn := Try.f96)) hS (fun w h' => by have h1 := h'.out; subst h1; exact e_load rfl rfl ct_9 hv) ?_
              clear hs a hv
              intro a hs
              obtain ⟨t84, hv, h⟩ := h
              refine d_read hs #[true, true, true, true, true, true, true, true, true, true, true, true, false, false, false] (i := 11) rfl rfl rfl (by decide) (by kernel_rfl) (by kernel_rfl) (tight_body (P := Try.prog) (fn := Try.f96)) hS (fun w h' => by have h1 := h'.out; subst h1; exact e_load rfl rfl ct_9 hv) ?_
              clear hs a hv
              intro a hs
              refine d_all [12] (by kernel_rfl) (by decide) ?_
              refine AllS.cons ?_ AllS.nil
              refine d_call hs #[true, true, true, true, true, true, true, true, true, true, true, true, true, false, false] (i := 12) rfl rfl rfl (by decide) rfl (e_call rfl rfl rfl cb_115) h (fun _ _ _ hn => (hn (by decide)).elim) ?_
              clear hs a h
              intro v a w hk hs
              obtain ⟨t85, rfl, h⟩ := hk
              refine d_pure hs #[true, true, true, true, true, true, true, true, true, true, true, true, true, true, false] (i := 13) rfl rfl rfl (by decide) (by kernel_rfl) (tight_body (P := Try.prog) (fn := Try.f96)) (p_not rfl rfl) ?_
              clear hs a
              intro a hs
              refine d_pure hs #[true, true, true, true, true, true, true, true, true, true, true, true, true, true, true] (i := 14) rfl rfl rfl (by decide) (by kernel_rfl) (tight_body (P := Try.prog) (fn := Try.f96)) (p_pick_t rfl rfl rfl) ?_
              clear hs a
              intro a hs
              refine d_done (by kernel_rfl) ?_ _
              clear hS
              exact J5 wasBalanced8_4 wasPartitioned9_4 (!t85) _ _ (hs.to ⟨rfl, rfl, rfl, rfl, rfl, rfl, rfl, rfl, rfl, trivial⟩) h
            · replace h := h.2 hb
              rw [hb] at hs
              clear hb
              refine d_no hs #[true, true, true, true, false, false, false, false, false, false, false, false, false, false, false] (i := 3) rfl rfl rfl (by decide) (by kernel_rfl) (tight_body (P := Try.prog) (fn := Try.f96)) ?_
              clear hs a
              intro a hs
              refine d_no hs #[true, true, true, true, true, false, false, false, false, false, false, false, false, false, false] (i := 4) rfl rfl rfl (by decide) (by kernel_rfl) (tight_body (P := Try.prog) (fn := Try.f96)) ?_
              clear hs a
              intro a hs
              refine d_no hs #[true, true, true, true, true, true, false, false, false, false, false, false, false, false, false] (i := 5) rfl rfl rfl (by decide) (by kernel_rfl) (tight_body (P := Try.prog) (fn := Try.f96)) ?_
              clear hs a
              intro a hs
              refine d_no hs #[true, true, true, true, true, true, true, false, false, false, false, false, false, false, false] (i := 6) rfl rfl rfl (by decide) (by kernel_rfl) (tight_body (P := Try.prog) (fn := Try.f96)) ?_
              clear hs a
              intro a hs
              refine d_no hs #[true, true, true, true, true, true, true, true, false, false, false, false, false, false, false] (i := 7) rfl rfl rfl (by decide) (by kernel_rfl) (tight_body (P := Try.prog) (fn := Try.f96)) ?_
              clear hs a
              intro a hs
              replace hs := hs.to (τ := [(0, (Sl.val data0)), (1, (.int .i64 a1_1)), (2, (.int .i64 b2_1)), (3, (.int .i64 limit3_2)), (8, (.bool wasBalanced8_4)), (9, (.bool wasPartitioned9_4)), (10, (.int .i64 t21)), (11, (.int .i64 pivot11_3)), (75, (.bool false)), (80, undef)]) ⟨rfl, rfl, rfl, rfl, rfl, rfl, rfl, rfl, rfl, rfl, trivial⟩
              refine d_no hs #[true, true, true, true, true, true, true, true, true, false, false, false, false, false, false] (i := 8) rfl rfl rfl (by decide) (by kernel_rfl) (tight_body (P := Try.prog) (fn := Try.f96)) ?_
              clear hs a
              intro a hs
              refine d_no hs #[true, true, true, true, true, true, true, true, true, true, false, false, false, false, false] (i := 9) rfl rfl rfl (by decide) (by kernel_rfl) (tight_body (P := Try.prog) (fn := Try.f96)) ?_
              clear hs a
              intro a hs
              refine d_no hs #[true, true, true, true, true, true, true, true, true, true, true, false, false, false, false] (i := 10) rfl rfl rfl (by decide) (by kernel_rfl) (tight_body (P := Try.prog) (fn := Try.f96)) ?_
              clear hs a
              intro a hs
              refine d_no hs #[true, true, true, true, true, true, true, true, true, true, true, true, false, false, false] (i := 11) rfl rfl rfl (by decide) (by kernel_rfl) (tight_body (P := Try.prog) (fn := Try.f96)) ?_
              clear hs a
              intro a hs
              refine d_no hs #[true, true, true, true, true, true, true, true, true, true, true, true, true, false, false] (i := 12) rfl rfl rfl (by decide) (by kernel_rfl) (tight_body (P := Try.prog) (fn := Try.f96)) ?_
              clear hs a
              intro a hs
              refine d_no hs #[true, true, true, true, true, true, true, true, true, true, true, true, true, true, false] (i := 13) rfl rfl rfl (by decide) (by kernel_rfl) (tight_body (P := Try.prog) (fn := Try.f96)) ?_
              clear hs a
              intro a hs
              refine d_pure hs #[true, true, true, true, true, true, true, true, true, true, true, true, true, true, true] (i := 14) rfl rfl rfl (by decide) (by kernel_rfl) (tight_body (P := Try.prog) (fn := Try.f96)) (p_pick_f rfl rfl rfl) ?_
              clear hs a
              intro a hs
              refine d_done (by kernel_rfl) ?_ _
              clear hS
              exact J5 wasBalanced8_4 wasPartitioned9_4 false _ _ (hs.to ⟨rfl, rfl, rfl, rfl, rfl, rfl, rfl, rfl, rfl, trivial⟩) h
          clear hK13
          refine wp_seq_k fun K27 hK27 => ?_
          have J6 : ∀ (wasBalanced8_6 : Bool) (wasPartitioned9_6 : Bool) (t68_6 : Bool) (a : Act) (w : World), Slots a 134 [(0, (Sl.val data0)), (1, (.int .i64 a1_1)), (2, (.int .i64 b2_1)), (3, (.int .i64 limit3_2)), (8, (.bool wasBalanced8_6)), (9, (.bool wasPartitioned9_6)), (10, (.int .i64 t21)), (11, (.int .i64 pivot11_3)), (68, (.bool t68_6))] → slices_pdqsortOrdered_string.s6 Q X1 data0 a1_1 b2_1 limit3_2 wasBalanced8_6 wasPartitioned9_6 t21 pivot11_3 t68_6 w → K27 a w := by
            clear h hs
            intro wasBalanced8_6 wasPartitioned9_6 t68_6 a w hs h
            refine hK27 _ _ ?_
            unfold slices_pdqsortOrdered_string.s6 at h
            refine c_cond hs rfl (fun hb => ?_) (fun hb => ?_)
            · replace h := h.1 hb
              clear hb
              refine wp_seq_k fun K28 hK28 => ?_
              refine wp_region_lit ?_
              refine t_pure hs rfl rfl (by decide) (p_move rfl rfl) ?_
              clear hs a
              intro a hs
              refine t_pure hs rfl rfl (by decide) (p_move rfl rfl) ?_
              clear hs a
              intro a hs
              refine t_pure hs rfl rfl (by decide) (p_move rfl rfl) ?_
              clear hs a
              intro a hs
              refine t_call hs rfl rfl (by decide) (e_call rfl rfl rfl cb_114) h ?_
              clear hs a h
              intro v a w hk hs
              obtain ⟨t72, rfl, h⟩ := hk
              refine hK28 _ _ ?_
              refine c_cond hs rfl (fun hb => ?_) (fun hb => ?_)
              · replace h := h.1 hb
                clear hb
                refine wp_ret ?_
                refine f_ret (fn := Try.f96) hs (fun a hs => r_many hs (rs := []) (vs := []) rfl (by decide) trivial) ⟨rfl, h⟩
              · replace h := h.2 hb
                clear hb
                refine wp_skip ?_
                exact J4 wasBalanced8_6 wasPartitioned9_6 _ _ (hs.to ⟨rfl, rfl, rfl, rfl, rfl, rfl, rfl, rfl, trivial⟩) h
            · replace h := h.2 hb
              clear hb
              refine wp_skip ?_
              exact J4 wasBalanced8_6 wasPartitioned9_6 _ _ (hs.to ⟨rfl, rfl, rfl, rfl, rfl, rfl, rfl, rfl, trivial⟩) h
          clear hK27
          refine wp_region_lit ?_
          refine t_pure hs rfl rfl (by decide) (p_move rfl rfl) ?_
          clear hs a
          intro a hs
          refine t_pure hs rfl rfl (by decide) (p_move rfl rfl) ?_
          clear hs a
          intro a hs
          refine split_bool wasBalanced8_3 (fun hb => ?_) (fun hb => ?_)
          · replace h := h.1 hb
            rw [hb] at hs
            clear hb
            refine t_yes hs rfl ?_
            refine t_pure hs rfl rfl (by decide) (p_move rfl rfl) ?_
            clear hs a
            intro a hs
            refine t_pure hs rfl rfl (by decide) (p_pick_t rfl rfl rfl) ?_
            clear hs a
            intro a hs
            refine t_pure hs rfl rfl (by decide) (p_move rfl rfl) ?_
            clear hs a
            intro a hs
            refine split_bool wasPartitioned9_3 (fun hb => ?_) (fun hb => ?_)
            · replace h := h.1 hb
              rw [hb] at hs
              clear hb
              refine t_yes hs rfl ?_
              refine t_pure hs rfl rfl (by decide) (p_move rfl rfl) ?_
              clear hs a
              intro a hs
              refine t_yes hs rfl ?_
              refine t_pure hs rfl rfl (by decide) (p_eq rfl rfl rfl) ?_
              clear hs a
              intro a hs
              refine t_pure hs rfl rfl (by decide) (p_pick_t rfl rfl rfl) ?_
              clear hs a
              intro a hs
              exact J6 true true (decide (hint12_3 = 1)) _ _ (hs.to ⟨rfl, rfl, rfl, rfl, rfl, rfl, rfl, rfl, rfl, trivial⟩) h
            · replace h := h.2 hb
              rw [hb] at hs
              clear hb
              refine t_no hs rfl rfl (by decide) ?_
              clear hs a
              intro a hs
              refine t_no hs rfl rfl (by decide) ?_
              clear hs a
              intro a hs
              refine t_pure hs rfl rfl (by decide) (p_pick_f rfl rfl rfl) ?_
              clear hs a
              intro a hs
              exact J6 true false false _ _ (hs.to ⟨rfl, rfl, rfl, rfl, rfl, rfl, rfl, rfl, rfl, trivial⟩) h
          · replace h := h.2 hb
            rw [hb] at hs
            clear hb
            refine t_no hs rfl rfl (by decide) ?_
            clear hs a
            intro a hs
            refine t_pure hs rfl rfl (by decide) (p_pick_f rfl rfl rfl) ?_
            clear hs a
            intro a hs
            refine t_pure hs rfl rfl (by decide) (p_move rfl rfl) ?_
            clear hs a
            intro a hs
            refine t_no hs rfl rfl (by decide) ?_
            clear hs a
            intro a hs
            refine t_no hs rfl rfl (by decide) ?_
            clear hs a
            intro a hs
            refine t_pure hs rfl rfl (by decide) (p_pick_f rfl rfl rfl) ?_
            clear hs a
            intro a hs
            exact J6 false wasPartitioned9_3 false _ _ (hs.to ⟨rfl, rfl, rfl, rfl, rfl, rfl, rfl, rfl, rfl, trivial⟩) h
        clear hK12
        refine wp_seq_k fun K29 hK29 => ?_
        refine wp_region_lit ?_
        refine t_pure hs rfl rfl (by decide) (p_move rfl rfl) ?_
        clear hs a
        intro a hs
        refine t_pure hs rfl rfl (by decide) (p_eq rfl rfl rfl) ?_
        clear hs a
        intro a hs
        refine hK29 _ _ ?_
        refine c_cond hs rfl (fun hb => ?_) (fun hb => ?_)
        · replace h := h.1 hb
          clear hb
          refine wp_seq_k fun K30 hK30 => ?_
          refine wp_region_lit ?_
          refine t_pure hs rfl rfl (by decide) (p_move rfl rfl) ?_
          clear hs a
          intro a hs
          refine t_pure hs rfl rfl (by decide) (p_move rfl rfl) ?_
          clear hs a
          intro a hs
          refine t_pure hs rfl rfl (by decide) (p_move rfl rfl) ?_
          clear hs a
          intro a hs
          refine t_call hs rfl rfl (by decide) (e_call rfl rfl rfl cb_113) h ?_
          clear hs a h
          intro v a w hk hs
          obtain ⟨rfl, h⟩ := hk
          refine hK30 _ _ ?_
          refine wp_seq_k fun K31 hK31 => ?_
          refine wp_region_lit ?_
          refine t_pure hs rfl rfl (by decide) (p_move rfl rfl) ?_
          clear hs a
          intro a hs
          obtain ⟨t56, he, h⟩ := h
          refine t_pure hs rfl rfl (by decide) (Pure.int he (p_sub rfl rfl rfl)) ?_
          clear hs a he
          intro a hs
          refine t_pure hs rfl rfl (by decide) (p_move rfl rfl) ?_
          clear hs a
          intro a hs
          refine t_pure hs rfl rfl (by decide) (p_move rfl rfl) ?_
          clear hs a
          intro a hs
          obtain ⟨t59, he, h⟩ := h
          refine t_pure hs rfl rfl (by decide) (Pure.int he (p_sub rfl rfl rfl)) ?_
          clear hs a he
          intro a hs
          obtain ⟨t60, he, h⟩ := h
          refine t_pure hs rfl rfl (by decide) (Pure.int he (p_sub rfl rfl rfl)) ?_
          clear hs a he
          intro a hs
          refine t_pure hs rfl rfl (by decide) (p_assign rfl rfl) ?_
          clear hs a
          intro a hs
          refine hK31 _ _ ?_
          refine wp_region_lit ?_
          refine t_pure hs rfl rfl (by decide) (p_assign rfl rfl) ?_
          clear hs a
          intro a hs
          exact J3 wasBalanced8_2 wasPartitioned9_2 t60 1 _ _ (hs.to ⟨rfl, rfl, rfl, rfl, rfl, rfl, rfl, rfl, rfl, trivial⟩) h
        · replace h := h.2 hb
          clear hb
          refine wp_skip ?_
          exact J3 wasBalanced8_2 wasPartitioned9_2 t46x0 t46x1 _ _ (hs.to ⟨rfl, rfl, rfl, rfl, rfl, rfl, rfl, rfl, rfl, trivial⟩) h
      clear hK10
      refine wp_seq_k fun K32 hK32 => ?_
      refine wp_region_lit ?_
      refine t_pure hs rfl rfl (by decide) (p_move rfl rfl) ?_
      clear hs a
      intro a hs
      refine t_pure hs rfl rfl (by decide) (p_not rfl rfl) ?_
      clear hs a
      intro a hs
      refine hK32 _ _ ?_
      refine c_cond hs rfl (fun hb => ?_) (fun hb => ?_)
      · replace h := h.1 hb
        clear hb
        refine wp_seq_k fun K33 hK33 => ?_
        refine wp_region_lit ?_
        refine t_pure hs rfl rfl (by decide) (p_move rfl rfl) ?_
        clear hs a
        intro a hs
        refine t_pure hs rfl rfl (by decide) (p_move rfl rfl) ?_
        clear hs a
        intro a hs
        refine t_pure hs rfl rfl (by decide) (p_move rfl rfl) ?_
        clear hs a
        intro a hs
        refine t_call hs rfl rfl (by decide) (e_call rfl rfl rfl cb_111) h ?_
        clear hs a h
        intro v a w hk hs
        obtain ⟨rfl, h⟩ := hk
        refine hK33 _ _ ?_
        refine wp_region_lit ?_
        refine t_pure hs rfl rfl (by decide) (p_move rfl rfl) ?_
        clear hs a
        intro a hs
        obtain ⟨t41, he, h⟩ := h
        refine t_pure hs rfl rfl (by decide) (Pure.int he (p_sub rfl rfl rfl)) ?_
        clear hs a he
        intro a hs
        refine t_pure hs rfl rfl (by decide) (p_assign rfl rfl) ?_
        clear hs a
        intro a hs
        exact J2 t41 wasBalanced8_1 wasPartitioned9_1 _ _ (hs.to ⟨rfl, rfl, rfl, rfl, rfl, rfl, rfl, trivial⟩) h
      · replace h := h.2 hb
        clear hb
        refine wp_skip ?_
        exact J2 limit3_1 wasBalanced8_1 wasPartitioned9_1 _ _ (hs.to ⟨rfl, rfl, rfl, rfl, rfl, rfl, rfl, trivial⟩) h
def slices_Chunk_s_byte_byte_1.b1 (Q : K)  (X1 : Int → K) (yield0_1 : Value) (t1_1 : Addr) (t2_1 : Addr) (i4_1 : Int) : K :=
  Ld t1_1 Sl.val fun t7 =>
  Ite (decide (i4_1 < (t7.n : Int)))
    (Dr <|
    Ld t2_1 (Value.int .i64) fun t13 =>
    Ld t1_1 Sl.val fun t14 =>
    Slc t14 i4_1 (t14.n : Int) (t14.c : Int) 1 fun t16 =>
    Ar (if ((t16.n : Int) : Int) < t13 then (t16.n : Int) else t13) fun t18 =>
    Ld t1_1 Sl.val fun t20 =>
    Ar (IntKind.wrap .i64 (i4_1 + t18)) fun t24 =>
    Ar (IntKind.wrap .i64 (i4_1 + t18)) fun t27 =>
    Slc t20 i4_1 t24 t27 1 fun t28 =>
    CallY Try.prog yield0_1 [(Sl.val t28)] <| Ans1 (fun (t29 : Bool) => Value.bool t29) fun t29 =>
    Ite (!t29)
      (Q)
      (Ld t2_1 (Value.int .i64) fun t11 =>
      Ar (IntKind.wrap .i64 (i4_1 + t11)) fun t12 =>
      X1 t12))
    (Q)
def slices_Chunk_s_byte_byte_1 (yield0 : Value) (t1 : Addr) (t2 : Addr) (Q : K) : K :=
  LoopK (α := Int) (fun X x => slices_Chunk_s_byte_byte_1.b1 Q X yield0 t1 t2 x) 0
theorem slices_Chunk_s_byte_byte_1_ok (yield0 : Value) (t1 : Addr) (t2 : Addr) (Q : K) (w : World) (h : slices_Chunk_s_byte_byte_1 yield0 t1 t2 Q w) : slices_Chunk_s_byte_byte_1.call yield0 t1 t2 Q w := by
  unfold slices_Chunk_s_byte_byte_1.call CallF
  refine fI_start (args := [yield0, (.pointer (some t1)), (.pointer (some t2))]) Try.func99 rfl (Nat.le_of_ble_eq_true rfl) ?_
  intro a hs
  unfold slices_Chunk_s_byte_byte_1 at h
  refine wpIn_seq_k fun K1 hK1 => ?_
  refine wpIn_region_lit ?_
  refine tI_pure free_wide hs rfl rfl (by decide) (fun _ h => by cases h) (p_assign rfl rfl) ?_
  clear hs a
  intro a hs
  refine hK1 _ _ ?_
  refine wpIn_block ?_
  obtain ⟨I1, μ1, h0, hr⟩ := h
  refine cI_loop (α := Int) I1 μ1 (fun x a => SlotsD [] a 31 [(0, yield0), (1, (.pointer (some t1))), (2, (.pointer (some t2))), (4, (.int .i64 x))]) 0 h0 (hs.to ⟨rfl, rfl, rfl, rfl, trivial⟩) ?_
  clear h0 hs a
  intro i4_1 a w hI hs
  have h : slices_Chunk_s_byte_byte_1.b1 Q (fun i4_1n w' => I1 i4_1n w' ∧ μ1 i4_1n w' < μ1 i4_1 w) yield0 t1 t2 i4_1 w := hr i4_1 w hI
  clear hr hI
  generalize hX1 : (fun i4_1n w' => I1 i4_1n w' ∧ μ1 i4_1n w' < μ1 i4_1 w) = X1 at h
  unfold slices_Chunk_s_byte_byte_1.b1 at h
  replace hs : SlotsD [] a 31 [(0, yield0), (1, (.pointer (some t1))), (2, (.pointer (some t2))), (4, (.int .i64 i4_1))] := hs
  refine wpIn_seq_k fun K2 hK2 => ?_
  refine wpIn_seq_k fun K3 hK3 => ?_
  refine wpIn_region_lit ?_
  refine tI_pure free_wide hs rfl rfl (by decide) (fun _ h => by cases h) (p_move rfl rfl) ?_
  clear hs a
  intro a hs
  obtain ⟨t7, hv, h⟩ := h
  refine tI_eff free_wide hs rfl rfl (by decide) (fun _ h => by cases h) (e_load rfl rfl ct_33 hv) ?_
  clear hs a hv
  intro a hs
  refine tI_pure free_wide hs rfl rfl (by decide) (fun _ h => by cases h) (p_len rfl rfl sl_33) ?_
  clear hs a
  intro a hs
  refine tI_pure free_wide hs rfl rfl (by decide) (fun _ h => by cases h) (p_lt rfl rfl rfl) ?_
  clear hs a
  intro a hs
  refine hK3 _ _ ?_
  refine cI_cond hs rfl (fun hb => ?_) (fun hb => ?_)
  · replace h := h.1 hb
    clear hb
    refine wpIn_skip ?_
    refine hK2 _ _ ?_
    refine wpIn_seq_k fun K4 hK4 => ?_
    refine wpIn_block ?_
    refine wpIn_seq_k fun K5 hK5 => ?_
    refine wpIn_wide.2 ?_
    replace hs := hs.nil
    obtain ⟨w1, hw1, h⟩ := h
    refine s_start mixed (by kernel_rfl) hw1 ?_
    clear hw1
    obtain ⟨t13, hv, h⟩ := h
    refine s_eff hs rfl rfl (by decide) (e_load rfl rfl ct_3 hv) ?_
    clear hs a hv
    intro a hs
    obtain ⟨t14, hv, h⟩ := h
    refine s_eff hs rfl rfl (by decide) (e_load rfl rfl ct_33 hv) ?_
    clear hs a hv
    intro a hs
    refine s_pure hs rfl rfl (by decide) (p_move rfl rfl) ?_
    clear hs a
    intro a hs
    obtain ⟨t16, h0, h1, h2, h3, he, h⟩ := h
    refine s_pure hs rfl rfl (by decide) (Pure.sl he (p_slc rfl rfl sl_33 ⟨_, rfl⟩ rfl rfl (by decide) h0 h1 h2 h3)) ?_
    clear hs a h0 h1 h2 h3 he
    intro a hs
    refine s_pure hs rfl rfl (by decide) (p_len rfl rfl sl_33) ?_
    clear hs a
    intro a hs
    obtain ⟨t18, he, h⟩ := h
    refine s_pure hs rfl rfl (by decide) (Pure.int he (p_min _ rfl rfl rfl)) ?_
    clear hs a he
    intro a hs
    refine s_pure hs rfl rfl (by decide) (p_assign rfl rfl) ?_
    clear hs a
    intro a hs
    replace hs := hs.D
    refine hK5 _ _ ?_
    refine wpIn_seq_k fun K6 hK6 => ?_
    refine wpIn_region_lit ?_
    refine tI_pure free_wide hs rfl rfl (by decide) (fun _ h => by cases h) (p_move rfl rfl) ?_
    clear hs a
    intro a hs
    obtain ⟨t20, hv, h⟩ := h
    refine tI_eff free_wide hs rfl rfl (by decide) (fun _ h => by cases h) (e_load rfl rfl ct_33 hv) ?_
    clear hs a hv
    intro a hs
    refine tI_pure free_wide hs rfl rfl (by decide) (fun _ h => by cases h) (p_move rfl rfl) ?_
    clear hs a
    intro a hs
    refine tI_pure free_wide hs rfl rfl (by decide) (fun _ h => by cases h) (p_move rfl rfl) ?_
    clear hs a
    intro a hs
    refine tI_pure free_wide hs rfl rfl (by decide) (fun _ h => by cases h) (p_move rfl rfl) ?_
    clear hs a
    intro a hs
    obtain ⟨t24, he, h⟩ := h
    refine tI_pure free_wide hs rfl rfl (by decide) (fun _ h => by cases h) (Pure.int he (p_add rfl rfl rfl)) ?_
    clear hs a he
    intro a hs
    refine tI_pure free_wide hs rfl rfl (by decide) (fun _ h => by cases h) (p_move rfl rfl) ?_
    clear hs a
    intro a hs
    refine tI_pure free_wide hs rfl rfl (by decide) (fun _ h => by cases h) (p_move rfl rfl) ?_
    clear hs a
    intro a hs
    replace hs := hs.to (τ := [(0, yield0), (1, (.pointer (some t1))), (2, (.pointer (some t2))), (4, (.int .i64 i4_1)), (19, yield0), (20, (Sl.val t20)), (21, (.int .i64 i4_1)), (24, (.int .i64 t24)), (25, (.int .i64 i4_1)), (26, (.int .i64 t18))]) ⟨rfl, rfl, rfl, rfl, rfl, rfl, rfl, rfl, rfl, rfl, trivial⟩
    obtain ⟨t27, he, h⟩ := h
    refine tI_pure free_wide hs rfl rfl (by decide) (fun _ h => by cases h) (Pure.int he (p_add rfl rfl rfl)) ?_
    clear hs a he
    intro a hs
    obtain ⟨t28, h0, h1, h2, h3, he, h⟩ := h
    refine tI_pure free_wide hs rfl rfl (by decide) (fun _ h => by cases h) (Pure.sl he (p_slc rfl rfl sl_33 ⟨_, rfl⟩ ⟨_, rfl⟩ ⟨_, rfl⟩ (by decide) h0 h1 h2 h3)) ?_
    clear hs a h0 h1 h2 h3 he
    intro a hs
    obtain ⟨l1, hg, h⟩ := h
    refine tI_yield hs rfl rfl (by decide) (fun _ h => by cases h) (e_yield rfl (congrArg some hg) rfl) h ?_
    clear hs a h hg
    intro v a w hk hs
    obtain ⟨t29, rfl, h⟩ := hk
    refine tI_pure free_wide hs rfl rfl (by decide) (fun _ h => by cases h) (p_not rfl rfl) ?_
    clear hs a
    intro a hs
    refine hK6 _ _ ?_
    refine cI_cond hs rfl (fun hb => ?_) (fun hb => ?_)
    · replace h := h.1 hb
      clear hb
      refine wpIn_ret ?_
      refine fI_ret (fn := Try.f99) hs (fun a hs => r_many hs (rs := []) (vs := []) rfl (by decide) trivial) ⟨rfl, h⟩
    · replace h := h.2 hb
      clear hb
      refine wpIn_skip ?_
      refine hK4 _ _ ?_
      refine wpIn_region_lit ?_
      refine tI_pure free_wide hs rfl rfl (by decide) (fun _ h => by cases h) (p_move rfl rfl) ?_
      clear hs a
      intro a hs
      obtain ⟨t11, hv, h⟩ := h
      refine tI_eff free_wide hs rfl rfl (by decide) (fun _ h => by cases h) (e_load rfl rfl ct_3 hv) ?_
      clear hs a hv
      intro a hs
      obtain ⟨t12, he, h⟩ := h
      refine tI_pure free_wide hs rfl rfl (by decide) (fun _ h => by cases h) (Pure.int he (p_add rfl rfl rfl)) ?_
      clear hs a he
      intro a hs
      refine tI_pure free_wide hs rfl rfl (by decide) (fun _ h => by cases h) (p_assign rfl rfl) ?_
      clear hs a
      intro a hs
      rw [← hX1] at h
      exact ⟨t12, hs.to ⟨rfl, rfl, rfl, rfl, trivial⟩, h⟩
  · replace h := h.2 hb
    clear hb
    refine wpIn_exit ?_
    refine fI_end (fn := Try.f99) hs (fun a hs => r_many hs (rs := []) (vs := []) rfl (by decide) trivial) ⟨rfl, h⟩
def slices_Delete_s_btree_item_string_api_Record_btree_item_string_api_Record (s0 : Sl) (i1 : Int) (j2 : Int) (Q : Sl → K) : K :=
  Slc s0 i1 j2 (s0.n : Int) 5 fun t13 =>
  Ite (decide (i1 = j2))
    (Q s0)
    (Dr <|
    Slc s0 0 i1 (s0.c : Int) 5 fun t22 =>
    Slc s0 j2 (s0.n : Int) (s0.c : Int) 5 fun t25 =>
    Do Try.prog (Builtin.append_ #[124, 124] 124 #[(Sl.val t22), (Sl.val t25)]) Sl.val fun t26 =>
    Slc t26 (t26.n : Int) (s0.n : Int) (t26.c : Int) 5 fun t31 =>
    Do Try.prog (Builtin.clear_ #[124] 0 #[(Sl.val t31)]) id fun _ =>
    Q t26)
theorem slices_Delete_s_btree_item_string_api_Record_btree_item_string_api_Record_ok (s0 : Sl) (i1 : Int) (j2 : Int) (Q : Sl → K) (w : World) (h : slices_Delete_s_btree_item_string_api_Record_btree_item_string_api_Record s0 i1 j2 Q w) : slices_Delete_s_btree_item_string_api_Record_btree_item_string_api_Record.call s0 i1 j2 Q w := by
  unfold slices_Delete_s_btree_item_string_api_Record_btree_item_string_api_Record.call CallF
  refine f_start (args := [(Sl.val s0), (.int .i64 i1), (.int .i64 j2)]) Try.func102 rfl (Nat.le_of_ble_eq_true rfl) ?_
  intro a hs
  unfold slices_Delete_s_btree_item_string_api_Record_btree_item_string_api_Record at h
  refine wp_seq_k fun K1 hK1 => ?_
  refine wp_region_lit ?_
  refine t_pure hs rfl rfl (by decide) (p_assign rfl rfl) ?_
  clear hs a
  intro a hs
  refine hK1 _ _ ?_
  refine wp_seq_k fun K2 hK2 => ?_
  refine wp_region_lit ?_
  refine t_pure hs rfl rfl (by decide) (p_move rfl rfl) ?_
  clear hs a
  intro a hs
  refine t_pure hs rfl rfl (by decide) (p_move rfl rfl) ?_
  clear hs a
  intro a hs
  refine t_pure hs rfl rfl (by decide) (p_move rfl rfl) ?_
  clear hs a
  intro a hs
  refine t_pure hs rfl rfl (by decide) (p_move rfl rfl) ?_
  clear hs a
  intro a hs
  refine t_pure hs rfl rfl (by decide) (p_len rfl rfl sl_124) ?_
  clear hs a
  intro a hs
  obtain ⟨t13, h0, h1, h2, h3, he, h⟩ := h
  refine t_pure hs rfl rfl (by decide) (Pure.sl he (p_slc rfl rfl sl_124 ⟨_, rfl⟩ ⟨_, rfl⟩ ⟨_, rfl⟩ (by decide) h0 h1 h2 h3)) ?_
  clear hs a h0 h1 h2 h3 he
  intro a hs
  refine hK2 _ _ ?_
  refine wp_seq_k fun K3 hK3 => ?_
  refine wp_seq_k fun K4 hK4 => ?_
  refine wp_region_lit ?_
  refine t_pure hs rfl rfl (by decide) (p_move rfl rfl) ?_
  clear hs a
  intro a hs
  refine t_pure hs rfl rfl (by decide) (p_move rfl rfl) ?_
  clear hs a
  intro a hs
  refine t_pure hs rfl rfl (by decide) (p_eq rfl rfl rfl) ?_
  clear hs a
  intro a hs
  refine hK4 _ _ ?_
  refine c_cond hs rfl (fun hb => ?_) (fun hb => ?_)
  · replace h := h.1 hb
    clear hb
    refine wp_seq_k fun K5 hK5 => ?_
    refine wp_region_lit ?_
    refine t_pure hs rfl rfl (by decide) (p_move rfl rfl) ?_
    clear hs a
    intro a hs
    refine t_pure hs rfl rfl (by decide) (p_assign rfl rfl) ?_
    clear hs a
    intro a hs
    refine hK5 _ _ ?_
    refine wp_ret ?_
    refine f_ret (fn := Try.f102) hs (fun a hs => r_one hs rfl (rfl)) ⟨s0, rfl, h⟩
  · replace h := h.2 hb
    clear hb
    refine wp_skip ?_
    refine hK3 _ _ ?_
    refine wp_seq_k fun K6 hK6 => ?_
    refine wp_region_lit ?_
    refine t_pure hs rfl rfl (by decide) (p_move rfl rfl) ?_
    clear hs a
    intro a hs
    refine t_pure hs rfl rfl (by decide) (p_len rfl rfl sl_124) ?_
    clear hs a
    intro a hs
    refine t_pure hs rfl rfl (by decide) (p_assign rfl rfl) ?_
    clear hs a
    intro a hs
    refine hK6 _ _ ?_
    refine wp_seq_k fun K7 hK7 => ?_
    obtain ⟨w1, hw1, h⟩ := h
    refine d_start (S := Any) (ds := []) #[false, false, false, false, false, false, false, false] mixed rfl rfl ?_
    rw [← hw1]
    have hS := Any.intro w1
    clear hw1
    refine d_pure hs #[true, false, false, false, false, false, false, false] (i := 0) rfl rfl rfl (by decide) (by kernel_rfl) (tight_body (P := Try.prog) (fn := Try.f102)) (p_move rfl rfl) ?_
    clear hs a
    intro a hs
    refine d_pure hs #[true, true, false, false, false, false, false, false] (i := 1) rfl rfl rfl (by decide) (by kernel_rfl) (tight_body (P := Try.prog) (fn := Try.f102)) (p_move rfl rfl) ?_
    clear hs a
    intro a hs
    obtain ⟨t22, h0, h1, h2, h3, he, h⟩ := h
    refine d_pure hs #[true, true, true, false, false, false, false, false] (i := 2) rfl rfl rfl (by decide) (by kernel_rfl) (tight_body (P := Try.prog) (fn := Try.f102)) (Pure.sl he (p_slc rfl rfl sl_124 rfl ⟨_, rfl⟩ rfl (by decide) h0 h1 h2 h3)) ?_
    clear hs a h0 h1 h2 h3 he
    intro a hs
    refine d_pure hs #[true, true, true, true, false, false, false, false] (i := 3) rfl rfl rfl (by decide) (by kernel_rfl) (tight_body (P := Try.prog) (fn := Try.f102)) (p_move rfl rfl) ?_
    clear hs a
    intro a hs
    refine d_pure hs #[true, true, true, true, true, false, false, false] (i := 4) rfl rfl rfl (by decide) (by kernel_rfl) (tight_body (P := Try.prog) (fn := Try.f102)) (p_move rfl rfl) ?_
    clear hs a
    intro a hs
    obtain ⟨t25, h0, h1, h2, h3, he, h⟩ := h
    refine d_pure hs #[true, true, true, true, true, true, false, false] (i := 5) rfl rfl rfl (by decide) (by kernel_rfl) (tight_body (P := Try.prog) (fn := Try.f102)) (Pure.sl he (p_slc rfl rfl sl_124 ⟨_, rfl⟩ rfl rfl (by decide) h0 h1 h2 h3)) ?_
    clear hs a h0 h1 h2 h3 he
    intro a hs
    refine d_all [6] (by kernel_rfl) (by decide) ?_
    refine AllS.cons ?_ AllS.nil
    obtain ⟨t26, w1, hd, h⟩ := h
    refine d_eff hs #[true, true, true, true, true, true, true, false] (i := 6) rfl rfl rfl (by decide) rfl (e_append rfl rfl rfl rfl hd) (fun _ _ => Any.intro _) ?_
    clear hs a hd
    intro a hs
    refine d_pure hs #[true, true, true, true, true, true, true, true] (i := 7) rfl rfl rfl (by decide) (by kernel_rfl) (tight_body (P := Try.prog) (fn := Try.f102)) (p_assign rfl rfl) ?_
    clear hs a
    intro a hs
    replace hs := hs.to (τ := [(0, (Sl.val t26)), (7, (.int .i64 (s0.n : Int)))]) ⟨rfl, rfl, trivial⟩
    refine d_done (by kernel_rfl) ?_ _
    clear hS
    refine hK7 _ _ ?_
    refine wp_seq_k fun K8 hK8 => ?_
    refine wp_region_lit ?_
    refine t_pure hs rfl rfl (by decide) (p_move rfl rfl) ?_
    clear hs a
    intro a hs
    refine t_pure hs rfl rfl (by decide) (p_move rfl rfl) ?_
    clear hs a
    intro a hs
    refine t_pure hs rfl rfl (by decide) (p_len rfl rfl sl_124) ?_
    clear hs a
    intro a hs
    refine t_pure hs rfl rfl (by decide) (p_move rfl rfl) ?_
    clear hs a
    intro a hs
    obtain ⟨t31, h0, h1, h2, h3, he, h⟩ := h
    refine t_pure hs rfl rfl (by decide) (Pure.sl he (p_slc rfl rfl sl_124 ⟨_, rfl⟩ ⟨_, rfl⟩ rfl (by decide) h0 h1 h2 h3)) ?_
    clear hs a h0 h1 h2 h3 he
    intro a hs
    obtain ⟨u1, w1, hd, h⟩ := h
    refine t_none hs rfl rfl (e_clear rfl rfl rfl hd) ?_
    clear hs a hd
    intro a hs
    refine hK8 _ _ ?_
    refine wp_seq_k fun K9 hK9 => ?_
    refine wp_region_lit ?_
    refine t_pure hs rfl rfl (by decide) (p_move rfl rfl) ?_
    clear hs a
    intro a hs
    refine t_pure hs rfl rfl (by decide) (p_assign rfl rfl) ?_
    clear hs a
    intro a hs
    refine hK9 _ _ ?_
    refine wp_ret ?_
    refine f_ret (fn := Try.f102) hs (fun a hs => r_one hs rfl (rfl)) ⟨t26, rfl, h⟩
def slices_Clone_s_btree_item_string_api_Record_btree_item_string_api_Record (s0 : Sl) (Q : Sl → K) : K :=
  Ite ((s0).a.isNone)
    (Q (Sl.mk none 0 0))
    (New 133 #[] fun t5 =>
    Do Try.prog (Builtin.append_ #[124, 124] 124 #[(Sl.val (Sl.mk (some t5) 0 0)), (Sl.val s0)]) Sl.val fun t7 =>
    Q t7)
theorem slices_Clone_s_btree_item_string_api_Record_btree_item_string_api_Record_ok (s0 : Sl) (Q : Sl → K) (w : World) (h : slices_Clone_s_btree_item_string_api_Record_btree_item_string_api_Record s0 Q w) : slices_Clone_s_btree_item_string_api_Record_btree_item_string_api_Record.call s0 Q w := by
  unfold slices_Clone_s_btree_item_string_api_Record_btree_item_string_api_Record.call CallF
  refine f_start (args := [(Sl.val s0)]) Try.func107 rfl (Nat.le_of_ble_eq_true rfl) ?_
  intro a hs
  unfold slices_Clone_s_btree_item_string_api_Record_btree_item_string_api_Record at h
  refine wp_seq_k fun K1 hK1 => ?_
  refine wp_region_lit ?_
  refine t_pure hs rfl rfl (by decide) (p_assign rfl rfl) ?_
  clear hs a
  intro a hs
  refine hK1 _ _ ?_
  refine wp_seq_k fun K2 hK2 => ?_
  refine wp_seq_k fun K3 hK3 => ?_
  refine wp_region_lit ?_
  refine t_pure hs rfl rfl (by decide) (p_move rfl rfl) ?_
  clear hs a
  intro a hs
  refine t_pure hs rfl rfl (by decide) (p_eq_sl rfl rfl rfl Try.underlying124) ?_
  clear hs a
  intro a hs
  refine hK3 _ _ ?_
  refine c_cond hs rfl (fun hb => ?_) (fun hb => ?_)
  · replace h := h.1 hb
    clear hb
    refine wp_seq_k fun K4 hK4 => ?_
    refine wp_region_lit ?_
    refine t_pure hs rfl rfl (by decide) (p_assign rfl rfl) ?_
    clear hs a
    intro a hs
    refine hK4 _ _ ?_
    refine wp_ret ?_
    refine f_ret (fn := Try.f107) hs (fun a hs => r_one hs rfl (rfl)) ⟨(Sl.mk none 0 0), rfl, h⟩
  · replace h := h.2 hb
    clear hb
    refine wp_skip ?_
    refine hK2 _ _ ?_
    refine wp_seq_k fun K5 hK5 => ?_
    refine wp_region_lit ?_
    obtain ⟨t5, w1, ha, hw, h⟩ := h
    refine t_eff hs rfl rfl (by decide) (e_buildSlice (z := #[]) (cs := #[]) rfl sl_124 zt_133 (by decide) rfl rz_133_0 (by rfl) ha hw) ?_
    clear hs a ha hw
    intro a hs
    refine t_pure hs rfl rfl (by decide) (p_move rfl rfl) ?_
    clear hs a
    intro a hs
    obtain ⟨t7, w1, hd, h⟩ := h
    refine t_eff hs rfl rfl (by decide) (e_append rfl rfl rfl rfl hd) ?_
    clear hs a hd
    intro a hs
    refine t_pure hs rfl rfl (by decide) (p_assign rfl rfl) ?_
    clear hs a
    intro a hs
    refine hK5 _ _ ?_
    refine wp_ret ?_
    refine f_ret (fn := Try.f107) hs (fun a hs => r_one hs rfl (rfl)) ⟨t7, rfl, h⟩
def slices_Clone_s_btree_node_string_api_Record_btree_node_string_api_Record (s0 : Sl) (Q : Sl → K) : K :=
  Ite ((s0).a.isNone)
    (Q (Sl.mk none 0 0))
    (New 123 #[] fun t5 =>
    Do Try.prog (Builtin.append_ #[125, 125] 125 #[(Sl.val (Sl.mk (some t5) 0 0)), (Sl.val s0)]) Sl.val fun t7 =>
    Q t7)
theorem slices_Clone_s_btree_node_string_api_Record_btree_node_string_api_Record_ok (s0 : Sl) (Q : Sl → K) (w : World) (h : slices_Clone_s_btree_node_string_api_Record_btree_node_string_api_Record s0 Q w) : slices_Clone_s_btree_node_string_api_Record_btree_node_string_api_Record.call s0 Q w := by
  unfold slices_Clone_s_btree_node_string_api_Record_btree_node_string_api_Record.call CallF
  refine f_start (args := [(Sl.val s0)]) Try.func108 rfl (Nat.le_of_ble_eq_true rfl) ?_
  intro a hs
  unfold slices_Clone_s_btree_node_string_api_Record_btree_node_string_api_Record at h
  refine wp_seq_k fun K1 hK1 => ?_
  refine wp_region_lit ?_
  refine t_pure hs rfl rfl (by decide) (p_assign rfl rfl) ?_
  clear hs a
  intro a hs
  refine hK1 _ _ ?_
  refine wp_seq_k fun K2 hK2 => ?_
  refine wp_seq_k fun K3 hK3 => ?_
  refine wp_region_lit ?_
  refine t_pure hs rfl rfl (by decide) (p_move rfl rfl) ?_
  clear hs a
  intro a hs
  refine t_pure hs rfl rfl (by decide) (p_eq_sl rfl rfl rfl Try.underlying125) ?_
  clear hs a
  intro a hs
  refine hK3 _ _ ?_
  refine c_cond hs rfl (fun hb => ?_) (fun hb => ?_)
  · replace h := h.1 hb
    clear hb
    refine wp_seq_k fun K4 hK4 => ?_
    refine wp_region_lit ?_
    refine t_pure hs rfl rfl (by decide) (p_assign rfl rfl) ?_
    clear hs a
    intro a hs
    refine hK4 _ _ ?_
    refine wp_ret ?_
    refine f_ret (fn := Try.f108) hs (fun a hs => r_one hs rfl (rfl)) ⟨(Sl.mk none 0 0), rfl, h⟩
  · replace h := h.2 hb
    clear hb
    refine wp_skip ?_
    refine hK2 _ _ ?_
    refine wp_seq_k fun K5 hK5 => ?_
    refine wp_region_lit ?_
    obtain ⟨t5, w1, ha, hw, h⟩ := h
    refine t_eff hs rfl rfl (by decide) (e_buildSlice (z := #[]) (cs := #[]) rfl sl_125 zt_123 (by decide) rfl rz_123_0 (by rfl) ha hw) ?_
    clear hs a ha hw
    intro a hs
    refine t_pure hs rfl rfl (by decide) (p_move rfl rfl) ?_
    clear hs a
    intro a hs
    obtain ⟨t7, w1, hd, h⟩ := h
    refine t_eff hs rfl rfl (by decide) (e_append rfl rfl rfl rfl hd) ?_
    clear hs a hd
    intro a hs
    refine t_pure hs rfl rfl (by decide) (p_assign rfl rfl) ?_
    clear hs a
    intro a hs
    refine hK5 _ _ ?_
    refine wp_ret ?_
    refine f_ret (fn := Try.f108) hs (fun a hs => r_one hs rfl (rfl)) ⟨t7, rfl, h⟩
def slices_insertionSortOrdered_string.s3 (Q : K) (X1 : Int → K) (X2 : Int → K) (data0_3 : Sl) (a1_3 : Int) (b2_3 : Int) (i6_3 : Int) (j7_3 : Int) (t30_3 : Bool) : K :=
  Ite t30_3
    (Dr <|
    Ar (IntKind.wrap .i64 (j7_3 - 1)) fun t37 =>
    Ar (IntKind.wrap .i64 (j7_3 - 1)) fun t40 =>
    Idx data0_3 t40 1 fun t41 =>
    Idx data0_3 j7_3 1 fun t45 =>
    Ld t41 Value.string fun t42 =>
    Ld t45 Value.string fun t46 =>
    Idx data0_3 j7_3 1 fun t47 =>
    St t47 (.string t42) <|
    Idx data0_3 t37 1 fun t48 =>
    St t48 (.string t46) <|
    Ar (IntKind.wrap .i64 (j7_3 - 1)) fun t32 =>
    X2 t32)
    (Ar (IntKind.wrap .i64 (i6_3 + 1)) fun t14 =>
    X1 t14)
def slices_insertionSortOrdered_string.b2 (Q : K) (X1 : Int → K) (X2 : Int → K) (data0_2 : Sl) (a1_2 : Int) (b2_2 : Int) (i6_2 : Int) (j7_2 : Int) : K :=
  Dr <|
  Ite (decide (a1_2 < j7_2))
    (Idx data0_2 j7_2 1 fun t22 =>
    Ar (IntKind.wrap .i64 (j7_2 - 1)) fun t26 =>
    Idx data0_2 t26 1 fun t27 =>
    Ld t22 Value.string fun t23 =>
    Ld t27 Value.string fun t28 =>
    cmp_Less_string.call t23 t28 fun t29 =>
    slices_insertionSortOrdered_string.s3 Q X1 X2 data0_2 a1_2 b2_2 i6_2 j7_2 t29)
    (slices_insertionSortOrdered_string.s3 Q X1 X2 data0_2 a1_2 b2_2 i6_2 j7_2 false)
def slices_insertionSortOrdered_string.b1 (Q : K)  (X1 : Int → K) (data0_1 : Sl) (a1_1 : Int) (b2_1 : Int) (i6_1 : Int) : K :=
  Ite (decide (i6_1 < b2_1))
    (LoopK (α := Int) (fun X x => slices_insertionSortOrdered_string.b2 Q X1 X data0_1 a1_1 b2_1 i6_1 x) i6_1)
    (Q)
def slices_insertionSortOrdered_string (data0 : Sl) (a1 : Int) (b2 : Int) (Q : K) : K :=
  Ar (IntKind.wrap .i64 (a1 + 1)) fun t9 =>
  LoopK (α := Int) (fun X x => slices_insertionSortOrdered_string.b1 Q X data0 a1 b2 x) t9
theorem slices_insertionSortOrdered_string_ok (data0 : Sl) (a1 : Int) (b2 : Int) (Q : K) (w : World) (h : slices_insertionSortOrdered_string data0 a1 b2 Q w) : slices_insertionSortOrdered_string.call data0 a1 b2 Q w := by
  unfold slices_insertionSortOrdered_string.call CallF
  refine f_start (args := [(Sl.val data0), (.int .i64 a1), (.int .i64 b2)]) Try.func109 rfl (Nat.le_of_ble_eq_true rfl) ?_
  intro a hs
  unfold slices_insertionSortOrdered_string at h
  refine wp_seq_k fun K1 hK1 => ?_
  refine wp_region_lit ?_
  refine t_pure hs rfl rfl (by decide) (p_move rfl rfl) ?_
  clear hs a
  intro a hs
  obtain ⟨t9, he, h⟩ := h
  refine t_pure hs rfl rfl (by decide) (Pure.int he (p_add rfl rfl rfl)) ?_
  clear hs a he
  intro a hs
  refine t_pure hs rfl rfl (by decide) (p_assign rfl rfl) ?_
  clear hs a
  intro a hs
  refine hK1 _ _ ?_
  refine wp_block ?_
  obtain ⟨I1, μ1, h0, hr⟩ := h
  refine c_loop (α := Int) I1 μ1 (fun x a => Slots a 49 [(0, (Sl.val data0)), (1, (.int .i64 a1)), (2, (.int .i64 b2)), (6, (.int .i64 x))]) t9 h0 (hs.to ⟨rfl, rfl, rfl, rfl, trivial⟩) ?_
  clear h0 hs a
  intro i6_1 a w hI hs
  have h : slices_insertionSortOrdered_string.b1 Q (fun i6_1n w' => I1 i6_1n w' ∧ μ1 i6_1n w' < μ1 i6_1 w) data0 a1 b2 i6_1 w := hr i6_1 w hI
  clear hr hI
  generalize hX1 : (fun i6_1n w' => I1 i6_1n w' ∧ μ1 i6_1n w' < μ1 i6_1 w) = X1 at h
  unfold slices_insertionSortOrdered_string.b1 at h
  replace hs : Slots a 49 [(0, (Sl.val data0)), (1, (.int .i64 a1)), (2, (.int .i64 b2)), (6, (.int .i64 i6_1))] := hs
  refine wp_seq_k fun K2 hK2 => ?_
  refine wp_seq_k fun K3 hK3 => ?_
  refine wp_region_lit ?_
  refine t_pure hs rfl rfl (by decide) (p_move rfl rfl) ?_
  clear hs a
  intro a hs
  refine t_pure hs rfl rfl (by decide) (p_move rfl rfl) ?_
  clear hs a
  intro a hs
  refine t_pure hs rfl rfl (by decide) (p_lt rfl rfl rfl) ?_
  clear hs a
  intro a hs
  refine hK3 _ _ ?_
  refine c_cond hs rfl (fun hb => ?_) (fun hb => ?_)
  · replace h := h.1 hb
    clear hb
    refine wp_skip ?_
    refine hK2 _ _ ?_
    refine wp_seq_k fun K4 hK4 => ?_
    refine wp_block ?_
    refine wp_seq_k fun K5 hK5 => ?_
    refine wp_region_lit ?_
    refine t_pure hs rfl rfl (by decide) (p_move rfl rfl) ?_
    clear hs a
    intro a hs
    refine t_pure hs rfl rfl (by decide) (p_assign rfl rfl) ?_
    clear hs a
    intro a hs
    refine hK5 _ _ ?_
    refine wp_block ?_
    obtain ⟨I2, μ2, h0, hr⟩ := h
    refine c_loop (α := Int) I2 μ2 (fun x a => Slots a 49 [(0, (Sl.val data0)), (1, (.int .i64 a1)), (2, (.int .i64 b2)), (6, (.int .i64 i6_1)), (7, (.int .i64 x))]) i6_1 h0 (hs.to ⟨rfl, rfl, rfl, rfl, rfl, trivial⟩) ?_
    clear h0 hs a
    intro j7_2 a w hI hs
    have h : slices_insertionSortOrdered_string.b2 Q X1 (fun j7_2n w' => I2 j7_2n w' ∧ μ2 j7_2n w' < μ2 j7_2 w) data0 a1 b2 i6_1 j7_2 w := hr j7_2 w hI
    clear hr hI
    generalize hX2 : (fun j7_2n w' => I2 j7_2n w' ∧ μ2 j7_2n w' < μ2 j7_2 w) = X2 at h
    unfold slices_insertionSortOrdered_string.b2 at h
    replace hs : Slots a 49 [(0, (Sl.val data0)), (1, (.int .i64 a1)), (2, (.int .i64 b2)), (6, (.int .i64 i6_1)), (7, (.int .i64 j7_2))] := hs
    refine wp_seq_k fun K6 hK6 => ?_
    refine wp_seq_k fun K7 hK7 => ?_
    have J3 : ∀ (t30_3 : Bool) (a : Act) (w : World), Slots a 49 [(0, (Sl.val data0)), (1, (.int .i64 a1)), (2, (.int .i64 b2)), (6, (.int .i64 i6_1)), (7, (.int .i64 j7_2)), (30, (.bool t30_3))] → slices_insertionSortOrdered_string.s3 Q X1 X2 data0 a1 b2 i6_1 j7_2 t30_3 w → K7 a w := by
      clear h hs
      intro t30_3 a w hs h
      refine hK7 _ _ ?_
      unfold slices_insertionSortOrdered_string.s3 at h
      refine c_cond hs rfl (fun hb => ?_) (fun hb => ?_)
      · replace h := h.1 hb
        clear hb
        refine wp_skip ?_
        refine hK6 _ _ ?_
        refine wp_seq_k fun K8 hK8 => ?_
        refine wp_block ?_
        obtain ⟨w1, hw1, h⟩ := h
        refine d_start (S := Is w1) (ds := [15, 17]) #[false, false, false, false, false, false, false, false, false, false, false, false, false, false, false, false, false, false] mixed rfl rfl ?_
        rw [← hw1]
        have hS := Is.intro w1
        clear hw1
        refine d_pure hs #[true, false, false, false, false, false, false, false, false, false, false, false, false, false, false, false, false, false] (i := 0) rfl rfl rfl (by decide) (by kernel_rfl) (tight_body (P := Try.prog) (fn := Try.f109)) (p_move rfl rfl) ?_
        clear hs a
        intro a hs
        refine d_pure hs #[true, true, false, false, false, false, false, false, false, false, false, false, false, false, false, false, false, false] (i := 1) rfl rfl rfl (by decide) (by kernel_rfl) (tight_body (P := Try.prog) (fn := Try.f109)) (p_move rfl rfl) ?_
        clear hs a
        intro a hs
        refine d_pure hs #[true, true, true, false, false, false, false, false, false, false, false, false, false, false, false, false, false, false] (i := 2) rfl rfl rfl (by decide) (by kernel_rfl) (tight_body (P := Try.prog) (fn := Try.f109)) (p_move rfl rfl) ?_
        clear hs a
        intro a hs
        refine d_pure hs #[true, true, true, true, false, false, false, false, false, false, false, false, false, false, false, false, false, false] (i := 3) rfl rfl rfl (by decide) (by kernel_rfl) (tight_body (P := Try.prog) (fn := Try.f109)) (p_move rfl rfl) ?_
        clear hs a
        intro a hs
        obtain ⟨t37, he, h⟩ := h
        refine d_pure hs #[true, true, true, true, true, false, false, false, false, false, false, false, false, false, false, false, false, false] (i := 4) rfl rfl rfl (by decide) (by kernel_rfl) (tight_body (P := Try.prog) (fn := Try.f109)) (Pure.int he (p_sub rfl rfl rfl)) ?_
        clear hs a he
        intro a hs
        refine d_pure hs #[true, true, true, true, true, true, false, false, false, false, false, false, false, false, false, false, false, false] (i := 5) rfl rfl rfl (by decide) (by kernel_rfl) (tight_body (P := Try.prog) (fn := Try.f109)) (p_move rfl rfl) ?_
        clear hs a
        intro a hs
        refine d_pure hs #[true, true, true, true, true, true, true, false, false, false, false, false, false, false, false, false, false, false] (i := 6) rfl rfl rfl (by decide) (by kernel_rfl) (tight_body (P := Try.prog) (fn := Try.f109)) (p_move rfl rfl) ?_
        clear hs a
        intro a hs
        obtain ⟨t40, he, h⟩ := h
        refine d_pure hs #[true, true, true, true, true, true, true, true, false, false, false, false, false, false, false, false, false, false] (i := 7) rfl rfl rfl (by decide) (by kernel_rfl) (tight_body (P := Try.prog) (fn := Try.f109)) (Pure.int he (p_sub rfl rfl rfl)) ?_
        clear hs a he
        intro a hs
        replace hs := hs.to (τ := [(0, (Sl.val data0)), (1, (.int .i64 a1)), (2, (.int .i64 b2)), (6, (.int .i64 i6_1)), (7, (.int .i64 j7_2)), (33, (Sl.val data0)), (34, (.int .i64 j7_2)), (35, (Sl.val data0)), (37, (.int .i64 t37)), (38, (Sl.val data0)), (40, (.int .i64 t40))]) ⟨rfl, rfl, rfl, rfl, rfl, rfl, rfl, rfl, rfl, rfl, rfl, trivial⟩
        obtain ⟨qt41, t41, ha, h0, h1, he, h⟩ := h
        refine d_pure hs #[true, true, true, true, true, true, true, true, true, false, false, false, false, false, false, false, false, false] (i := 8) rfl rfl rfl (by decide) (by kernel_rfl) (tight_body (P := Try.prog) (fn := Try.f109)) (Pure.adr he (p_idx rfl rfl rfl sl_59 ha h0 h1)) ?_
        clear hs a ha h0 h1 he
        intro a hs
        refine d_pure hs #[true, true, true, true, true, true, true, true, true, false, true, false, false, false, false, false, false, false] (i := 10) rfl rfl rfl (by decide) (by kernel_rfl) (tight_body (P := Try.prog) (fn := Try.f109)) (p_move rfl rfl) ?_
        clear hs a
        intro a hs
        refine d_pure hs #[true, true, true, true, true, true, true, true, true, false, true, true, false, false, false, false, false, false] (i := 11) rfl rfl rfl (by decide) (by kernel_rfl) (tight_body (P := Try.prog) (fn := Try.f109)) (p_move rfl rfl) ?_
        clear hs a
        intro a hs
        obtain ⟨qt45, t45, ha, h0, h1, he, h⟩ := h
        refine d_pure hs #[true, true, true, true, true, true, true, true, true, false, true, true, true, false, false, false, false, false] (i := 12) rfl rfl rfl (by decide) (by kernel_rfl) (tight_body (P := Try.prog) (fn := Try.f109)) (Pure.adr he (p_idx rfl rfl rfl sl_59 ha h0 h1)) ?_
        clear hs a ha h0 h1 he
        intro a hs
        obtain ⟨t42, hv, h⟩ := h
        refine d_read hs #[true, true, true, true, true, true, true, true, true, true, true, true, true, false, false, false, false, false] (i := 9) rfl rfl rfl (by decide) (by kernel_rfl) (by kernel_rfl) (tight_body (P := Try.prog) (fn := Try.f109)) hS (fun w h' => by have h1 := h'.out; subst h1; exact e_load rfl rfl ct_9 hv) ?_
        clear hs a hv
        intro a hs
        obtain ⟨t46, hv, h⟩ := h
        refine d_read hs #[true, true, true, true, true, true, true, true, true, true, true, true, true, true, false, false, false, false] (i := 13) rfl rfl rfl (by decide) (by kernel_rfl) (by kernel_rfl) (tight_body (P := Try.prog) (fn := Try.f109)) hS (fun w h' => by have h1 := h'.out; subst h1; exact e_load rfl rfl ct_9 hv) ?_
        clear hs a hv
        intro a hs
        obtain ⟨qt47, t47, ha, h0, h1, he, h⟩ := h
        refine d_pure hs #[true, true, true, true, true, true, true, true, true, true, true, true, true, true, true, false, false, false] (i := 14) rfl rfl rfl (by decide) (by kernel_rfl) (tight_body (P := Try.prog) (fn := Try.f109)) (Pure.adr he (p_idx rfl rfl rfl sl_59 ha h0 h1)) ?_
        clear hs a ha h0 h1 he
        intro a hs
        refine d_all [15] (by kernel_rfl) (by decide) ?_
        refine AllS.cons ?_ AllS.nil
        obtain ⟨w1, hw, hc, hf, hv, h⟩ := h
        refine d_skip hs #[true, true, true, true, true, true, true, true, true, true, true, true, true, true, true, true, false, false] (i := 15) rfl rfl rfl rfl (e_store rfl rfl rfl sz_9 hw hc hf hv) (fun hn => (hn (by decide)).elim) ?_
        clear hs a hw hc hf hv
        intro a hs
        replace hs := hs.to (τ := [(0, (Sl.val data0)), (1, (.int .i64 a1)), (2, (.int .i64 b2)), (6, (.int .i64 i6_1)), (7, (.int .i64 j7_2)), (35, (Sl.val data0)), (37, (.int .i64 t37)), (46, (.string t46))]) ⟨rfl, rfl, rfl, rfl, rfl, rfl, rfl, rfl, trivial⟩
        obtain ⟨qt48, t48, ha, h0, h1, he, h⟩ := h
        refine d_pure hs #[true, true, true, true, true, true, true, true, true, true, true, true, true, true, true, true, true, false] (i := 16) rfl rfl rfl (by decide) (by kernel_rfl) (tight_body (P := Try.prog) (fn := Try.f109)) (Pure.adr he (p_idx rfl rfl rfl sl_59 ha h0 h1)) ?_
        clear hs a ha h0 h1 he
        intro a hs
        refine d_all [17] (by kernel_rfl) (by decide) ?_
        refine AllS.cons ?_ AllS.nil
        obtain ⟨w1, hw, hc, hf, hv, h⟩ := h
        refine d_skip hs #[true, true, true, true, true, true, true, true, true, true, true, true, true, true, true, true, true, true] (i := 17) rfl rfl rfl rfl (e_store rfl rfl rfl sz_9 hw hc hf hv) (fun hn => (hn (by decide)).elim) ?_
        clear hs a hw hc hf hv
        intro a hs
        refine d_done (by kernel_rfl) ?_ _
        clear hS
        refine hK8 _ _ ?_
        refine wp_region_lit ?_
        refine t_pure hs rfl rfl (by decide) (p_move rfl rfl) ?_
        clear hs a
        intro a hs
        obtain ⟨t32, he, h⟩ := h
        refine t_pure hs rfl rfl (by decide) (Pure.int he (p_sub rfl rfl rfl)) ?_
        clear hs a he
        intro a hs
        refine t_pure hs rfl rfl (by decide) (p_assign rfl rfl) ?_
        clear hs a
        intro a hs
        rw [← hX2] at h
        exact ⟨t32, hs.to ⟨rfl, rfl, rfl, rfl, rfl, trivial⟩, h⟩
      · replace h := h.2 hb
        clear hb
        refine wp_exit ?_
        refine hK4 _ _ ?_
        refine wp_region_lit ?_
        refine t_pure hs rfl rfl (by decide) (p_move rfl rfl) ?_
        clear hs a
        intro a hs
        obtain ⟨t14, he, h⟩ := h
        refine t_pure hs rfl rfl (by decide) (Pure.int he (p_add rfl rfl rfl)) ?_
        clear hs a he
        intro a hs
        refine t_pure hs rfl rfl (by decide) (p_assign rfl rfl) ?_
        clear hs a
        intro a hs
        rw [← hX1] at h
        exact ⟨t14, hs.to ⟨rfl, rfl, rfl, rfl, trivial⟩, h⟩
    clear hK7
    obtain ⟨w1, hw1, h⟩ := h
    refine d_start (S := Is w1) (ds := [13]) #[false, false, false, false, false, false, false, false, false, false, false, false, false, false, false] mixed rfl rfl ?_
    rw [← hw1]
    have hS := Is.intro w1
    clear hw1
    refine d_pure hs #[true, false, false, false, false, false, false, false, false, false, false, false, false, false, false] (i := 0) rfl rfl rfl (by decide) (by kernel_rfl) (tight_body (P := Try.prog) (fn := Try.f109)) (p_move rfl rfl) ?_
    clear hs a
    intro a hs
    refine d_pure hs #[true, true, false, false, false, false, false, false, false, false, false, false, false, false, false] (i := 1) rfl rfl rfl (by decide) (by kernel_rfl) (tight_body (P := Try.prog) (fn := Try.f109)) (p_move rfl rfl) ?_
    clear hs a
    intro a hs
    refine d_pure hs #[true, true, true, false, false, false, false, false, false, false, false, false, false, false, false] (i := 2) rfl rfl rfl (by decide) (by kernel_rfl) (tight_body (P := Try.prog) (fn := Try.f109)) (p_gt rfl rfl rfl) ?_
    clear hs a
    intro a hs
    refine d_pure hs #[true, true, true, true, false, false, false, false, false, false, false, false, false, false, false] (i := 3) rfl rfl rfl (by decide) (by kernel_rfl) (tight_body (P := Try.prog) (fn := Try.f109)) (p_move rfl rfl) ?_
    clear hs a
    intro a hs
    refine split_bool (decide (a1 < j7_2)) (fun hb => ?_) (fun hb => ?_)
    · replace h := h.1 hb
      rw [hb] at hs
      clear hb
      refine d_pure hs #[true, true, true, true, true, false, false, false, false, false, false, false, false, false, false] (i := 4) rfl rfl rfl (by decide) (by kernel_rfl) (tight_body (P := Try.prog) (fn := Try.f109)) (p_move rfl rfl) ?_
      clear hs a
      intro a hs
      refine d_pure hs #[true, true, true, true, true, true, false, false, false, false, false, false, false, false, false] (i := 5) rfl rfl rfl (by decide) (by kernel_rfl) (tight_body (P := Try.prog) (fn := Try.f109)) (p_move rfl rfl) ?_
      clear hs a
      intro a hs
      obtain ⟨qt22, t22, ha, h0, h1, he, h⟩ := h
      refine d_pure hs #[true, true, true, true, true, true, true, false, false, false, false, false, false, false, false] (i := 6) rfl rfl rfl (by decide) (by kernel_rfl) (tight_body (P := Try.prog) (fn := Try.f109)) (Pure.adr he (p_idx rfl rfl rfl sl_59 ha h0 h1)) ?_
      clear hs a ha h0 h1 he
      intro a hs
      refine d_pure hs #[true, true, true, true, true, true, true, false, true, false, false, false, false, false, false] (i := 8) rfl rfl rfl (by decide) (by kernel_rfl) (tight_body (P := Try.prog) (fn := Try.f109)) (p_move rfl rfl) ?_
      clear hs a
      intro a hs
      replace hs := hs.to (τ := [(0, (Sl.val data0)), (1, (.int .i64 a1)), (2, (.int .i64 b2)), (6, (.int .i64 i6_1)), (7, (.int .i64 j7_2)), (19, (.bool true)), (22, (.pointer (some t22))), (24, (Sl.val data0))]) ⟨rfl, rfl, rfl, rfl, rfl, rfl, rfl, rfl, trivial⟩
      refine d_pure hs #[true, true, true, true, true, true, true, false, true, true, false, false, false, false, false] (i := 9) rfl rfl rfl (by decide) (by kernel_rfl) (tight_body (P := Try.prog) (fn := Try.f109)) (p_move rfl rfl) ?_
      clear hs a
      intro a hs
      obtain ⟨t26, he, h⟩ := h
      refine d_pure hs #[true, true, true, true, true, true, true, false, true, true, true, false, false, false, false] (i := 10) rfl rfl rfl (by decide) (by kernel_rfl) (tight_body (P := Try.prog) (fn := Try.f109)) (Pure.int he (p_sub rfl rfl rfl)) ?_
      clear hs a he
      intro a hs
      obtain ⟨qt27, t27, ha, h0, h1, he, h⟩ := h
      refine d_pure hs #[true, true, true, true, true, true, true, false, true, true, true, true, false, false, false] (i := 11) rfl rfl rfl (by decide) (by kernel_rfl) (tight_body (P := Try.prog) (fn := Try.f109)) (Pure.adr he (p_idx rfl rfl rfl sl_59 ha h0 h1)) ?_
      clear hs a ha h0 h1 he
      intro a hs
      obtain ⟨t23, hv, h⟩ := h
      refine d_read hs #[true, true, true, true, true, true, true, true, true, true, true, true, false, false, false] (i := 7) rfl rfl rfl (by decide) (by kernel_rfl) (by kernel_rfl) (tight_body (P := Try.prog) (fn := Try.f109)) hS (fun w h' => by have h1 := h'.out; subst h1; exact e_load rfl rfl ct_9 hv) ?_
      clear hs a hv
      intro a hs
      obtain ⟨t28, hv, h⟩ := h
      refine d_read hs #[true, true, true, true, true, true, true, true, true, true, true, true, true, false, false] (i := 12) rfl rfl rfl (by decide) (by kernel_rfl) (by kernel_rfl) (tight_body (P := Try.prog) (fn := Try.f109)) hS (fun w h' => by have h1 := h'.out; subst h1; exact e_load rfl rfl ct_9 hv) ?_
      clear hs a hv
      intro a hs
      refine d_all [13] (by kernel_rfl) (by decide) ?_
      refine AllS.cons ?_ AllS.nil
      refine d_call hs #[true, true, true, true, true, true, true, true, true, true, true, true, true, true, false] (i := 13) rfl rfl rfl (by decide) rfl (e_call rfl rfl rfl cb_115) h (fun _ _ _ hn => (hn (by decide)).elim) ?_
      clear hs a h
      intro v a w hk hs
      obtain ⟨t29, rfl, h⟩ := hk
      refine d_pure hs #[true, true, true, true, true, true, true, true, true, true, true, true, true, true, true] (i := 14) rfl rfl rfl (by decide) (by kernel_rfl) (tight_body (P := Try.prog) (fn := Try.f109)) (p_pick_t rfl rfl rfl) ?_
      clear hs a
      intro a hs
      refine d_done (by kernel_rfl) ?_ _
      clear hS
      exact J3 t29 _ _ (hs.to ⟨rfl, rfl, rfl, rfl, rfl, rfl, trivial⟩) h
    · replace h := h.2 hb
      rw [hb] at hs
      clear hb
      refine d_no hs #[true, true, true, true, true, false, false, false, false, false, false, false, false, false, false] (i := 4) rfl rfl rfl (by decide) (by kernel_rfl) (tight_body (P := Try.prog) (fn := Try.f109)) ?_
      clear hs a
      intro a hs
      refine d_no hs #[true, true, true, true, true, true, false, false, false, false, false, false, false, false, false] (i := 5) rfl rfl rfl (by decide) (by kernel_rfl) (tight_body (P := Try.prog) (fn := Try.f109)) ?_
      clear hs a
      intro a hs
      refine d_no hs #[true, true, true, true, true, true, true, false, false, false, false, false, false, false, false] (i := 6) rfl rfl rfl (by decide) (by kernel_rfl) (tight_body (P := Try.prog) (fn := Try.f109)) ?_
      clear hs a
      intro a hs
      refine d_no hs #[true, true, true, true, true, true, true, true, false, false, false, false, false, false, false] (i := 7) rfl rfl rfl (by decide) (by kernel_rfl) (tight_body (P := Try.prog) (fn := Try.f109)) ?_
      clear hs a
      intro a hs
      replace hs := hs.to (τ := [(0, (Sl.val data0)), (1, (.int .i64 a1)), (2, (.int .i64 b2)), (6, (.int .i64 i6_1)), (7, (.int .i64 j7_2)), (19, (.bool false)), (23, undef)]) ⟨rfl, rfl, rfl, rfl, rfl, rfl, rfl, trivial⟩
      refine d_no hs #[true, true, true, true, true, true, true, true, true, false, false, false, false, false, false] (i := 8) rfl rfl rfl (by decide) (by kernel_rfl) (tight_body (P := Try.prog) (fn := Try.f109)) ?_
      clear hs a
      intro a hs
      refine d_no hs #[true, true, true, true, true, true, true, true, true, true, false, false, false, false, false] (i := 9) rfl rfl rfl (by decide) (by kernel_rfl) (tight_body (P := Try.prog) (fn := Try.f109)) ?_
      clear hs a
      intro a hs
      refine d_no hs #[true, true, true, true, true, true, true, true, true, true, true, false, false, false, false] (i := 10) rfl rfl rfl (by decide) (by kernel_rfl) (tight_body (P := Try.prog) (fn := Try.f109)) ?_
      clear hs a
      intro a hs
      refine d_no hs #[true, true, true, true, true, true, true, true, true, true, true, true, false, false, false] (i := 11) rfl rfl rfl (by decide) (by kernel_rfl) (tight_body (P := Try.prog) (fn := Try.f109)) ?_
      clear hs a
      intro a hs
      refine d_no hs #[true, true, true, true, true, true, true, true, true, true, true, true, true, false, false] (i := 12) rfl rfl rfl (by decide) (by kernel_rfl) (tight_body (P := Try.prog) (fn := Try.f109)) ?_
      clear hs a
      intro a hs
      refine d_no hs #[true, true, true, true, true, true, true, true, true, true, true, true, true, true, false] (i := 13) rfl rfl rfl (by decide) (by kernel_rfl) (tight_body (P := Try.prog) (fn := Try.f109)) ?_
      clear hs a
      intro a hs
      refine d_pure hs #[true, true, true, true, true, true, true, true, true, true, true, true, true, true, true] (i := 14) rfl rfl rfl (by decide) (by kernel_rfl) (tight_body (P := Try.prog) (fn := Try.f109)) (p_pick_f rfl rfl rfl) ?_
      clear hs a
      intro a hs
      refine d_done (by kernel_rfl) ?_ _
      clear hS
      exact J3 false _ _ (hs.to ⟨rfl, rfl, rfl, rfl, rfl, rfl, trivial⟩) h
  · replace h := h.2 hb
    clear hb
    refine wp_exit ?_
    refine f_end (fn := Try.f109) hs (fun a hs => r_many hs (rs := []) (vs := []) rfl (by decide) trivial) ⟨rfl, h⟩
end Go.Proofs.Ytgnkminakongkaa
