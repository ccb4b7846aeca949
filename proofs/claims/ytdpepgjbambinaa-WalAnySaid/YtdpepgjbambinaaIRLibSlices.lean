/- Plain forms of functions, and that their code comes to them (package lib_slices). -/
import Derived.Test.YtdpepgjbambinaaCalls
import Derived.Test.YtdpepgjbambinaaRounds
namespace Go.Proofs.Ytdpepgjbambinaa
open Go Go.Sep
set_option linter.unusedVariables false
set_option linter.unusedSimpArgs false
set_option maxRecDepth 100000
set_option maxHeartbeats 4000000
def slices_ContainsFunc_s_locks_claim_locks_claim (s0 : Sl) (f1 : Value) (Q : Bool → K) : K :=
  slices_IndexFunc_s_locks_claim_locks_claim.call s0 f1 fun t7 =>
  Q (decide ((0 : Int) ≤ t7))
theorem slices_ContainsFunc_s_locks_claim_locks_claim_ok (s0 : Sl) (f1 : Value) (Q : Bool → K) (w : World) (h : slices_ContainsFunc_s_locks_claim_locks_claim s0 f1 Q w) : slices_ContainsFunc_s_locks_claim_locks_claim.call s0 f1 Q w := by
  unfold slices_ContainsFunc_s_locks_claim_locks_claim.call CallF
  refine f_start (args := [(Sl.val s0), f1]) Try.func52 rfl (Nat.le_of_ble_eq_true rfl) ?_
  intro a hs
  unfold slices_ContainsFunc_s_locks_claim_locks_claim at h
  refine wp_seq_k fun K1 hK1 => ?_
  refine wp_region_lit ?_
  refine t_pure hs rfl rfl (by decide) (p_assign rfl rfl) ?_
  clear hs a; intro a hs
  refine hK1 _ _ ?_
  refine wp_seq_k fun K2 hK2 => ?_
  refine wp_region_lit ?_
  refine t_pure hs rfl rfl (by decide) (p_move rfl rfl) ?_
  clear hs a; intro a hs
  refine t_pure hs rfl rfl (by decide) (p_move rfl rfl) ?_
  clear hs a; intro a hs
  refine t_call hs rfl rfl (by decide) (e_call rfl rfl rfl cb_56) h ?_
  clear hs a h
  intro v a w hk hs
  obtain ⟨t7, rfl, h⟩ := hk
  refine t_pure hs rfl rfl (by decide) (p_ge rfl rfl rfl) ?_
  clear hs a; intro a hs
  refine t_pure hs rfl rfl (by decide) (p_assign rfl rfl) ?_
  clear hs a; intro a hs
  refine hK2 _ _ ?_
  refine wp_ret ?_
  refine f_ret (fn := Try.f52) hs (fun a hs => r_one hs rfl (rfl)) ⟨(decide ((0 : Int) ≤ t7)), rfl, h⟩
def slices_IndexFunc_s_locks_claim_locks_claim.b1 (Q : Int → K)  (X1 : Int → K) (s0_1 : Sl) (f1_1 : Value) (t7_1 : Int) (t8_1 : Int) : K :=
  Ite (decide (t8_1 < t7_1))
    (Idx s0_1 t8_1 7 fun t14 =>
    LdN t14 7 fun t15 =>
    CallV Try.prog f1_1 [(.agg t15)] <| Ans1 (fun (t16 : Bool) => Value.bool t16) fun t16 =>
    Ite t16
      (Q t8_1)
      (Ar (IntKind.wrap .i64 (t8_1 + 1)) fun t18 =>
      X1 t18))
    (Q (-1))
def slices_IndexFunc_s_locks_claim_locks_claim (s0 : Sl) (f1 : Value) (Q : Int → K) : K :=
  LoopK (α := Int) (fun X x => slices_IndexFunc_s_locks_claim_locks_claim.b1 Q X s0 f1 (s0.n : Int) x) 0
theorem slices_IndexFunc_s_locks_claim_locks_claim_ok (s0 : Sl) (f1 : Value) (Q : Int → K) (w : World) (h : slices_IndexFunc_s_locks_claim_locks_claim s0 f1 Q w) : slices_IndexFunc_s_locks_claim_locks_claim.call s0 f1 Q w := by
  unfold slices_IndexFunc_s_locks_claim_locks_claim.call CallF
  refine f_start (args := [(Sl.val s0), f1]) Try.func56 rfl (Nat.le_of_ble_eq_true rfl) ?_
  intro a hs
  unfold slices_IndexFunc_s_locks_claim_locks_claim at h
  refine wp_seq_k fun K1 hK1 => ?_
  refine wp_region_lit ?_
  refine t_pure hs rfl rfl (by decide) (p_assign rfl rfl) ?_
  clear hs a; intro a hs
  refine hK1 _ _ ?_
  refine wp_seq_k fun K2 hK2 => ?_
  refine wp_seq_k fun K3 hK3 => ?_
  refine wp_region_lit ?_
  refine t_pure hs rfl rfl (by decide) (p_move rfl rfl) ?_
  clear hs a; intro a hs
  refine t_pure hs rfl rfl (by decide) (p_len rfl rfl sl_135) ?_
  clear hs a; intro a hs
  refine t_pure hs rfl rfl (by decide) (p_move rfl rfl) ?_
  clear hs a; intro a hs
  refine hK3 _ _ ?_
  refine wp_block ?_
  obtain ⟨I1, μ1, h0, hr⟩ := h
  refine c_loop (α := Int) I1 μ1 (fun x a => Slots a 19 [(0, (Sl.val s0)), (1, f1), (7, (.int .i64 (s0.n : Int))), (8, (.int .i64 x))]) 0 h0 (hs.to ⟨rfl, rfl, rfl, rfl, trivial⟩) ?_
  clear h0 hs a
  intro t8_1 a w hI hs
  have h : slices_IndexFunc_s_locks_claim_locks_claim.b1 Q (fun t8_1n w' => I1 t8_1n w' ∧ μ1 t8_1n w' < μ1 t8_1 w) s0 f1 (s0.n : Int) t8_1 w := hr t8_1 w hI
  clear hr hI
  generalize hX1 : (fun t8_1n w' => I1 t8_1n w' ∧ μ1 t8_1n w' < μ1 t8_1 w) = X1 at h
  unfold slices_IndexFunc_s_locks_claim_locks_claim.b1 at h
  replace hs : Slots a 19 [(0, (Sl.val s0)), (1, f1), (7, (.int .i64 (s0.n : Int))), (8, (.int .i64 t8_1))] := hs
  refine wp_seq_k fun K4 hK4 => ?_
  refine wp_region_lit ?_
  refine t_pure hs rfl rfl (by decide) (p_lt rfl rfl rfl) ?_
  clear hs a; intro a hs
  refine hK4 _ _ ?_
  refine wp_seq_k fun K5 hK5 => ?_
  refine c_cond hs rfl (fun hb => ?_) (fun hb => ?_)
  · replace h := h.1 hb
    clear hb
    refine wp_skip ?_
    refine hK5 _ _ ?_
    refine wp_seq_k fun K6 hK6 => ?_
    refine wp_block ?_
    refine wp_seq_k fun K7 hK7 => ?_
    refine wp_region_lit ?_
    refine t_pure hs rfl rfl (by decide) (p_move rfl rfl) ?_
    clear hs a; intro a hs
    refine t_pure hs rfl rfl (by decide) (p_assign rfl rfl) ?_
    clear hs a; intro a hs
    refine hK7 _ _ ?_
    refine wp_seq_k fun K8 hK8 => ?_
    refine wp_region_lit ?_
    refine t_pure hs rfl rfl (by decide) (p_move rfl rfl) ?_
    clear hs a; intro a hs
    refine t_pure hs rfl rfl (by decide) (p_move rfl rfl) ?_
    clear hs a; intro a hs
    refine t_pure hs rfl rfl (by decide) (p_move rfl rfl) ?_
    clear hs a; intro a hs
    obtain ⟨qt14, t14, ha, h0, h1, he, h⟩ := h
    refine t_pure hs rfl rfl (by decide) (Pure.adr he (p_idx rfl rfl rfl sl_135 ha h0 h1)) ?_
    clear hs a ha h0 h1 he; intro a hs
    obtain ⟨t15, hn, hv, h⟩ := h
    refine t_eff hs rfl rfl (by decide) (e_loadN rfl rfl at_137 hn hv) ?_
    clear hs a hn hv; intro a hs
    obtain ⟨g1, fs1, cs1, hg, hcb, h⟩ := h
    refine t_call hs rfl rfl (by decide) (e_callv rfl (congrArg some hg) rfl hcb) h ?_
    clear hs a h hg hcb
    intro v a w hk hs
    obtain ⟨t16, rfl, h⟩ := hk
    refine hK8 _ _ ?_
    refine c_cond hs rfl (fun hb => ?_) (fun hb => ?_)
    · replace h := h.1 hb
      clear hb
      refine wp_seq_k fun K9 hK9 => ?_
      refine wp_region_lit ?_
      refine t_pure hs rfl rfl (by decide) (p_move rfl rfl) ?_
      clear hs a; intro a hs
      refine t_pure hs rfl rfl (by decide) (p_assign rfl rfl) ?_
      clear hs a; intro a hs
      refine hK9 _ _ ?_
      refine wp_ret ?_
      refine f_ret (fn := Try.f56) hs (fun a hs => r_one hs rfl (rfl)) ⟨t8_1, rfl, h⟩
    · replace h := h.2 hb
      clear hb
      refine wp_skip ?_
      refine hK6 _ _ ?_
      refine wp_region_lit ?_
      obtain ⟨t18, he, h⟩ := h
      refine t_pure hs rfl rfl (by decide) (Pure.int he (p_add rfl rfl rfl)) ?_
      clear hs a he; intro a hs
      refine t_pure hs rfl rfl (by decide) (p_move rfl rfl) ?_
      clear hs a; intro a hs
      rw [← hX1] at h
      exact ⟨t18, hs.to ⟨rfl, rfl, rfl, rfl, trivial⟩, h⟩
  · replace h := h.2 hb
    clear hb
    refine wp_exit ?_
    refine hK2 _ _ ?_
    refine wp_seq_k fun K10 hK10 => ?_
    refine wp_region_lit ?_
    refine t_pure hs rfl rfl (by decide) (p_assign rfl rfl) ?_
    clear hs a; intro a hs
    refine hK10 _ _ ?_
    refine wp_ret ?_
    refine f_ret (fn := Try.f56) hs (fun a hs => r_one hs rfl (rfl)) ⟨(-1), rfl, h⟩
def slices_Index_s_api_Tag_api_Tag.b1 (Q : Int → K)  (X1 : Int → K) (s0_1 : Sl) (v3_1 : Addr) (t7_1 : Int) (t8_1 : Int) : K :=
  Ite (decide (t8_1 < t7_1))
    (Dr <|
    LdN v3_1 4 fun t11 =>
    Idx s0_1 t8_1 4 fun t14 =>
    LdN t14 4 fun t15 =>
    Pu Try.prog (do eqGuard .eql 46 (.tmp 11) (.tmp 15) (.agg t11) (.agg t15); binOp .eql 46 (.agg t11) (.agg t15) : Sem Value) Value.bool fun t16 =>
    Ite t16
      (Q t8_1)
      (Ar (IntKind.wrap .i64 (t8_1 + 1)) fun t18 =>
      X1 t18))
    (Q (-1))
def slices_Index_s_api_Tag_api_Tag (s0 : Sl) (v1 : (Array Value)) (Q : Int → K) : K :=
  New 46 v1 fun v3 =>
  LoopK (α := Int) (fun X x => slices_Index_s_api_Tag_api_Tag.b1 Q X s0 v3 (s0.n : Int) x) 0
theorem slices_Index_s_api_Tag_api_Tag_ok (s0 : Sl) (v1 : (Array Value)) (Q : Int → K) (w : World) (h : slices_Index_s_api_Tag_api_Tag s0 v1 Q w) : slices_Index_s_api_Tag_api_Tag.call s0 v1 Q w := by
  unfold slices_Index_s_api_Tag_api_Tag.call CallF
  refine f_start (args := [(Sl.val s0), (.agg v1)]) Try.func58 rfl (Nat.le_of_ble_eq_true rfl) ?_
  intro a hs
  unfold slices_Index_s_api_Tag_api_Tag at h
  refine wp_seq_k fun K1 hK1 => ?_
  refine wp_region_lit ?_
  obtain ⟨v3, w1, ha, hw, h⟩ := h
  refine t_eff hs rfl rfl (by decide) (e_box rfl rfl rfl ha hw) ?_
  clear hs a ha hw; intro a hs
  refine t_pure hs rfl rfl (by decide) (p_assign rfl rfl) ?_
  clear hs a; intro a hs
  refine hK1 _ _ ?_
  refine wp_seq_k fun K2 hK2 => ?_
  refine wp_seq_k fun K3 hK3 => ?_
  refine wp_region_lit ?_
  refine t_pure hs rfl rfl (by decide) (p_move rfl rfl) ?_
  clear hs a; intro a hs
  refine t_pure hs rfl rfl (by decide) (p_len rfl rfl sl_49) ?_
  clear hs a; intro a hs
  refine t_pure hs rfl rfl (by decide) (p_move rfl rfl) ?_
  clear hs a; intro a hs
  refine hK3 _ _ ?_
  refine wp_block ?_
  obtain ⟨I1, μ1, h0, hr⟩ := h
  refine c_loop (α := Int) I1 μ1 (fun x a => Slots a 19 [(0, (Sl.val s0)), (3, (.pointer (some v3))), (7, (.int .i64 (s0.n : Int))), (8, (.int .i64 x))]) 0 h0 (hs.to ⟨rfl, rfl, rfl, rfl, trivial⟩) ?_
  clear h0 hs a
  intro t8_1 a w hI hs
  have h : slices_Index_s_api_Tag_api_Tag.b1 Q (fun t8_1n w' => I1 t8_1n w' ∧ μ1 t8_1n w' < μ1 t8_1 w) s0 v3 (s0.n : Int) t8_1 w := hr t8_1 w hI
  clear hr hI
  generalize hX1 : (fun t8_1n w' => I1 t8_1n w' ∧ μ1 t8_1n w' < μ1 t8_1 w) = X1 at h
  unfold slices_Index_s_api_Tag_api_Tag.b1 at h
  replace hs : Slots a 19 [(0, (Sl.val s0)), (3, (.pointer (some v3))), (7, (.int .i64 (s0.n : Int))), (8, (.int .i64 t8_1))] := hs
  refine wp_seq_k fun K4 hK4 => ?_
  refine wp_region_lit ?_
  refine t_pure hs rfl rfl (by decide) (p_lt rfl rfl rfl) ?_
  clear hs a; intro a hs
  refine hK4 _ _ ?_
  refine wp_seq_k fun K5 hK5 => ?_
  refine c_cond hs rfl (fun hb => ?_) (fun hb => ?_)
  · replace h := h.1 hb
    clear hb
    refine wp_skip ?_
    refine hK5 _ _ ?_
    refine wp_seq_k fun K6 hK6 => ?_
    refine wp_block ?_
    refine wp_seq_k fun K7 hK7 => ?_
    refine wp_region_lit ?_
    refine t_pure hs rfl rfl (by decide) (p_move rfl rfl) ?_
    clear hs a; intro a hs
    refine t_pure hs rfl rfl (by decide) (p_assign rfl rfl) ?_
    clear hs a; intro a hs
    refine hK7 _ _ ?_
    refine wp_seq_k fun K8 hK8 => ?_
    obtain ⟨w1, hw1, h⟩ := h
    refine s_start mixed (by kernel_rfl) hw1 ?_
    clear hw1
    obtain ⟨t11, hn, hv, h⟩ := h
    refine s_eff hs rfl rfl (by decide) (e_loadN rfl rfl at_46 hn hv) ?_
    clear hs a hn hv; intro a hs
    refine s_pure hs rfl rfl (by decide) (p_move rfl rfl) ?_
    clear hs a; intro a hs
    refine s_pure hs rfl rfl (by decide) (p_move rfl rfl) ?_
    clear hs a; intro a hs
    obtain ⟨qt14, t14, ha, h0, h1, he, h⟩ := h
    refine s_pure hs rfl rfl (by decide) (Pure.adr he (p_idx rfl rfl rfl sl_49 ha h0 h1)) ?_
    clear hs a ha h0 h1 he; intro a hs
    obtain ⟨t15, hn, hv, h⟩ := h
    refine s_eff hs rfl rfl (by decide) (e_loadN rfl rfl at_46 hn hv) ?_
    clear hs a hn hv; intro a hs
    obtain ⟨t16, hd, h⟩ := h
    refine s_pure hs rfl rfl (by decide) (p_sem (fun w => e_binOp rfl rfl rfl (hd w))) ?_
    clear hs a hd; intro a hs
    refine hK8 _ _ ?_
    refine c_cond hs rfl (fun hb => ?_) (fun hb => ?_)
    · replace h := h.1 hb
      clear hb
      refine wp_seq_k fun K9 hK9 => ?_
      refine wp_region_lit ?_
      refine t_pure hs rfl rfl (by decide) (p_move rfl rfl) ?_
      clear hs a; intro a hs
      refine t_pure hs rfl rfl (by decide) (p_assign rfl rfl) ?_
      clear hs a; intro a hs
      refine hK9 _ _ ?_
      refine wp_ret ?_
      refine f_ret (fn := Try.f58) hs (fun a hs => r_one hs rfl (rfl)) ⟨t8_1, rfl, h⟩
    · replace h := h.2 hb
      clear hb
      refine wp_skip ?_
      refine hK6 _ _ ?_
      refine wp_region_lit ?_
      obtain ⟨t18, he, h⟩ := h
      refine t_pure hs rfl rfl (by decide) (Pure.int he (p_add rfl rfl rfl)) ?_
      clear hs a he; intro a hs
      refine t_pure hs rfl rfl (by decide) (p_move rfl rfl) ?_
      clear hs a; intro a hs
      rw [← hX1] at h
      exact ⟨t18, hs.to ⟨rfl, rfl, rfl, rfl, trivial⟩, h⟩
  · replace h := h.2 hb
    clear hb
    refine wp_exit ?_
    refine hK2 _ _ ?_
    refine wp_seq_k fun K10 hK10 => ?_
    refine wp_region_lit ?_
    refine t_pure hs rfl rfl (by decide) (p_assign rfl rfl) ?_
    clear hs a; intro a hs
    refine hK10 _ _ ?_
    refine wp_ret ?_
    refine f_ret (fn := Try.f58) hs (fun a hs => r_one hs rfl (rfl)) ⟨(-1), rfl, h⟩
def slices_Contains_s_api_Tag_api_Tag (s0 : Sl) (v1 : (Array Value)) (Q : Bool → K) : K :=
  New 46 v1 fun v3 =>
  LdN v3 4 fun t6 =>
  slices_Index_s_api_Tag_api_Tag.call s0 t6 fun t7 =>
  Q (decide ((0 : Int) ≤ t7))
theorem slices_Contains_s_api_Tag_api_Tag_ok (s0 : Sl) (v1 : (Array Value)) (Q : Bool → K) (w : World) (h : slices_Contains_s_api_Tag_api_Tag s0 v1 Q w) : slices_Contains_s_api_Tag_api_Tag.call s0 v1 Q w := by
  unfold slices_Contains_s_api_Tag_api_Tag.call CallF
  refine f_start (args := [(Sl.val s0), (.agg v1)]) Try.func59 rfl (Nat.le_of_ble_eq_true rfl) ?_
  intro a hs
  unfold slices_Contains_s_api_Tag_api_Tag at h
  refine wp_seq_k fun K1 hK1 => ?_
  refine wp_region_lit ?_
  obtain ⟨v3, w1, ha, hw, h⟩ := h
  refine t_eff hs rfl rfl (by decide) (e_box rfl rfl rfl ha hw) ?_
  clear hs a ha hw; intro a hs
  refine t_pure hs rfl rfl (by decide) (p_assign rfl rfl) ?_
  clear hs a; intro a hs
  refine hK1 _ _ ?_
  refine wp_seq_k fun K2 hK2 => ?_
  refine wp_region_lit ?_
  refine t_pure hs rfl rfl (by decide) (p_move rfl rfl) ?_
  clear hs a; intro a hs
  obtain ⟨t6, hn, hv, h⟩ := h
  refine t_eff hs rfl rfl (by decide) (e_loadN rfl rfl at_46 hn hv) ?_
  clear hs a hn hv; intro a hs
  refine t_call hs rfl rfl (by decide) (e_call rfl rfl rfl cb_58) h ?_
  clear hs a h
  intro v a w hk hs
  obtain ⟨t7, rfl, h⟩ := hk
  refine t_pure hs rfl rfl (by decide) (p_ge rfl rfl rfl) ?_
  clear hs a; intro a hs
  refine t_pure hs rfl rfl (by decide) (p_assign rfl rfl) ?_
  clear hs a; intro a hs
  refine hK2 _ _ ?_
  refine wp_ret ?_
  refine f_ret (fn := Try.f59) hs (fun a hs => r_one hs rfl (rfl)) ⟨(decide ((0 : Int) ≤ t7)), rfl, h⟩
def slices_DeleteFunc_s_locks_claim_locks_claim.s2 (Q : Sl → K) (X1 : Int → Int → K) (s0_2 : Sl) (del1_2 : Value) (i5_2 : Int) (j6_2 : Int) : K :=
  Ar (IntKind.wrap .i64 (j6_2 + 1)) fun t21 =>
  X1 i5_2 t21
def slices_DeleteFunc_s_locks_claim_locks_claim.b1 (Q : Sl → K)  (X1 : Int → Int → K) (s0_1 : Sl) (del1_1 : Value) (i5_1 : Int) (j6_1 : Int) : K :=
  Ite (decide (j6_1 < (s0_1.n : Int)))
    (Idx s0_1 j6_1 7 fun t24 =>
    LdN t24 7 fun t25 =>
    New 137 #[(.int .i64 0), (.int .u64 0), (.int .u64 0), (.int .i64 0), (.string ⟨#[]⟩), (.int .i64 0), (.int .u64 0)] fun v7 =>
    StN v7 7 t25 <|
    LdN v7 7 fun t27 =>
    CallV Try.prog del1_1 [(.agg t27)] <| Ans1 (fun (t28 : Bool) => Value.bool t28) fun t28 =>
    Ite (!t28)
      (LdN v7 7 fun t32 =>
      Idx s0_1 i5_1 7 fun t33 =>
      StN t33 7 t32 <|
      Ar (IntKind.wrap .i64 (i5_1 + 1)) fun t35 =>
      slices_DeleteFunc_s_locks_claim_locks_claim.s2 Q X1 s0_1 del1_1 t35 j6_1)
      (slices_DeleteFunc_s_locks_claim_locks_claim.s2 Q X1 s0_1 del1_1 i5_1 j6_1))
    (Slc s0_1 i5_1 (s0_1.n : Int) (s0_1.c : Int) 7 fun t38 =>
    Do Try.prog (Builtin.clear_ #[135] 0 #[(Sl.val t38)]) id fun _ =>
    Slc s0_1 0 i5_1 (s0_1.c : Int) 7 fun t41 =>
    Q t41)
def slices_DeleteFunc_s_locks_claim_locks_claim (s0 : Sl) (del1 : Value) (Q : Sl → K) : K :=
  slices_IndexFunc_s_locks_claim_locks_claim.call s0 del1 fun t10 =>
  Ite (decide (t10 = (-1)))
    (Q s0)
    (Ar (IntKind.wrap .i64 (t10 + 1)) fun t15 =>
    LoopK (α := Int × Int) (fun X x => slices_DeleteFunc_s_locks_claim_locks_claim.b1 Q (fun i5_1 j6_1 => X (i5_1, j6_1)) s0 del1 x.1 x.2) (t10, t15))
theorem slices_DeleteFunc_s_locks_claim_locks_claim_ok (s0 : Sl) (del1 : Value) (Q : Sl → K) (w : World) (h : slices_DeleteFunc_s_locks_claim_locks_claim s0 del1 Q w) : slices_DeleteFunc_s_locks_claim_locks_claim.call s0 del1 Q w := by
  unfold slices_DeleteFunc_s_locks_claim_locks_claim.call CallF
  refine f_start (args := [(Sl.val s0), del1]) Try.func60 rfl (Nat.le_of_ble_eq_true rfl) ?_
  intro a hs
  unfold slices_DeleteFunc_s_locks_claim_locks_claim at h
  refine wp_seq_k fun K1 hK1 => ?_
  refine wp_region_lit ?_
  refine t_pure hs rfl rfl (by decide) (p_assign rfl rfl) ?_
  clear hs a; intro a hs
  refine hK1 _ _ ?_
  refine wp_seq_k fun K2 hK2 => ?_
  refine wp_region_lit ?_
  refine t_pure hs rfl rfl (by decide) (p_move rfl rfl) ?_
  clear hs a; intro a hs
  refine t_pure hs rfl rfl (by decide) (p_move rfl rfl) ?_
  clear hs a; intro a hs
  refine t_call hs rfl rfl (by decide) (e_call rfl rfl rfl cb_56) h ?_
  clear hs a h
  intro v a w hk hs
  obtain ⟨t10, rfl, h⟩ := hk
  refine t_pure hs rfl rfl (by decide) (p_assign rfl rfl) ?_
  clear hs a; intro a hs
  refine hK2 _ _ ?_
  refine wp_seq_k fun K3 hK3 => ?_
  refine wp_seq_k fun K4 hK4 => ?_
  refine wp_region_lit ?_
  refine t_pure hs rfl rfl (by decide) (p_move rfl rfl) ?_
  clear hs a; intro a hs
  refine t_pure hs rfl rfl (by decide) (p_eq rfl rfl rfl) ?_
  clear hs a; intro a hs
  refine hK4 _ _ ?_
  refine c_cond hs rfl (fun hb => ?_) (fun hb => ?_)
  · replace h := h.1 hb
    clear hb
    refine wp_seq_k fun K5 hK5 => ?_
    refine wp_region_lit ?_
    refine t_pure hs rfl rfl (by decide) (p_move rfl rfl) ?_
    clear hs a; intro a hs
    refine t_pure hs rfl rfl (by decide) (p_assign rfl rfl) ?_
    clear hs a; intro a hs
    refine hK5 _ _ ?_
    refine wp_ret ?_
    refine f_ret (fn := Try.f60) hs (fun a hs => r_one hs rfl (rfl)) ⟨s0, rfl, h⟩
  · replace h := h.2 hb
    clear hb
    refine wp_skip ?_
    refine hK3 _ _ ?_
    refine wp_seq_k fun K6 hK6 => ?_
    refine wp_seq_k fun K7 hK7 => ?_
    refine wp_region_lit ?_
    refine t_pure hs rfl rfl (by decide) (p_move rfl rfl) ?_
    clear hs a; intro a hs
    obtain ⟨t15, he, h⟩ := h
    refine t_pure hs rfl rfl (by decide) (Pure.int he (p_add rfl rfl rfl)) ?_
    clear hs a he; intro a hs
    refine t_pure hs rfl rfl (by decide) (p_assign rfl rfl) ?_
    clear hs a; intro a hs
    refine hK7 _ _ ?_
    refine wp_block ?_
    obtain ⟨I1, μ1, h0, hr⟩ := h
    refine c_loop (α := Int × Int) I1 μ1 (fun x a => Slots a 42 [(0, (Sl.val s0)), (1, del1), (5, (.int .i64 x.1)), (6, (.int .i64 x.2))]) (t10, t15) h0 (hs.to ⟨rfl, rfl, rfl, rfl, trivial⟩) ?_
    clear h0 hs a
    rintro ⟨i5_1, j6_1⟩ a w hI hs
    have h : slices_DeleteFunc_s_locks_claim_locks_claim.b1 Q (fun i5_1n j6_1n w' => I1 (i5_1n, j6_1n) w' ∧ μ1 (i5_1n, j6_1n) w' < μ1 (i5_1, j6_1) w) s0 del1 i5_1 j6_1 w := hr (i5_1, j6_1) w hI
    clear hr hI
    generalize hX1 : (fun i5_1n j6_1n w' => I1 (i5_1n, j6_1n) w' ∧ μ1 (i5_1n, j6_1n) w' < μ1 (i5_1, j6_1) w) = X1 at h
    unfold slices_DeleteFunc_s_locks_claim_locks_claim.b1 at h
    replace hs : Slots a 42 [(0, (Sl.val s0)), (1, del1), (5, (.int .i64 i5_1)), (6, (.int .i64 j6_1))] := hs
    refine wp_seq_k fun K8 hK8 => ?_
    refine wp_seq_k fun K9 hK9 => ?_
    refine wp_region_lit ?_
    refine t_pure hs rfl rfl (by decide) (p_move rfl rfl) ?_
    clear hs a; intro a hs
    refine t_pure hs rfl rfl (by decide) (p_move rfl rfl) ?_
    clear hs a; intro a hs
    refine t_pure hs rfl rfl (by decide) (p_len rfl rfl sl_135) ?_
    clear hs a; intro a hs
    refine t_pure hs rfl rfl (by decide) (p_lt rfl rfl rfl) ?_
    clear hs a; intro a hs
    refine hK9 _ _ ?_
    refine c_cond hs rfl (fun hb => ?_) (fun hb => ?_)
    · replace h := h.1 hb
      clear hb
      refine wp_skip ?_
      refine hK8 _ _ ?_
      refine wp_seq_k fun K10 hK10 => ?_
      have J2 : ∀ (i5_2 : Int) (a : Act) (w : World), Slots a 42 [(0, (Sl.val s0)), (1, del1), (5, (.int .i64 i5_2)), (6, (.int .i64 j6_1))] → slices_DeleteFunc_s_locks_claim_locks_claim.s2 Q X1 s0 del1 i5_2 j6_1 w → K10 a w := by
        clear h hs
        intro i5_2 a w hs h
        refine hK10 _ _ ?_
        unfold slices_DeleteFunc_s_locks_claim_locks_claim.s2 at h
        refine wp_region_lit ?_
        refine t_pure hs rfl rfl (by decide) (p_move rfl rfl) ?_
        clear hs a; intro a hs
        obtain ⟨t21, he, h⟩ := h
        refine t_pure hs rfl rfl (by decide) (Pure.int he (p_add rfl rfl rfl)) ?_
        clear hs a he; intro a hs
        refine t_pure hs rfl rfl (by decide) (p_assign rfl rfl) ?_
        clear hs a; intro a hs
        rw [← hX1] at h
        exact ⟨(i5_2, t21), hs.to ⟨rfl, rfl, rfl, rfl, trivial⟩, h⟩
      clear hK10
      refine wp_block ?_
      refine wp_seq_k fun K11 hK11 => ?_
      refine wp_region_lit ?_
      refine t_pure hs rfl rfl (by decide) (p_move rfl rfl) ?_
      clear hs a; intro a hs
      refine t_pure hs rfl rfl (by decide) (p_move rfl rfl) ?_
      clear hs a; intro a hs
      obtain ⟨qt24, t24, ha, h0, h1, he, h⟩ := h
      refine t_pure hs rfl rfl (by decide) (Pure.adr he (p_idx rfl rfl rfl sl_135 ha h0 h1)) ?_
      clear hs a ha h0 h1 he; intro a hs
      obtain ⟨t25, hn, hv, h⟩ := h
      refine t_eff hs rfl rfl (by decide) (e_loadN rfl rfl at_137 hn hv) ?_
      clear hs a hn hv; intro a hs
      obtain ⟨v7, w1, ha, hw, h⟩ := h
      refine t_eff hs rfl rfl (by decide) (e_alloc rfl zt_137 rfl ha hw) ?_
      clear hs a ha hw; intro a hs
      obtain ⟨w1, hw, hn, hc, hv, h⟩ := h
      refine t_skip hs rfl rfl (e_storeN rfl rfl rfl sz_137 hw hn hc hv) ?_
      clear hs a hw hn hc hv; intro a hs
      refine hK11 _ _ ?_
      refine wp_seq_k fun K12 hK12 => ?_
      refine wp_region_lit ?_
      refine t_pure hs rfl rfl (by decide) (p_move rfl rfl) ?_
      clear hs a; intro a hs
      obtain ⟨t27, hn, hv, h⟩ := h
      refine t_eff hs rfl rfl (by decide) (e_loadN rfl rfl at_137 hn hv) ?_
      clear hs a hn hv; intro a hs
      obtain ⟨g1, fs1, cs1, hg, hcb, h⟩ := h
      refine t_call hs rfl rfl (by decide) (e_callv rfl (congrArg some hg) rfl hcb) h ?_
      clear hs a h hg hcb
      intro v a w hk hs
      obtain ⟨t28, rfl, h⟩ := hk
      refine t_pure hs rfl rfl (by decide) (p_not rfl rfl) ?_
      clear hs a; intro a hs
      refine hK12 _ _ ?_
      refine c_cond hs rfl (fun hb => ?_) (fun hb => ?_)
      · replace h := h.1 hb
        clear hb
        refine wp_seq_k fun K13 hK13 => ?_
        refine wp_region_lit ?_
        refine t_pure hs rfl rfl (by decide) (p_move rfl rfl) ?_
        clear hs a; intro a hs
        refine t_pure hs rfl rfl (by decide) (p_move rfl rfl) ?_
        clear hs a; intro a hs
        obtain ⟨t32, hn, hv, h⟩ := h
        refine t_eff hs rfl rfl (by decide) (e_loadN rfl rfl at_137 hn hv) ?_
        clear hs a hn hv; intro a hs
        obtain ⟨qt33, t33, ha, h0, h1, he, h⟩ := h
        refine t_pure hs rfl rfl (by decide) (Pure.adr he (p_idx rfl rfl rfl sl_135 ha h0 h1)) ?_
        clear hs a ha h0 h1 he; intro a hs
        obtain ⟨w1, hw, hn, hc, hv, h⟩ := h
        refine t_skip hs rfl rfl (e_storeN rfl rfl rfl sz_137 hw hn hc hv) ?_
        clear hs a hw hn hc hv; intro a hs
        refine hK13 _ _ ?_
        refine wp_region_lit ?_
        refine t_pure hs rfl rfl (by decide) (p_move rfl rfl) ?_
        clear hs a; intro a hs
        obtain ⟨t35, he, h⟩ := h
        refine t_pure hs rfl rfl (by decide) (Pure.int he (p_add rfl rfl rfl)) ?_
        clear hs a he; intro a hs
        refine t_pure hs rfl rfl (by decide) (p_assign rfl rfl) ?_
        clear hs a; intro a hs
        exact J2 t35 _ _ (hs.to ⟨rfl, rfl, rfl, rfl, trivial⟩) h
      · replace h := h.2 hb
        clear hb
        refine wp_skip ?_
        exact J2 i5_1 _ _ (hs.to ⟨rfl, rfl, rfl, rfl, trivial⟩) h
    · replace h := h.2 hb
      clear hb
      refine wp_exit ?_
      refine hK6 _ _ ?_
      refine wp_seq_k fun K14 hK14 => ?_
      refine wp_region_lit ?_
      refine t_pure hs rfl rfl (by decide) (p_move rfl rfl) ?_
      clear hs a; intro a hs
      refine t_pure hs rfl rfl (by decide) (p_move rfl rfl) ?_
      clear hs a; intro a hs
      obtain ⟨t38, h0, h1, h2, h3, he, h⟩ := h
      refine t_pure hs rfl rfl (by decide) (Pure.sl he (p_slc rfl rfl sl_135 ⟨_, rfl⟩ rfl rfl (by decide) h0 h1 h2 h3)) ?_
      clear hs a h0 h1 h2 h3 he; intro a hs
      obtain ⟨u1, w1, hd, h⟩ := h
      refine t_none hs rfl rfl (e_clear rfl rfl rfl hd) ?_
      clear hs a hd; intro a hs
      refine hK14 _ _ ?_
      refine wp_seq_k fun K15 hK15 => ?_
      refine wp_region_lit ?_
      refine t_pure hs rfl rfl (by decide) (p_move rfl rfl) ?_
      clear hs a; intro a hs
      refine t_pure hs rfl rfl (by decide) (p_move rfl rfl) ?_
      clear hs a; intro a hs
      obtain ⟨t41, h0, h1, h2, h3, he, h⟩ := h
      refine t_pure hs rfl rfl (by decide) (Pure.sl he (p_slc rfl rfl sl_135 rfl ⟨_, rfl⟩ rfl (by decide) h0 h1 h2 h3)) ?_
      clear hs a h0 h1 h2 h3 he; intro a hs
      refine t_pure hs rfl rfl (by decide) (p_assign rfl rfl) ?_
      clear hs a; intro a hs
      refine hK15 _ _ ?_
      refine wp_ret ?_
      refine f_ret (fn := Try.f60) hs (fun a hs => r_one hs rfl (rfl)) ⟨t41, rfl, h⟩
def slices_DeleteFunc_s_string_string.s2 (Q : Sl → K) (X1 : Int → Int → K) (s0_2 : Sl) (del1_2 : Value) (i5_2 : Int) (j6_2 : Int) : K :=
  Ar (IntKind.wrap .i64 (j6_2 + 1)) fun t21 =>
  X1 i5_2 t21
def slices_DeleteFunc_s_string_string.b1 (Q : Sl → K)  (X1 : Int → Int → K) (s0_1 : Sl) (del1_1 : Value) (i5_1 : Int) (j6_1 : Int) : K :=
  Ite (decide (j6_1 < (s0_1.n : Int)))
    (Idx s0_1 j6_1 1 fun t24 =>
    Ld t24 Value.string fun t25 =>
    CallV Try.prog del1_1 [(.string t25)] <| Ans1 (fun (t28 : Bool) => Value.bool t28) fun t28 =>
    Ite (!t28)
      (Idx s0_1 i5_1 1 fun t33 =>
      St t33 (.string t25) <|
      Ar (IntKind.wrap .i64 (i5_1 + 1)) fun t35 =>
      slices_DeleteFunc_s_string_string.s2 Q X1 s0_1 del1_1 t35 j6_1)
      (slices_DeleteFunc_s_string_string.s2 Q X1 s0_1 del1_1 i5_1 j6_1))
    (Slc s0_1 i5_1 (s0_1.n : Int) (s0_1.c : Int) 1 fun t38 =>
    Do Try.prog (Builtin.clear_ #[37] 0 #[(Sl.val t38)]) id fun _ =>
    Slc s0_1 0 i5_1 (s0_1.c : Int) 1 fun t41 =>
    Q t41)
def slices_DeleteFunc_s_string_string (s0 : Sl) (del1 : Value) (Q : Sl → K) : K :=
  slices_IndexFunc_s_string_string.call s0 del1 fun t10 =>
  Ite (decide (t10 = (-1)))
    (Q s0)
    (Ar (IntKind.wrap .i64 (t10 + 1)) fun t15 =>
    LoopK (α := Int × Int) (fun X x => slices_DeleteFunc_s_string_string.b1 Q (fun i5_1 j6_1 => X (i5_1, j6_1)) s0 del1 x.1 x.2) (t10, t15))
theorem slices_DeleteFunc_s_string_string_ok (s0 : Sl) (del1 : Value) (Q : Sl → K) (w : World) (h : slices_DeleteFunc_s_string_string s0 del1 Q w) : slices_DeleteFunc_s_string_string.call s0 del1 Q w := by
  unfold slices_DeleteFunc_s_string_string.call CallF
  refine f_start (args := [(Sl.val s0), del1]) Try.func61 rfl (Nat.le_of_ble_eq_true rfl) ?_
  intro a hs
  unfold slices_DeleteFunc_s_string_string at h
  refine wp_seq_k fun K1 hK1 => ?_
  refine wp_region_lit ?_
  refine t_pure hs rfl rfl (by decide) (p_assign rfl rfl) ?_
  clear hs a; intro a hs
  refine hK1 _ _ ?_
  refine wp_seq_k fun K2 hK2 => ?_
  refine wp_region_lit ?_
  refine t_pure hs rfl rfl (by decide) (p_move rfl rfl) ?_
  clear hs a; intro a hs
  refine t_pure hs rfl rfl (by decide) (p_move rfl rfl) ?_
  clear hs a; intro a hs
  refine t_call hs rfl rfl (by decide) (e_call rfl rfl rfl cb_92) h ?_
  clear hs a h
  intro v a w hk hs
  obtain ⟨t10, rfl, h⟩ := hk
  refine t_pure hs rfl rfl (by decide) (p_assign rfl rfl) ?_
  clear hs a; intro a hs
  refine hK2 _ _ ?_
  refine wp_seq_k fun K3 hK3 => ?_
  refine wp_seq_k fun K4 hK4 => ?_
  refine wp_region_lit ?_
  refine t_pure hs rfl rfl (by decide) (p_move rfl rfl) ?_
  clear hs a; intro a hs
  refine t_pure hs rfl rfl (by decide) (p_eq rfl rfl rfl) ?_
  clear hs a; intro a hs
  refine hK4 _ _ ?_
  refine c_cond hs rfl (fun hb => ?_) (fun hb => ?_)
  · replace h := h.1 hb
    clear hb
    refine wp_seq_k fun K5 hK5 => ?_
    refine wp_region_lit ?_
    refine t_pure hs rfl rfl (by decide) (p_move rfl rfl) ?_
    clear hs a; intro a hs
    refine t_pure hs rfl rfl (by decide) (p_assign rfl rfl) ?_
    clear hs a; intro a hs
    refine hK5 _ _ ?_
    refine wp_ret ?_
    refine f_ret (fn := Try.f61) hs (fun a hs => r_one hs rfl (rfl)) ⟨s0, rfl, h⟩
  · replace h := h.2 hb
    clear hb
    refine wp_skip ?_
    refine hK3 _ _ ?_
    refine wp_seq_k fun K6 hK6 => ?_
    refine wp_seq_k fun K7 hK7 => ?_
    refine wp_region_lit ?_
    refine t_pure hs rfl rfl (by decide) (p_move rfl rfl) ?_
    clear hs a; intro a hs
    obtain ⟨t15, he, h⟩ := h
    refine t_pure hs rfl rfl (by decide) (Pure.int he (p_add rfl rfl rfl)) ?_
    clear hs a he; intro a hs
    refine t_pure hs rfl rfl (by decide) (p_assign rfl rfl) ?_
    clear hs a; intro a hs
    refine hK7 _ _ ?_
    refine wp_block ?_
    obtain ⟨I1, μ1, h0, hr⟩ := h
    refine c_loop (α := Int × Int) I1 μ1 (fun x a => Slots a 42 [(0, (Sl.val s0)), (1, del1), (5, (.int .i64 x.1)), (6, (.int .i64 x.2))]) (t10, t15) h0 (hs.to ⟨rfl, rfl, rfl, rfl, trivial⟩) ?_
    clear h0 hs a
    rintro ⟨i5_1, j6_1⟩ a w hI hs
    have h : slices_DeleteFunc_s_string_string.b1 Q (fun i5_1n j6_1n w' => I1 (i5_1n, j6_1n) w' ∧ μ1 (i5_1n, j6_1n) w' < μ1 (i5_1, j6_1) w) s0 del1 i5_1 j6_1 w := hr (i5_1, j6_1) w hI
    clear hr hI
    generalize hX1 : (fun i5_1n j6_1n w' => I1 (i5_1n, j6_1n) w' ∧ μ1 (i5_1n, j6_1n) w' < μ1 (i5_1, j6_1) w) = X1 at h
    unfold slices_DeleteFunc_s_string_string.b1 at h
    replace hs : Slots a 42 [(0, (Sl.val s0)), (1, del1), (5, (.int .i64 i5_1)), (6, (.int .i64 j6_1))] := hs
    refine wp_seq_k fun K8 hK8 => ?_
    refine wp_seq_k fun K9 hK9 => ?_
    refine wp_region_lit ?_
    refine t_pure hs rfl rfl (by decide) (p_move rfl rfl) ?_
    clear hs a; intro a hs
    refine t_pure hs rfl rfl (by decide) (p_move rfl rfl) ?_
    clear hs a; intro a hs
    refine t_pure hs rfl rfl (by decide) (p_len rfl rfl sl_37) ?_
    clear hs a; intro a hs
    refine t_pure hs rfl rfl (by decide) (p_lt rfl rfl rfl) ?_
    clear hs a; intro a hs
    refine hK9 _ _ ?_
    refine c_cond hs rfl (fun hb => ?_) (fun hb => ?_)
    · replace h := h.1 hb
      clear hb
      refine wp_skip ?_
      refine hK8 _ _ ?_
      refine wp_seq_k fun K10 hK10 => ?_
      have J2 : ∀ (i5_2 : Int) (a : Act) (w : World), Slots a 42 [(0, (Sl.val s0)), (1, del1), (5, (.int .i64 i5_2)), (6, (.int .i64 j6_1))] → slices_DeleteFunc_s_string_string.s2 Q X1 s0 del1 i5_2 j6_1 w → K10 a w := by
        clear h hs
        intro i5_2 a w hs h
        refine hK10 _ _ ?_
        unfold slices_DeleteFunc_s_string_string.s2 at h
        refine wp_region_lit ?_
        refine t_pure hs rfl rfl (by decide) (p_move rfl rfl) ?_
        clear hs a; intro a hs
        obtain ⟨t21, he, h⟩ := h
        refine t_pure hs rfl rfl (by decide) (Pure.int he (p_add rfl rfl rfl)) ?_
        clear hs a he; intro a hs
        refine t_pure hs rfl rfl (by decide) (p_assign rfl rfl) ?_
        clear hs a; intro a hs
        rw [← hX1] at h
        exact ⟨(i5_2, t21), hs.to ⟨rfl, rfl, rfl, rfl, trivial⟩, h⟩
      clear hK10
      refine wp_block ?_
      refine wp_seq_k fun K11 hK11 => ?_
      refine wp_region_lit ?_
      refine t_pure hs rfl rfl (by decide) (p_move rfl rfl) ?_
      clear hs a; intro a hs
      refine t_pure hs rfl rfl (by decide) (p_move rfl rfl) ?_
      clear hs a; intro a hs
      obtain ⟨qt24, t24, ha, h0, h1, he, h⟩ := h
      refine t_pure hs rfl rfl (by decide) (Pure.adr he (p_idx rfl rfl rfl sl_37 ha h0 h1)) ?_
      clear hs a ha h0 h1 he; intro a hs
      obtain ⟨t25, hv, h⟩ := h
      refine t_eff hs rfl rfl (by decide) (e_load rfl rfl ct_9 hv) ?_
      clear hs a hv; intro a hs
      refine t_pure hs rfl rfl (by decide) (p_assign rfl rfl) ?_
      clear hs a; intro a hs
      refine hK11 _ _ ?_
      refine wp_seq_k fun K12 hK12 => ?_
      refine wp_region_lit ?_
      refine t_pure hs rfl rfl (by decide) (p_move rfl rfl) ?_
      clear hs a; intro a hs
      refine t_pure hs rfl rfl (by decide) (p_move rfl rfl) ?_
      clear hs a; intro a hs
      obtain ⟨g1, fs1, cs1, hg, hcb, h⟩ := h
      refine t_call hs rfl rfl (by decide) (e_callv rfl (congrArg some hg) rfl hcb) h ?_
      clear hs a h hg hcb
      intro v a w hk hs
      obtain ⟨t28, rfl, h⟩ := hk
      refine t_pure hs rfl rfl (by decide) (p_not rfl rfl) ?_
      clear hs a; intro a hs
      refine hK12 _ _ ?_
      refine c_cond hs rfl (fun hb => ?_) (fun hb => ?_)
      · replace h := h.1 hb
        clear hb
        refine wp_seq_k fun K13 hK13 => ?_
        refine wp_region_lit ?_
        refine t_pure hs rfl rfl (by decide) (p_move rfl rfl) ?_
        clear hs a; intro a hs
        refine t_pure hs rfl rfl (by decide) (p_move rfl rfl) ?_
        clear hs a; intro a hs
        refine t_pure hs rfl rfl (by decide) (p_move rfl rfl) ?_
        clear hs a; intro a hs
        obtain ⟨qt33, t33, ha, h0, h1, he, h⟩ := h
        refine t_pure hs rfl rfl (by decide) (Pure.adr he (p_idx rfl rfl rfl sl_37 ha h0 h1)) ?_
        clear hs a ha h0 h1 he; intro a hs
        obtain ⟨w1, hw, hc, hf, hv, h⟩ := h
        refine t_skip hs rfl rfl (e_store rfl rfl rfl sz_9 hw hc hf hv) ?_
        clear hs a hw hc hf hv; intro a hs
        refine hK13 _ _ ?_
        refine wp_region_lit ?_
        refine t_pure hs rfl rfl (by decide) (p_move rfl rfl) ?_
        clear hs a; intro a hs
        obtain ⟨t35, he, h⟩ := h
        refine t_pure hs rfl rfl (by decide) (Pure.int he (p_add rfl rfl rfl)) ?_
        clear hs a he; intro a hs
        refine t_pure hs rfl rfl (by decide) (p_assign rfl rfl) ?_
        clear hs a; intro a hs
        exact J2 t35 _ _ (hs.to ⟨rfl, rfl, rfl, rfl, trivial⟩) h
      · replace h := h.2 hb
        clear hb
        refine wp_skip ?_
        exact J2 i5_1 _ _ (hs.to ⟨rfl, rfl, rfl, rfl, trivial⟩) h
    · replace h := h.2 hb
      clear hb
      refine wp_exit ?_
      refine hK6 _ _ ?_
      refine wp_seq_k fun K14 hK14 => ?_
      refine wp_region_lit ?_
      refine t_pure hs rfl rfl (by decide) (p_move rfl rfl) ?_
      clear hs a; intro a hs
      refine t_pure hs rfl rfl (by decide) (p_move rfl rfl) ?_
      clear hs a; intro a hs
      obtain ⟨t38, h0, h1, h2, h3, he, h⟩ := h
      refine t_pure hs rfl rfl (by decide) (Pure.sl he (p_slc rfl rfl sl_37 ⟨_, rfl⟩ rfl rfl (by decide) h0 h1 h2 h3)) ?_
      clear hs a h0 h1 h2 h3 he; intro a hs
      obtain ⟨u1, w1, hd, h⟩ := h
      refine t_none hs rfl rfl (e_clear rfl rfl rfl hd) ?_
      clear hs a hd; intro a hs
      refine hK14 _ _ ?_
      refine wp_seq_k fun K15 hK15 => ?_
      refine wp_region_lit ?_
      refine t_pure hs rfl rfl (by decide) (p_move rfl rfl) ?_
      clear hs a; intro a hs
      refine t_pure hs rfl rfl (by decide) (p_move rfl rfl) ?_
      clear hs a; intro a hs
      obtain ⟨t41, h0, h1, h2, h3, he, h⟩ := h
      refine t_pure hs rfl rfl (by decide) (Pure.sl he (p_slc rfl rfl sl_37 rfl ⟨_, rfl⟩ rfl (by decide) h0 h1 h2 h3)) ?_
      clear hs a h0 h1 h2 h3 he; intro a hs
      refine t_pure hs rfl rfl (by decide) (p_assign rfl rfl) ?_
      clear hs a; intro a hs
      refine hK15 _ _ ?_
      refine wp_ret ?_
      refine f_ret (fn := Try.f61) hs (fun a hs => r_one hs rfl (rfl)) ⟨t41, rfl, h⟩
def slices_Sorted_string (seq0 : Value) (Q : Sl → K) : K :=
  slices_Collect_string.call seq0 fun t5 =>
  slices_Sort_s_string_string.call t5 <|
  Q t5
theorem slices_Sorted_string_ok (seq0 : Value) (Q : Sl → K) (w : World) (h : slices_Sorted_string seq0 Q w) : slices_Sorted_string.call seq0 Q w := by
  unfold slices_Sorted_string.call CallF
  refine f_start (args := [seq0]) Try.func62 rfl (Nat.le_of_ble_eq_true rfl) ?_
  intro a hs
  unfold slices_Sorted_string at h
  refine wp_seq_k fun K1 hK1 => ?_
  refine wp_region_lit ?_
  refine t_pure hs rfl rfl (by decide) (p_assign rfl rfl) ?_
  clear hs a; intro a hs
  refine hK1 _ _ ?_
  refine wp_seq_k fun K2 hK2 => ?_
  refine wp_region_lit ?_
  refine t_pure hs rfl rfl (by decide) (p_move rfl rfl) ?_
  clear hs a; intro a hs
  refine t_call hs rfl rfl (by decide) (e_call rfl rfl rfl cb_93) h ?_
  clear hs a h
  intro v a w hk hs
  obtain ⟨t5, rfl, h⟩ := hk
  refine t_pure hs rfl rfl (by decide) (p_assign rfl rfl) ?_
  clear hs a; intro a hs
  refine hK2 _ _ ?_
  refine wp_seq_k fun K3 hK3 => ?_
  refine wp_region_lit ?_
  refine t_pure hs rfl rfl (by decide) (p_move rfl rfl) ?_
  clear hs a; intro a hs
  refine t_call hs rfl rfl (by decide) (e_call rfl rfl rfl cb_94) h ?_
  clear hs a h
  intro v a w hk hs
  obtain ⟨rfl, h⟩ := hk
  refine hK3 _ _ ?_
  refine wp_seq_k fun K4 hK4 => ?_
  refine wp_region_lit ?_
  refine t_pure hs rfl rfl (by decide) (p_move rfl rfl) ?_
  clear hs a; intro a hs
  refine t_pure hs rfl rfl (by decide) (p_assign rfl rfl) ?_
  clear hs a; intro a hs
  refine hK4 _ _ ?_
  refine wp_ret ?_
  refine f_ret (fn := Try.f62) hs (fun a hs => r_one hs rfl (rfl)) ⟨t5, rfl, h⟩
def slices_Clone_s_byte_byte (s0 : Sl) (Q : Sl → K) : K :=
  Ite ((s0).a.isNone)
    (Q (Sl.mk none 0 0))
    (New 5 #[] fun t5 =>
    Do Try.prog (Builtin.append_ #[22, 22] 22 #[(Sl.val (Sl.mk (some t5) 0 0)), (Sl.val s0)]) Sl.val fun t7 =>
    Q t7)
theorem slices_Clone_s_byte_byte_ok (s0 : Sl) (Q : Sl → K) (w : World) (h : slices_Clone_s_byte_byte s0 Q w) : slices_Clone_s_byte_byte.call s0 Q w := by
  unfold slices_Clone_s_byte_byte.call CallF
  refine f_start (args := [(Sl.val s0)]) Try.func67 rfl (Nat.le_of_ble_eq_true rfl) ?_
  intro a hs
  unfold slices_Clone_s_byte_byte at h
  refine wp_seq_k fun K1 hK1 => ?_
  refine wp_region_lit ?_
  refine t_pure hs rfl rfl (by decide) (p_assign rfl rfl) ?_
  clear hs a; intro a hs
  refine hK1 _ _ ?_
  refine wp_seq_k fun K2 hK2 => ?_
  refine wp_seq_k fun K3 hK3 => ?_
  refine wp_region_lit ?_
  refine t_pure hs rfl rfl (by decide) (p_move rfl rfl) ?_
  clear hs a; intro a hs
  refine t_pure hs rfl rfl (by decide) (p_eq_sl rfl rfl rfl Try.underlying22) ?_
  clear hs a; intro a hs
  refine hK3 _ _ ?_
  refine c_cond hs rfl (fun hb => ?_) (fun hb => ?_)
  · replace h := h.1 hb
    clear hb
    refine wp_seq_k fun K4 hK4 => ?_
    refine wp_region_lit ?_
    refine t_pure hs rfl rfl (by decide) (p_assign rfl rfl) ?_
    clear hs a; intro a hs
    refine hK4 _ _ ?_
    refine wp_ret ?_
    refine f_ret (fn := Try.f67) hs (fun a hs => r_one hs rfl (rfl)) ⟨(Sl.mk none 0 0), rfl, h⟩
  · replace h := h.2 hb
    clear hb
    refine wp_skip ?_
    refine hK2 _ _ ?_
    refine wp_seq_k fun K5 hK5 => ?_
    refine wp_region_lit ?_
    obtain ⟨t5, w1, ha, hw, h⟩ := h
    refine t_eff hs rfl rfl (by decide) (e_buildSlice (z := #[]) (cs := #[]) rfl sl_22 zt_5 (by decide) rfl rz_5_0 (by rfl) ha hw) ?_
    clear hs a ha hw; intro a hs
    refine t_pure hs rfl rfl (by decide) (p_move rfl rfl) ?_
    clear hs a; intro a hs
    obtain ⟨t7, w1, hd, h⟩ := h
    refine t_eff hs rfl rfl (by decide) (e_append rfl rfl rfl rfl hd) ?_
    clear hs a hd; intro a hs
    refine t_pure hs rfl rfl (by decide) (p_assign rfl rfl) ?_
    clear hs a; intro a hs
    refine hK5 _ _ ?_
    refine wp_ret ?_
    refine f_ret (fn := Try.f67) hs (fun a hs => r_one hs rfl (rfl)) ⟨t7, rfl, h⟩
def slices_Contains_s_string_string (s0 : Sl) (v1 : ByteArray) (Q : Bool → K) : K :=
  slices_Index_s_string_string.call s0 v1 fun t7 =>
  Q (decide ((0 : Int) ≤ t7))
theorem slices_Contains_s_string_string_ok (s0 : Sl) (v1 : ByteArray) (Q : Bool → K) (w : World) (h : slices_Contains_s_string_string s0 v1 Q w) : slices_Contains_s_string_string.call s0 v1 Q w := by
  unfold slices_Contains_s_string_string.call CallF
  refine f_start (args := [(Sl.val s0), (.string v1)]) Try.func75 rfl (Nat.le_of_ble_eq_true rfl) ?_
  intro a hs
  unfold slices_Contains_s_string_string at h
  refine wp_seq_k fun K1 hK1 => ?_
  refine wp_region_lit ?_
  refine t_pure hs rfl rfl (by decide) (p_assign rfl rfl) ?_
  clear hs a; intro a hs
  refine hK1 _ _ ?_
  refine wp_seq_k fun K2 hK2 => ?_
  refine wp_region_lit ?_
  refine t_pure hs rfl rfl (by decide) (p_move rfl rfl) ?_
  clear hs a; intro a hs
  refine t_pure hs rfl rfl (by decide) (p_move rfl rfl) ?_
  clear hs a; intro a hs
  refine t_call hs rfl rfl (by decide) (e_call rfl rfl rfl cb_102) h ?_
  clear hs a h
  intro v a w hk hs
  obtain ⟨t7, rfl, h⟩ := hk
  refine t_pure hs rfl rfl (by decide) (p_ge rfl rfl rfl) ?_
  clear hs a; intro a hs
  refine t_pure hs rfl rfl (by decide) (p_assign rfl rfl) ?_
  clear hs a; intro a hs
  refine hK2 _ _ ?_
  refine wp_ret ?_
  refine f_ret (fn := Try.f75) hs (fun a hs => r_one hs rfl (rfl)) ⟨(decide ((0 : Int) ≤ t7)), rfl, h⟩
def slices_Clone_s_api_Out_api_Out (s0 : Sl) (Q : Sl → K) : K :=
  Ite ((s0).a.isNone)
    (Q (Sl.mk none 0 0))
    (New 119 #[] fun t5 =>
    Do Try.prog (Builtin.append_ #[92, 92] 92 #[(Sl.val (Sl.mk (some t5) 0 0)), (Sl.val s0)]) Sl.val fun t7 =>
    Q t7)
theorem slices_Clone_s_api_Out_api_Out_ok (s0 : Sl) (Q : Sl → K) (w : World) (h : slices_Clone_s_api_Out_api_Out s0 Q w) : slices_Clone_s_api_Out_api_Out.call s0 Q w := by
  unfold slices_Clone_s_api_Out_api_Out.call CallF
  refine f_start (args := [(Sl.val s0)]) Try.func82 rfl (Nat.le_of_ble_eq_true rfl) ?_
  intro a hs
  unfold slices_Clone_s_api_Out_api_Out at h
  refine wp_seq_k fun K1 hK1 => ?_
  refine wp_region_lit ?_
  refine t_pure hs rfl rfl (by decide) (p_assign rfl rfl) ?_
  clear hs a; intro a hs
  refine hK1 _ _ ?_
  refine wp_seq_k fun K2 hK2 => ?_
  refine wp_seq_k fun K3 hK3 => ?_
  refine wp_region_lit ?_
  refine t_pure hs rfl rfl (by decide) (p_move rfl rfl) ?_
  clear hs a; intro a hs
  refine t_pure hs rfl rfl (by decide) (p_eq_sl rfl rfl rfl Try.underlying92) ?_
  clear hs a; intro a hs
  refine hK3 _ _ ?_
  refine c_cond hs rfl (fun hb => ?_) (fun hb => ?_)
  · replace h := h.1 hb
    clear hb
    refine wp_seq_k fun K4 hK4 => ?_
    refine wp_region_lit ?_
    refine t_pure hs rfl rfl (by decide) (p_assign rfl rfl) ?_
    clear hs a; intro a hs
    refine hK4 _ _ ?_
    refine wp_ret ?_
    refine f_ret (fn := Try.f82) hs (fun a hs => r_one hs rfl (rfl)) ⟨(Sl.mk none 0 0), rfl, h⟩
  · replace h := h.2 hb
    clear hb
    refine wp_skip ?_
    refine hK2 _ _ ?_
    refine wp_seq_k fun K5 hK5 => ?_
    refine wp_region_lit ?_
    obtain ⟨t5, w1, ha, hw, h⟩ := h
    refine t_eff hs rfl rfl (by decide) (e_buildSlice (z := #[]) (cs := #[]) rfl sl_92 zt_119 (by decide) rfl rz_119_0 (by rfl) ha hw) ?_
    clear hs a ha hw; intro a hs
    refine t_pure hs rfl rfl (by decide) (p_move rfl rfl) ?_
    clear hs a; intro a hs
    obtain ⟨t7, w1, hd, h⟩ := h
    refine t_eff hs rfl rfl (by decide) (e_append rfl rfl rfl rfl hd) ?_
    clear hs a hd; intro a hs
    refine t_pure hs rfl rfl (by decide) (p_assign rfl rfl) ?_
    clear hs a; intro a hs
    refine hK5 _ _ ?_
    refine wp_ret ?_
    refine f_ret (fn := Try.f82) hs (fun a hs => r_one hs rfl (rfl)) ⟨t7, rfl, h⟩
def slices_IndexFunc_s_string_string.b1 (Q : Int → K)  (X1 : Int → K) (s0_1 : Sl) (f1_1 : Value) (t7_1 : Int) (t8_1 : Int) : K :=
  Ite (decide (t8_1 < t7_1))
    (Idx s0_1 t8_1 1 fun t14 =>
    Ld t14 Value.string fun t15 =>
    CallV Try.prog f1_1 [(.string t15)] <| Ans1 (fun (t16 : Bool) => Value.bool t16) fun t16 =>
    Ite t16
      (Q t8_1)
      (Ar (IntKind.wrap .i64 (t8_1 + 1)) fun t18 =>
      X1 t18))
    (Q (-1))
def slices_IndexFunc_s_string_string (s0 : Sl) (f1 : Value) (Q : Int → K) : K :=
  LoopK (α := Int) (fun X x => slices_IndexFunc_s_string_string.b1 Q X s0 f1 (s0.n : Int) x) 0
theorem slices_IndexFunc_s_string_string_ok (s0 : Sl) (f1 : Value) (Q : Int → K) (w : World) (h : slices_IndexFunc_s_string_string s0 f1 Q w) : slices_IndexFunc_s_string_string.call s0 f1 Q w := by
  unfold slices_IndexFunc_s_string_string.call CallF
  refine f_start (args := [(Sl.val s0), f1]) Try.func92 rfl (Nat.le_of_ble_eq_true rfl) ?_
  intro a hs
  unfold slices_IndexFunc_s_string_string at h
  refine wp_seq_k fun K1 hK1 => ?_
  refine wp_region_lit ?_
  refine t_pure hs rfl rfl (by decide) (p_assign rfl rfl) ?_
  clear hs a; intro a hs
  refine hK1 _ _ ?_
  refine wp_seq_k fun K2 hK2 => ?_
  refine wp_seq_k fun K3 hK3 => ?_
  refine wp_region_lit ?_
  refine t_pure hs rfl rfl (by decide) (p_move rfl rfl) ?_
  clear hs a; intro a hs
  refine t_pure hs rfl rfl (by decide) (p_len rfl rfl sl_37) ?_
  clear hs a; intro a hs
  refine t_pure hs rfl rfl (by decide) (p_move rfl rfl) ?_
  clear hs a; intro a hs
  refine hK3 _ _ ?_
  refine wp_block ?_
  obtain ⟨I1, μ1, h0, hr⟩ := h
  refine c_loop (α := Int) I1 μ1 (fun x a => Slots a 19 [(0, (Sl.val s0)), (1, f1), (7, (.int .i64 (s0.n : Int))), (8, (.int .i64 x))]) 0 h0 (hs.to ⟨rfl, rfl, rfl, rfl, trivial⟩) ?_
  clear h0 hs a
  intro t8_1 a w hI hs
  have h : slices_IndexFunc_s_string_string.b1 Q (fun t8_1n w' => I1 t8_1n w' ∧ μ1 t8_1n w' < μ1 t8_1 w) s0 f1 (s0.n : Int) t8_1 w := hr t8_1 w hI
  clear hr hI
  generalize hX1 : (fun t8_1n w' => I1 t8_1n w' ∧ μ1 t8_1n w' < μ1 t8_1 w) = X1 at h
  unfold slices_IndexFunc_s_string_string.b1 at h
  replace hs : Slots a 19 [(0, (Sl.val s0)), (1, f1), (7, (.int .i64 (s0.n : Int))), (8, (.int .i64 t8_1))] := hs
  refine wp_seq_k fun K4 hK4 => ?_
  refine wp_region_lit ?_
  refine t_pure hs rfl rfl (by decide) (p_lt rfl rfl rfl) ?_
  clear hs a; intro a hs
  refine hK4 _ _ ?_
  refine wp_seq_k fun K5 hK5 => ?_
  refine c_cond hs rfl (fun hb => ?_) (fun hb => ?_)
  · replace h := h.1 hb
    clear hb
    refine wp_skip ?_
    refine hK5 _ _ ?_
    refine wp_seq_k fun K6 hK6 => ?_
    refine wp_block ?_
    refine wp_seq_k fun K7 hK7 => ?_
    refine wp_region_lit ?_
    refine t_pure hs rfl rfl (by decide) (p_move rfl rfl) ?_
    clear hs a; intro a hs
    refine t_pure hs rfl rfl (by decide) (p_assign rfl rfl) ?_
    clear hs a; intro a hs
    refine hK7 _ _ ?_
    refine wp_seq_k fun K8 hK8 => ?_
    refine wp_region_lit ?_
    refine t_pure hs rfl rfl (by decide) (p_move rfl rfl) ?_
    clear hs a; intro a hs
    refine t_pure hs rfl rfl (by decide) (p_move rfl rfl) ?_
    clear hs a; intro a hs
    refine t_pure hs rfl rfl (by decide) (p_move rfl rfl) ?_
    clear hs a; intro a hs
    obtain ⟨qt14, t14, ha, h0, h1, he, h⟩ := h
    refine t_pure hs rfl rfl (by decide) (Pure.adr he (p_idx rfl rfl rfl sl_37 ha h0 h1)) ?_
    clear hs a ha h0 h1 he; intro a hs
    obtain ⟨t15, hv, h⟩ := h
    refine t_eff hs rfl rfl (by decide) (e_load rfl rfl ct_9 hv) ?_
    clear hs a hv; intro a hs
    obtain ⟨g1, fs1, cs1, hg, hcb, h⟩ := h
    refine t_call hs rfl rfl (by decide) (e_callv rfl (congrArg some hg) rfl hcb) h ?_
    clear hs a h hg hcb
    intro v a w hk hs
    obtain ⟨t16, rfl, h⟩ := hk
    refine hK8 _ _ ?_
    refine c_cond hs rfl (fun hb => ?_) (fun hb => ?_)
    · replace h := h.1 hb
      clear hb
      refine wp_seq_k fun K9 hK9 => ?_
      refine wp_region_lit ?_
      refine t_pure hs rfl rfl (by decide) (p_move rfl rfl) ?_
      clear hs a; intro a hs
      refine t_pure hs rfl rfl (by decide) (p_assign rfl rfl) ?_
      clear hs a; intro a hs
      refine hK9 _ _ ?_
      refine wp_ret ?_
      refine f_ret (fn := Try.f92) hs (fun a hs => r_one hs rfl (rfl)) ⟨t8_1, rfl, h⟩
    · replace h := h.2 hb
      clear hb
      refine wp_skip ?_
      refine hK6 _ _ ?_
      refine wp_region_lit ?_
      obtain ⟨t18, he, h⟩ := h
      refine t_pure hs rfl rfl (by decide) (Pure.int he (p_add rfl rfl rfl)) ?_
      clear hs a he; intro a hs
      refine t_pure hs rfl rfl (by decide) (p_move rfl rfl) ?_
      clear hs a; intro a hs
      rw [← hX1] at h
      exact ⟨t18, hs.to ⟨rfl, rfl, rfl, rfl, trivial⟩, h⟩
  · replace h := h.2 hb
    clear hb
    refine wp_exit ?_
    refine hK2 _ _ ?_
    refine wp_seq_k fun K10 hK10 => ?_
    refine wp_region_lit ?_
    refine t_pure hs rfl rfl (by decide) (p_assign rfl rfl) ?_
    clear hs a; intro a hs
    refine hK10 _ _ ?_
    refine wp_ret ?_
    refine f_ret (fn := Try.f92) hs (fun a hs => r_one hs rfl (rfl)) ⟨(-1), rfl, h⟩
def slices_Collect_string (seq0 : Value) (Q : Sl → K) : K :=
  slices_AppendSeq_s_string_string.call (Sl.mk none 0 0) seq0 fun t4 =>
  Q t4
theorem slices_Collect_string_ok (seq0 : Value) (Q : Sl → K) (w : World) (h : slices_Collect_string seq0 Q w) : slices_Collect_string.call seq0 Q w := by
  unfold slices_Collect_string.call CallF
  refine f_start (args := [seq0]) Try.func93 rfl (Nat.le_of_ble_eq_true rfl) ?_
  intro a hs
  unfold slices_Collect_string at h
  refine wp_seq_k fun K1 hK1 => ?_
  refine wp_region_lit ?_
  refine t_pure hs rfl rfl (by decide) (p_assign rfl rfl) ?_
  clear hs a; intro a hs
  refine hK1 _ _ ?_
  refine wp_seq_k fun K2 hK2 => ?_
  refine wp_region_lit ?_
  refine t_pure hs rfl rfl (by decide) (p_move rfl rfl) ?_
  clear hs a; intro a hs
  refine t_call hs rfl rfl (by decide) (e_call rfl rfl rfl cb_120) h ?_
  clear hs a h
  intro v a w hk hs
  obtain ⟨t4, rfl, h⟩ := hk
  refine t_pure hs rfl rfl (by decide) (p_assign rfl rfl) ?_
  clear hs a; intro a hs
  refine hK2 _ _ ?_
  refine wp_ret ?_
  refine f_ret (fn := Try.f93) hs (fun a hs => r_one hs rfl (rfl)) ⟨t4, rfl, h⟩
def slices_Sort_s_string_string (x0 : Sl) (Q : K) : K :=
  Ar (IntKind.wrap .u64 (x0.n : Int)) fun t8 =>
  math_bits_Len.call t8 fun t9 =>
  slices_pdqsortOrdered_string.call x0 0 (x0.n : Int) t9 <|
  Q
theorem slices_Sort_s_string_string_ok (x0 : Sl) (Q : K) (w : World) (h : slices_Sort_s_string_string x0 Q w) : slices_Sort_s_string_string.call x0 Q w := by
  unfold slices_Sort_s_string_string.call CallF
  refine f_start (args := [(Sl.val x0)]) Try.func94 rfl (Nat.le_of_ble_eq_true rfl) ?_
  intro a hs
  unfold slices_Sort_s_string_string at h
  refine wp_seq_k fun K1 hK1 => ?_
  refine wp_region_lit ?_
  refine t_pure hs rfl rfl (by decide) (p_move rfl rfl) ?_
  clear hs a; intro a hs
  refine t_pure hs rfl rfl (by decide) (p_len rfl rfl sl_37) ?_
  clear hs a; intro a hs
  refine t_pure hs rfl rfl (by decide) (p_assign rfl rfl) ?_
  clear hs a; intro a hs
  refine hK1 _ _ ?_
  refine wp_region_lit ?_
  refine t_pure hs rfl rfl (by decide) (p_move rfl rfl) ?_
  clear hs a; intro a hs
  refine t_pure hs rfl rfl (by decide) (p_move rfl rfl) ?_
  clear hs a; intro a hs
  refine t_pure hs rfl rfl (by decide) (p_move rfl rfl) ?_
  clear hs a; intro a hs
  obtain ⟨t8, he, h⟩ := h
  refine t_pure hs rfl rfl (by decide) (Pure.int he (p_conv_int rfl rfl in_3 in_120)) ?_
  clear hs a he; intro a hs
  refine t_call hs rfl rfl (by decide) (e_call rfl rfl rfl cb_122) h ?_
  clear hs a h
  intro v a w hk hs
  obtain ⟨t9, rfl, h⟩ := hk
  refine t_call hs rfl rfl (by decide) (e_call rfl rfl rfl cb_121) h ?_
  clear hs a h
  intro v a w hk hs
  obtain ⟨rfl, h⟩ := hk
  refine f_end (fn := Try.f94) hs (fun a hs => r_many hs (rs := []) (vs := []) rfl (by decide) trivial) ⟨rfl, h⟩
def slices_Index_s_string_string.b1 (Q : Int → K)  (X1 : Int → K) (s0_1 : Sl) (v1_1 : ByteArray) (t7_1 : Int) (t8_1 : Int) : K :=
  Ite (decide (t8_1 < t7_1))
    (Idx s0_1 t8_1 1 fun t14 =>
    Ld t14 Value.string fun t15 =>
    Ite (v1_1.toList == t15.toList)
      (Q t8_1)
      (Ar (IntKind.wrap .i64 (t8_1 + 1)) fun t18 =>
      X1 t18))
    (Q (-1))
def slices_Index_s_string_string (s0 : Sl) (v1 : ByteArray) (Q : Int → K) : K :=
  LoopK (α := Int) (fun X x => slices_Index_s_string_string.b1 Q X s0 v1 (s0.n : Int) x) 0
theorem slices_Index_s_string_string_ok (s0 : Sl) (v1 : ByteArray) (Q : Int → K) (w : World) (h : slices_Index_s_string_string s0 v1 Q w) : slices_Index_s_string_string.call s0 v1 Q w := by
  unfold slices_Index_s_string_string.call CallF
  refine f_start (args := [(Sl.val s0), (.string v1)]) Try.func102 rfl (Nat.le_of_ble_eq_true rfl) ?_
  intro a hs
  unfold slices_Index_s_string_string at h
  refine wp_seq_k fun K1 hK1 => ?_
  refine wp_region_lit ?_
  refine t_pure hs rfl rfl (by decide) (p_assign rfl rfl) ?_
  clear hs a; intro a hs
  refine hK1 _ _ ?_
  refine wp_seq_k fun K2 hK2 => ?_
  refine wp_seq_k fun K3 hK3 => ?_
  refine wp_region_lit ?_
  refine t_pure hs rfl rfl (by decide) (p_move rfl rfl) ?_
  clear hs a; intro a hs
  refine t_pure hs rfl rfl (by decide) (p_len rfl rfl sl_37) ?_
  clear hs a; intro a hs
  refine t_pure hs rfl rfl (by decide) (p_move rfl rfl) ?_
  clear hs a; intro a hs
  refine hK3 _ _ ?_
  refine wp_block ?_
  obtain ⟨I1, μ1, h0, hr⟩ := h
  refine c_loop (α := Int) I1 μ1 (fun x a => Slots a 19 [(0, (Sl.val s0)), (1, (.string v1)), (7, (.int .i64 (s0.n : Int))), (8, (.int .i64 x))]) 0 h0 (hs.to ⟨rfl, rfl, rfl, rfl, trivial⟩) ?_
  clear h0 hs a
  intro t8_1 a w hI hs
  have h : slices_Index_s_string_string.b1 Q (fun t8_1n w' => I1 t8_1n w' ∧ μ1 t8_1n w' < μ1 t8_1 w) s0 v1 (s0.n : Int) t8_1 w := hr t8_1 w hI
  clear hr hI
  generalize hX1 : (fun t8_1n w' => I1 t8_1n w' ∧ μ1 t8_1n w' < μ1 t8_1 w) = X1 at h
  unfold slices_Index_s_string_string.b1 at h
  replace hs : Slots a 19 [(0, (Sl.val s0)), (1, (.string v1)), (7, (.int .i64 (s0.n : Int))), (8, (.int .i64 t8_1))] := hs
  refine wp_seq_k fun K4 hK4 => ?_
  refine wp_region_lit ?_
  refine t_pure hs rfl rfl (by decide) (p_lt rfl rfl rfl) ?_
  clear hs a; intro a hs
  refine hK4 _ _ ?_
  refine wp_seq_k fun K5 hK5 => ?_
  refine c_cond hs rfl (fun hb => ?_) (fun hb => ?_)
  · replace h := h.1 hb
    clear hb
    refine wp_skip ?_
    refine hK5 _ _ ?_
    refine wp_seq_k fun K6 hK6 => ?_
    refine wp_block ?_
    refine wp_seq_k fun K7 hK7 => ?_
    refine wp_region_lit ?_
    refine t_pure hs rfl rfl (by decide) (p_move rfl rfl) ?_
    clear hs a; intro a hs
    refine t_pure hs rfl rfl (by decide) (p_assign rfl rfl) ?_
    clear hs a; intro a hs
    refine hK7 _ _ ?_
    refine wp_seq_k fun K8 hK8 => ?_
    refine wp_region_lit ?_
    refine t_pure hs rfl rfl (by decide) (p_move rfl rfl) ?_
    clear hs a; intro a hs
    refine t_pure hs rfl rfl (by decide) (p_move rfl rfl) ?_
    clear hs a; intro a hs
    refine t_pure hs rfl rfl (by decide) (p_move rfl rfl) ?_
    clear hs a; intro a hs
    obtain ⟨qt14, t14, ha, h0, h1, he, h⟩ := h
    refine t_pure hs rfl rfl (by decide) (Pure.adr he (p_idx rfl rfl rfl sl_37 ha h0 h1)) ?_
    clear hs a ha h0 h1 he; intro a hs
    obtain ⟨t15, hv, h⟩ := h
    refine t_eff hs rfl rfl (by decide) (e_load rfl rfl ct_9 hv) ?_
    clear hs a hv; intro a hs
    refine t_pure hs rfl rfl (by decide) (p_eqs rfl rfl rfl) ?_
    clear hs a; intro a hs
    refine hK8 _ _ ?_
    refine c_cond hs rfl (fun hb => ?_) (fun hb => ?_)
    · replace h := h.1 hb
      clear hb
      refine wp_seq_k fun K9 hK9 => ?_
      refine wp_region_lit ?_
      refine t_pure hs rfl rfl (by decide) (p_move rfl rfl) ?_
      clear hs a; intro a hs
      refine t_pure hs rfl rfl (by decide) (p_assign rfl rfl) ?_
      clear hs a; intro a hs
      refine hK9 _ _ ?_
      refine wp_ret ?_
      refine f_ret (fn := Try.f102) hs (fun a hs => r_one hs rfl (rfl)) ⟨t8_1, rfl, h⟩
    · replace h := h.2 hb
      clear hb
      refine wp_skip ?_
      refine hK6 _ _ ?_
      refine wp_region_lit ?_
      obtain ⟨t18, he, h⟩ := h
      refine t_pure hs rfl rfl (by decide) (Pure.int he (p_add rfl rfl rfl)) ?_
      clear hs a he; intro a hs
      refine t_pure hs rfl rfl (by decide) (p_move rfl rfl) ?_
      clear hs a; intro a hs
      rw [← hX1] at h
      exact ⟨t18, hs.to ⟨rfl, rfl, rfl, rfl, trivial⟩, h⟩
  · replace h := h.2 hb
    clear hb
    refine wp_exit ?_
    refine hK2 _ _ ?_
    refine wp_seq_k fun K10 hK10 => ?_
    refine wp_region_lit ?_
    refine t_pure hs rfl rfl (by decide) (p_assign rfl rfl) ?_
    clear hs a; intro a hs
    refine hK10 _ _ ?_
    refine wp_ret ?_
    refine f_ret (fn := Try.f102) hs (fun a hs => r_one hs rfl (rfl)) ⟨(-1), rfl, h⟩
def slices_ContainsFunc_s_api_Op_api_Op (s0 : Sl) (f1 : Value) (Q : Bool → K) : K :=
  slices_IndexFunc_s_api_Op_api_Op.call s0 f1 fun t7 =>
  Q (decide ((0 : Int) ≤ t7))
theorem slices_ContainsFunc_s_api_Op_api_Op_ok (s0 : Sl) (f1 : Value) (Q : Bool → K) (w : World) (h : slices_ContainsFunc_s_api_Op_api_Op s0 f1 Q w) : slices_ContainsFunc_s_api_Op_api_Op.call s0 f1 Q w := by
  unfold slices_ContainsFunc_s_api_Op_api_Op.call CallF
  refine f_start (args := [(Sl.val s0), f1]) Try.func106 rfl (Nat.le_of_ble_eq_true rfl) ?_
  intro a hs
  unfold slices_ContainsFunc_s_api_Op_api_Op at h
  refine wp_seq_k fun K1 hK1 => ?_
  refine wp_region_lit ?_
  refine t_pure hs rfl rfl (by decide) (p_assign rfl rfl) ?_
  clear hs a; intro a hs
  refine hK1 _ _ ?_
  refine wp_seq_k fun K2 hK2 => ?_
  refine wp_region_lit ?_
  refine t_pure hs rfl rfl (by decide) (p_move rfl rfl) ?_
  clear hs a; intro a hs
  refine t_pure hs rfl rfl (by decide) (p_move rfl rfl) ?_
  clear hs a; intro a hs
  refine t_call hs rfl rfl (by decide) (e_call rfl rfl rfl cb_129) h ?_
  clear hs a h
  intro v a w hk hs
  obtain ⟨t7, rfl, h⟩ := hk
  refine t_pure hs rfl rfl (by decide) (p_ge rfl rfl rfl) ?_
  clear hs a; intro a hs
  refine t_pure hs rfl rfl (by decide) (p_assign rfl rfl) ?_
  clear hs a; intro a hs
  refine hK2 _ _ ?_
  refine wp_ret ?_
  refine f_ret (fn := Try.f106) hs (fun a hs => r_one hs rfl (rfl)) ⟨(decide ((0 : Int) ≤ t7)), rfl, h⟩
def slices_Clone_s_string_string (s0 : Sl) (Q : Sl → K) : K :=
  Ite ((s0).a.isNone)
    (Q (Sl.mk none 0 0))
    (New 9 #[] fun t5 =>
    Do Try.prog (Builtin.append_ #[37, 37] 37 #[(Sl.val (Sl.mk (some t5) 0 0)), (Sl.val s0)]) Sl.val fun t7 =>
    Q t7)
theorem slices_Clone_s_string_string_ok (s0 : Sl) (Q : Sl → K) (w : World) (h : slices_Clone_s_string_string s0 Q w) : slices_Clone_s_string_string.call s0 Q w := by
  unfold slices_Clone_s_string_string.call CallF
  refine f_start (args := [(Sl.val s0)]) Try.func107 rfl (Nat.le_of_ble_eq_true rfl) ?_
  intro a hs
  unfold slices_Clone_s_string_string at h
  refine wp_seq_k fun K1 hK1 => ?_
  refine wp_region_lit ?_
  refine t_pure hs rfl rfl (by decide) (p_assign rfl rfl) ?_
  clear hs a; intro a hs
  refine hK1 _ _ ?_
  refine wp_seq_k fun K2 hK2 => ?_
  refine wp_seq_k fun K3 hK3 => ?_
  refine wp_region_lit ?_
  refine t_pure hs rfl rfl (by decide) (p_move rfl rfl) ?_
  clear hs a; intro a hs
  refine t_pure hs rfl rfl (by decide) (p_eq_sl rfl rfl rfl Try.underlying37) ?_
  clear hs a; intro a hs
  refine hK3 _ _ ?_
  refine c_cond hs rfl (fun hb => ?_) (fun hb => ?_)
  · replace h := h.1 hb
    clear hb
    refine wp_seq_k fun K4 hK4 => ?_
    refine wp_region_lit ?_
    refine t_pure hs rfl rfl (by decide) (p_assign rfl rfl) ?_
    clear hs a; intro a hs
    refine hK4 _ _ ?_
    refine wp_ret ?_
    refine f_ret (fn := Try.f107) hs (fun a hs => r_one hs rfl (rfl)) ⟨(Sl.mk none 0 0), rfl, h⟩
  · replace h := h.2 hb
    clear hb
    refine wp_skip ?_
    refine hK2 _ _ ?_
    refine wp_seq_k fun K5 hK5 => ?_
    refine wp_region_lit ?_
    obtain ⟨t5, w1, ha, hw, h⟩ := h
    refine t_eff hs rfl rfl (by decide) (e_buildSlice (z := #[]) (cs := #[]) rfl sl_37 zt_9 (by decide) rfl rz_9_0 (by rfl) ha hw) ?_
    clear hs a ha hw; intro a hs
    refine t_pure hs rfl rfl (by decide) (p_move rfl rfl) ?_
    clear hs a; intro a hs
    obtain ⟨t7, w1, hd, h⟩ := h
    refine t_eff hs rfl rfl (by decide) (e_append rfl rfl rfl rfl hd) ?_
    clear hs a hd; intro a hs
    refine t_pure hs rfl rfl (by decide) (p_assign rfl rfl) ?_
    clear hs a; intro a hs
    refine hK5 _ _ ?_
    refine wp_ret ?_
    refine f_ret (fn := Try.f107) hs (fun a hs => r_one hs rfl (rfl)) ⟨t7, rfl, h⟩
def slices_Clone_s_api_Op_api_Op (s0 : Sl) (Q : Sl → K) : K :=
  Ite ((s0).a.isNone)
    (Q (Sl.mk none 0 0))
    (New 117 #[] fun t5 =>
    Do Try.prog (Builtin.append_ #[86, 86] 86 #[(Sl.val (Sl.mk (some t5) 0 0)), (Sl.val s0)]) Sl.val fun t7 =>
    Q t7)
theorem slices_Clone_s_api_Op_api_Op_ok (s0 : Sl) (Q : Sl → K) (w : World) (h : slices_Clone_s_api_Op_api_Op s0 Q w) : slices_Clone_s_api_Op_api_Op.call s0 Q w := by
  unfold slices_Clone_s_api_Op_api_Op.call CallF
  refine f_start (args := [(Sl.val s0)]) Try.func108 rfl (Nat.le_of_ble_eq_true rfl) ?_
  intro a hs
  unfold slices_Clone_s_api_Op_api_Op at h
  refine wp_seq_k fun K1 hK1 => ?_
  refine wp_region_lit ?_
  refine t_pure hs rfl rfl (by decide) (p_assign rfl rfl) ?_
  clear hs a; intro a hs
  refine hK1 _ _ ?_
  refine wp_seq_k fun K2 hK2 => ?_
  refine wp_seq_k fun K3 hK3 => ?_
  refine wp_region_lit ?_
  refine t_pure hs rfl rfl (by decide) (p_move rfl rfl) ?_
  clear hs a; intro a hs
  refine t_pure hs rfl rfl (by decide) (p_eq_sl rfl rfl rfl Try.underlying86) ?_
  clear hs a; intro a hs
  refine hK3 _ _ ?_
  refine c_cond hs rfl (fun hb => ?_) (fun hb => ?_)
  · replace h := h.1 hb
    clear hb
    refine wp_seq_k fun K4 hK4 => ?_
    refine wp_region_lit ?_
    refine t_pure hs rfl rfl (by decide) (p_assign rfl rfl) ?_
    clear hs a; intro a hs
    refine hK4 _ _ ?_
    refine wp_ret ?_
    refine f_ret (fn := Try.f108) hs (fun a hs => r_one hs rfl (rfl)) ⟨(Sl.mk none 0 0), rfl, h⟩
  · replace h := h.2 hb
    clear hb
    refine wp_skip ?_
    refine hK2 _ _ ?_
    refine wp_seq_k fun K5 hK5 => ?_
    refine wp_region_lit ?_
    obtain ⟨t5, w1, ha, hw, h⟩ := h
    refine t_eff hs rfl rfl (by decide) (e_buildSlice (z := #[]) (cs := #[]) rfl sl_86 zt_117 (by decide) rfl rz_117_0 (by rfl) ha hw) ?_
    clear hs a ha hw; intro a hs
    refine t_pure hs rfl rfl (by decide) (p_move rfl rfl) ?_
    clear hs a; intro a hs
    obtain ⟨t7, w1, hd, h⟩ := h
    refine t_eff hs rfl rfl (by decide) (e_append rfl rfl rfl rfl hd) ?_
    clear hs a hd; intro a hs
    refine t_pure hs rfl rfl (by decide) (p_assign rfl rfl) ?_
    clear hs a; intro a hs
    refine hK5 _ _ ?_
    refine wp_ret ?_
    refine f_ret (fn := Try.f108) hs (fun a hs => r_one hs rfl (rfl)) ⟨t7, rfl, h⟩
def slices_Clone_s_api_Mark_api_Mark (s0 : Sl) (Q : Sl → K) : K :=
  Ite ((s0).a.isNone)
    (Q (Sl.mk none 0 0))
    (New 41 #[] fun t5 =>
    Do Try.prog (Builtin.append_ #[38, 38] 38 #[(Sl.val (Sl.mk (some t5) 0 0)), (Sl.val s0)]) Sl.val fun t7 =>
    Q t7)
theorem slices_Clone_s_api_Mark_api_Mark_ok (s0 : Sl) (Q : Sl → K) (w : World) (h : slices_Clone_s_api_Mark_api_Mark s0 Q w) : slices_Clone_s_api_Mark_api_Mark.call s0 Q w := by
  unfold slices_Clone_s_api_Mark_api_Mark.call CallF
  refine f_start (args := [(Sl.val s0)]) Try.func110 rfl (Nat.le_of_ble_eq_true rfl) ?_
  intro a hs
  unfold slices_Clone_s_api_Mark_api_Mark at h
  refine wp_seq_k fun K1 hK1 => ?_
  refine wp_region_lit ?_
  refine t_pure hs rfl rfl (by decide) (p_assign rfl rfl) ?_
  clear hs a; intro a hs
  refine hK1 _ _ ?_
  refine wp_seq_k fun K2 hK2 => ?_
  refine wp_seq_k fun K3 hK3 => ?_
  refine wp_region_lit ?_
  refine t_pure hs rfl rfl (by decide) (p_move rfl rfl) ?_
  clear hs a; intro a hs
  refine t_pure hs rfl rfl (by decide) (p_eq_sl rfl rfl rfl Try.underlying38) ?_
  clear hs a; intro a hs
  refine hK3 _ _ ?_
  refine c_cond hs rfl (fun hb => ?_) (fun hb => ?_)
  · replace h := h.1 hb
    clear hb
    refine wp_seq_k fun K4 hK4 => ?_
    refine wp_region_lit ?_
    refine t_pure hs rfl rfl (by decide) (p_assign rfl rfl) ?_
    clear hs a; intro a hs
    refine hK4 _ _ ?_
    refine wp_ret ?_
    refine f_ret (fn := Try.f110) hs (fun a hs => r_one hs rfl (rfl)) ⟨(Sl.mk none 0 0), rfl, h⟩
  · replace h := h.2 hb
    clear hb
    refine wp_skip ?_
    refine hK2 _ _ ?_
    refine wp_seq_k fun K5 hK5 => ?_
    refine wp_region_lit ?_
    obtain ⟨t5, w1, ha, hw, h⟩ := h
    refine t_eff hs rfl rfl (by decide) (e_buildSlice (z := #[]) (cs := #[]) rfl sl_38 zt_41 (by decide) rfl rz_41_0 (by rfl) ha hw) ?_
    clear hs a ha hw; intro a hs
    refine t_pure hs rfl rfl (by decide) (p_move rfl rfl) ?_
    clear hs a; intro a hs
    obtain ⟨t7, w1, hd, h⟩ := h
    refine t_eff hs rfl rfl (by decide) (e_append rfl rfl rfl rfl hd) ?_
    clear hs a hd; intro a hs
    refine t_pure hs rfl rfl (by decide) (p_assign rfl rfl) ?_
    clear hs a; intro a hs
    refine hK5 _ _ ?_
    refine wp_ret ?_
    refine f_ret (fn := Try.f110) hs (fun a hs => r_one hs rfl (rfl)) ⟨t7, rfl, h⟩
def slices_IndexFunc_s_front_entry_front_entry.b1 (Q : Int → K)  (X1 : Int → K) (s0_1 : Sl) (f1_1 : Value) (t7_1 : Int) (t8_1 : Int) : K :=
  Ite (decide (t8_1 < t7_1))
    (Idx s0_1 t8_1 1 fun t14 =>
    Ld t14 Value.pointer fun t15 =>
    CallV Try.prog f1_1 [(.pointer t15)] <| Ans1 (fun (t16 : Bool) => Value.bool t16) fun t16 =>
    Ite t16
      (Q t8_1)
      (Ar (IntKind.wrap .i64 (t8_1 + 1)) fun t18 =>
      X1 t18))
    (Q (-1))
def slices_IndexFunc_s_front_entry_front_entry (s0 : Sl) (f1 : Value) (Q : Int → K) : K :=
  LoopK (α := Int) (fun X x => slices_IndexFunc_s_front_entry_front_entry.b1 Q X s0 f1 (s0.n : Int) x) 0
theorem slices_IndexFunc_s_front_entry_front_entry_ok (s0 : Sl) (f1 : Value) (Q : Int → K) (w : World) (h : slices_IndexFunc_s_front_entry_front_entry s0 f1 Q w) : slices_IndexFunc_s_front_entry_front_entry.call s0 f1 Q w := by
  unfold slices_IndexFunc_s_front_entry_front_entry.call CallF
  refine f_start (args := [(Sl.val s0), f1]) Try.func111 rfl (Nat.le_of_ble_eq_true rfl) ?_
  intro a hs
  unfold slices_IndexFunc_s_front_entry_front_entry at h
  refine wp_seq_k fun K1 hK1 => ?_
  refine wp_region_lit ?_
  refine t_pure hs rfl rfl (by decide) (p_assign rfl rfl) ?_
  clear hs a; intro a hs
  refine hK1 _ _ ?_
  refine wp_seq_k fun K2 hK2 => ?_
  refine wp_seq_k fun K3 hK3 => ?_
  refine wp_region_lit ?_
  refine t_pure hs rfl rfl (by decide) (p_move rfl rfl) ?_
  clear hs a; intro a hs
  refine t_pure hs rfl rfl (by decide) (p_len rfl rfl sl_172) ?_
  clear hs a; intro a hs
  refine t_pure hs rfl rfl (by decide) (p_move rfl rfl) ?_
  clear hs a; intro a hs
  refine hK3 _ _ ?_
  refine wp_block ?_
  obtain ⟨I1, μ1, h0, hr⟩ := h
  refine c_loop (α := Int) I1 μ1 (fun x a => Slots a 19 [(0, (Sl.val s0)), (1, f1), (7, (.int .i64 (s0.n : Int))), (8, (.int .i64 x))]) 0 h0 (hs.to ⟨rfl, rfl, rfl, rfl, trivial⟩) ?_
  clear h0 hs a
  intro t8_1 a w hI hs
  have h : slices_IndexFunc_s_front_entry_front_entry.b1 Q (fun t8_1n w' => I1 t8_1n w' ∧ μ1 t8_1n w' < μ1 t8_1 w) s0 f1 (s0.n : Int) t8_1 w := hr t8_1 w hI
  clear hr hI
  generalize hX1 : (fun t8_1n w' => I1 t8_1n w' ∧ μ1 t8_1n w' < μ1 t8_1 w) = X1 at h
  unfold slices_IndexFunc_s_front_entry_front_entry.b1 at h
  replace hs : Slots a 19 [(0, (Sl.val s0)), (1, f1), (7, (.int .i64 (s0.n : Int))), (8, (.int .i64 t8_1))] := hs
  refine wp_seq_k fun K4 hK4 => ?_
  refine wp_region_lit ?_
  refine t_pure hs rfl rfl (by decide) (p_lt rfl rfl rfl) ?_
  clear hs a; intro a hs
  refine hK4 _ _ ?_
  refine wp_seq_k fun K5 hK5 => ?_
  refine c_cond hs rfl (fun hb => ?_) (fun hb => ?_)
  · replace h := h.1 hb
    clear hb
    refine wp_skip ?_
    refine hK5 _ _ ?_
    refine wp_seq_k fun K6 hK6 => ?_
    refine wp_block ?_
    refine wp_seq_k fun K7 hK7 => ?_
    refine wp_region_lit ?_
    refine t_pure hs rfl rfl (by decide) (p_move rfl rfl) ?_
    clear hs a; intro a hs
    refine t_pure hs rfl rfl (by decide) (p_assign rfl rfl) ?_
    clear hs a; intro a hs
    refine hK7 _ _ ?_
    refine wp_seq_k fun K8 hK8 => ?_
    refine wp_region_lit ?_
    refine t_pure hs rfl rfl (by decide) (p_move rfl rfl) ?_
    clear hs a; intro a hs
    refine t_pure hs rfl rfl (by decide) (p_move rfl rfl) ?_
    clear hs a; intro a hs
    refine t_pure hs rfl rfl (by decide) (p_move rfl rfl) ?_
    clear hs a; intro a hs
    obtain ⟨qt14, t14, ha, h0, h1, he, h⟩ := h
    refine t_pure hs rfl rfl (by decide) (Pure.adr he (p_idx rfl rfl rfl sl_172 ha h0 h1)) ?_
    clear hs a ha h0 h1 he; intro a hs
    obtain ⟨t15, hv, h⟩ := h
    refine t_eff hs rfl rfl (by decide) (e_load rfl rfl ct_182 hv) ?_
    clear hs a hv; intro a hs
    obtain ⟨g1, fs1, cs1, hg, hcb, h⟩ := h
    refine t_call hs rfl rfl (by decide) (e_callv rfl (congrArg some hg) rfl hcb) h ?_
    clear hs a h hg hcb
    intro v a w hk hs
    obtain ⟨t16, rfl, h⟩ := hk
    refine hK8 _ _ ?_
    refine c_cond hs rfl (fun hb => ?_) (fun hb => ?_)
    · replace h := h.1 hb
      clear hb
      refine wp_seq_k fun K9 hK9 => ?_
      refine wp_region_lit ?_
      refine t_pure hs rfl rfl (by decide) (p_move rfl rfl) ?_
      clear hs a; intro a hs
      refine t_pure hs rfl rfl (by decide) (p_assign rfl rfl) ?_
      clear hs a; intro a hs
      refine hK9 _ _ ?_
      refine wp_ret ?_
      refine f_ret (fn := Try.f111) hs (fun a hs => r_one hs rfl (rfl)) ⟨t8_1, rfl, h⟩
    · replace h := h.2 hb
      clear hb
      refine wp_skip ?_
      refine hK6 _ _ ?_
      refine wp_region_lit ?_
      obtain ⟨t18, he, h⟩ := h
      refine t_pure hs rfl rfl (by decide) (Pure.int he (p_add rfl rfl rfl)) ?_
      clear hs a he; intro a hs
      refine t_pure hs rfl rfl (by decide) (p_move rfl rfl) ?_
      clear hs a; intro a hs
      rw [← hX1] at h
      exact ⟨t18, hs.to ⟨rfl, rfl, rfl, rfl, trivial⟩, h⟩
  · replace h := h.2 hb
    clear hb
    refine wp_exit ?_
    refine hK2 _ _ ?_
    refine wp_seq_k fun K10 hK10 => ?_
    refine wp_region_lit ?_
    refine t_pure hs rfl rfl (by decide) (p_assign rfl rfl) ?_
    clear hs a; intro a hs
    refine hK10 _ _ ?_
    refine wp_ret ?_
    refine f_ret (fn := Try.f111) hs (fun a hs => r_one hs rfl (rfl)) ⟨(-1), rfl, h⟩
def slices_Delete_s_front_entry_front_entry (s0 : Sl) (i1 : Int) (j2 : Int) (Q : Sl → K) : K :=
  Slc s0 i1 j2 (s0.n : Int) 1 fun t13 =>
  Ite (decide (i1 = j2))
    (Q s0)
    (Dr <|
    Slc s0 0 i1 (s0.c : Int) 1 fun t22 =>
    Slc s0 j2 (s0.n : Int) (s0.c : Int) 1 fun t25 =>
    Do Try.prog (Builtin.append_ #[172, 172] 172 #[(Sl.val t22), (Sl.val t25)]) Sl.val fun t26 =>
    Slc t26 (t26.n : Int) (s0.n : Int) (t26.c : Int) 1 fun t31 =>
    Do Try.prog (Builtin.clear_ #[172] 0 #[(Sl.val t31)]) id fun _ =>
    Q t26)
theorem slices_Delete_s_front_entry_front_entry_ok (s0 : Sl) (i1 : Int) (j2 : Int) (Q : Sl → K) (w : World) (h : slices_Delete_s_front_entry_front_entry s0 i1 j2 Q w) : slices_Delete_s_front_entry_front_entry.call s0 i1 j2 Q w := by
  unfold slices_Delete_s_front_entry_front_entry.call CallF
  refine f_start (args := [(Sl.val s0), (.int .i64 i1), (.int .i64 j2)]) Try.func113 rfl (Nat.le_of_ble_eq_true rfl) ?_
  intro a hs
  unfold slices_Delete_s_front_entry_front_entry at h
  refine wp_seq_k fun K1 hK1 => ?_
  refine wp_region_lit ?_
  refine t_pure hs rfl rfl (by decide) (p_assign rfl rfl) ?_
  clear hs a; intro a hs
  refine hK1 _ _ ?_
  refine wp_seq_k fun K2 hK2 => ?_
  refine wp_region_lit ?_
  refine t_pure hs rfl rfl (by decide) (p_move rfl rfl) ?_
  clear hs a; intro a hs
  refine t_pure hs rfl rfl (by decide) (p_move rfl rfl) ?_
  clear hs a; intro a hs
  refine t_pure hs rfl rfl (by decide) (p_move rfl rfl) ?_
  clear hs a; intro a hs
  refine t_pure hs rfl rfl (by decide) (p_move rfl rfl) ?_
  clear hs a; intro a hs
  refine t_pure hs rfl rfl (by decide) (p_len rfl rfl sl_172) ?_
  clear hs a; intro a hs
  obtain ⟨t13, h0, h1, h2, h3, he, h⟩ := h
  refine t_pure hs rfl rfl (by decide) (Pure.sl he (p_slc rfl rfl sl_172 ⟨_, rfl⟩ ⟨_, rfl⟩ ⟨_, rfl⟩ (by decide) h0 h1 h2 h3)) ?_
  clear hs a h0 h1 h2 h3 he; intro a hs
  refine hK2 _ _ ?_
  refine wp_seq_k fun K3 hK3 => ?_
  refine wp_seq_k fun K4 hK4 => ?_
  refine wp_region_lit ?_
  refine t_pure hs rfl rfl (by decide) (p_move rfl rfl) ?_
  clear hs a; intro a hs
  refine t_pure hs rfl rfl (by decide) (p_move rfl rfl) ?_
  clear hs a; intro a hs
  refine t_pure hs rfl rfl (by decide) (p_eq rfl rfl rfl) ?_
  clear hs a; intro a hs
  refine hK4 _ _ ?_
  refine c_cond hs rfl (fun hb => ?_) (fun hb => ?_)
  · replace h := h.1 hb
    clear hb
    refine wp_seq_k fun K5 hK5 => ?_
    refine wp_region_lit ?_
    refine t_pure hs rfl rfl (by decide) (p_move rfl rfl) ?_
    clear hs a; intro a hs
    refine t_pure hs rfl rfl (by decide) (p_assign rfl rfl) ?_
    clear hs a; intro a hs
    refine hK5 _ _ ?_
    refine wp_ret ?_
    refine f_ret (fn := Try.f113) hs (fun a hs => r_one hs rfl (rfl)) ⟨s0, rfl, h⟩
  · replace h := h.2 hb
    clear hb
    refine wp_skip ?_
    refine hK3 _ _ ?_
    refine wp_seq_k fun K6 hK6 => ?_
    refine wp_region_lit ?_
    refine t_pure hs rfl rfl (by decide) (p_move rfl rfl) ?_
    clear hs a; intro a hs
    refine t_pure hs rfl rfl (by decide) (p_len rfl rfl sl_172) ?_
    clear hs a; intro a hs
    refine t_pure hs rfl rfl (by decide) (p_assign rfl rfl) ?_
    clear hs a; intro a hs
    refine hK6 _ _ ?_
    refine wp_seq_k fun K7 hK7 => ?_
    obtain ⟨w1, hw1, h⟩ := h
    refine d_start (S := Any) (ds := []) #[false, false, false, false, false, false, false, false] mixed rfl rfl ?_
    rw [← hw1]
    have hS := Any.intro w1
    clear hw1
    refine d_pure hs #[true, false, false, false, false, false, false, false] (i := 0) rfl rfl rfl (by decide) (by kernel_rfl) (tight_body (P := Try.prog) (fn := Try.f113)) (p_move rfl rfl) ?_
    clear hs a; intro a hs
    refine d_pure hs #[true, true, false, false, false, false, false, false] (i := 1) rfl rfl rfl (by decide) (by kernel_rfl) (tight_body (P := Try.prog) (fn := Try.f113)) (p_move rfl rfl) ?_
    clear hs a; intro a hs
    obtain ⟨t22, h0, h1, h2, h3, he, h⟩ := h
    refine d_pure hs #[true, true, true, false, false, false, false, false] (i := 2) rfl rfl rfl (by decide) (by kernel_rfl) (tight_body (P := Try.prog) (fn := Try.f113)) (Pure.sl he (p_slc rfl rfl sl_172 rfl ⟨_, rfl⟩ rfl (by decide) h0 h1 h2 h3)) ?_
    clear hs a h0 h1 h2 h3 he; intro a hs
    refine d_pure hs #[true, true, true, true, false, false, false, false] (i := 3) rfl rfl rfl (by decide) (by kernel_rfl) (tight_body (P := Try.prog) (fn := Try.f113)) (p_move rfl rfl) ?_
    clear hs a; intro a hs
    refine d_pure hs #[true, true, true, true, true, false, false, false] (i := 4) rfl rfl rfl (by decide) (by kernel_rfl) (tight_body (P := Try.prog) (fn := Try.f113)) (p_move rfl rfl) ?_
    clear hs a; intro a hs
    obtain ⟨t25, h0, h1, h2, h3, he, h⟩ := h
    refine d_pure hs #[true, true, true, true, true, true, false, false] (i := 5) rfl rfl rfl (by decide) (by kernel_rfl) (tight_body (P := Try.prog) (fn := Try.f113)) (Pure.sl he (p_slc rfl rfl sl_172 ⟨_, rfl⟩ rfl rfl (by decide) h0 h1 h2 h3)) ?_
    clear hs a h0 h1 h2 h3 he; intro a hs
    refine d_all [6] (by kernel_rfl) (by decide) ?_
    refine AllS.cons ?_ AllS.nil
    obtain ⟨t26, w1, hd, h⟩ := h
    refine d_eff hs #[true, true, true, true, true, true, true, false] (i := 6) rfl rfl rfl (by decide) rfl (e_append rfl rfl rfl rfl hd) (fun _ _ => Any.intro _) ?_
    clear hs a hd; intro a hs
    refine d_pure hs #[true, true, true, true, true, true, true, true] (i := 7) rfl rfl rfl (by decide) (by kernel_rfl) (tight_body (P := Try.prog) (fn := Try.f113)) (p_assign rfl rfl) ?_
    clear hs a; intro a hs
    replace hs := hs.to (τ := [(0, (Sl.val t26)), (7, (.int .i64 (s0.n : Int)))]) ⟨rfl, rfl, trivial⟩
    refine d_done (by kernel_rfl) ?_ _
    clear hS
    refine hK7 _ _ ?_
    refine wp_seq_k fun K8 hK8 => ?_
    refine wp_region_lit ?_
    refine t_pure hs rfl rfl (by decide) (p_move rfl rfl) ?_
    clear hs a; intro a hs
    refine t_pure hs rfl rfl (by decide) (p_move rfl rfl) ?_
    clear hs a; intro a hs
    refine t_pure hs rfl rfl (by decide) (p_len rfl rfl sl_172) ?_
    clear hs a; intro a hs
    refine t_pure hs rfl rfl (by decide) (p_move rfl rfl) ?_
    clear hs a; intro a hs
    obtain ⟨t31, h0, h1, h2, h3, he, h⟩ := h
    refine t_pure hs rfl rfl (by decide) (Pure.sl he (p_slc rfl rfl sl_172 ⟨_, rfl⟩ ⟨_, rfl⟩ rfl (by decide) h0 h1 h2 h3)) ?_
    clear hs a h0 h1 h2 h3 he; intro a hs
    obtain ⟨u1, w1, hd, h⟩ := h
    refine t_none hs rfl rfl (e_clear rfl rfl rfl hd) ?_
    clear hs a hd; intro a hs
    refine hK8 _ _ ?_
    refine wp_seq_k fun K9 hK9 => ?_
    refine wp_region_lit ?_
    refine t_pure hs rfl rfl (by decide) (p_move rfl rfl) ?_
    clear hs a; intro a hs
    refine t_pure hs rfl rfl (by decide) (p_assign rfl rfl) ?_
    clear hs a; intro a hs
    refine hK9 _ _ ?_
    refine wp_ret ?_
    refine f_ret (fn := Try.f113) hs (fun a hs => r_one hs rfl (rfl)) ⟨t26, rfl, h⟩
def slices_AppendSeq_s_string_string (s0 : Sl) (seq1 : Value) (Q : Sl → K) : K :=
  New 37 #[(Sl.val s0)] fun s2 =>
  RangeF Try.prog seq1 Value.string (fun KN1 x7 =>
    Ld s2 Sl.val fun t8 =>
    New 9 #[(.string x7)] fun t10 =>
    Do Try.prog (Builtin.append_ #[37, 37] 37 #[(Sl.val t8), (Sl.val (Sl.mk (some t10) 1 1))]) Sl.val fun t11 =>
    St s2 (Sl.val t11) <|
    KN1)
  fun D1 =>
  Ld s2 Sl.val fun t12 =>
  TakeD D1 <|
  Q t12
theorem slices_AppendSeq_s_string_string_ok (s0 : Sl) (seq1 : Value) (Q : Sl → K) (w : World) (h : slices_AppendSeq_s_string_string s0 seq1 Q w) : slices_AppendSeq_s_string_string.call s0 seq1 Q w := by
  unfold slices_AppendSeq_s_string_string.call CallF
  refine fI_start (args := [(Sl.val s0), seq1]) Try.func120 rfl (Nat.le_of_ble_eq_true rfl) ?_
  intro a hs
  unfold slices_AppendSeq_s_string_string at h
  refine wpIn_seq_k fun K1 hK1 => ?_
  refine wpIn_region_lit ?_
  obtain ⟨s2, w1, ha, hw, h⟩ := h
  refine tI_eff free_wide hs rfl rfl (by decide) (fun _ h => by cases h) (e_box rfl rfl rfl ha hw) ?_
  clear hs a ha hw; intro a hs
  refine tI_pure free_wide hs rfl rfl (by decide) (fun _ h => by cases h) (p_assign rfl rfl) ?_
  clear hs a; intro a hs
  refine hK1 _ _ ?_
  refine wpIn_seq_k fun K2 hK2 => ?_
  refine wpIn_seq_k fun K3 hK3 => ?_
  refine wpIn_region_lit ?_
  refine tI_pure free_wide hs rfl rfl (by decide) (fun _ h => by cases h) (p_move rfl rfl) ?_
  clear hs a; intro a hs
  refine hK3 _ _ ?_
  refine wpIn_block ?_
  refine c_range (σ2 := fun x7 => [(2, (.pointer (some s2))), (5, (.string x7))]) hs rfl (by decide) h ?_ ?_ ?_
  · clear hs h a
    intro l1 x7 k a w hs hk
    replace hs := hs.to (τ := [(2, (.pointer (some s2))), (7, (.string x7))]) ⟨rfl, rfl, trivial⟩
    refine wpIn_region_lit ?_
    refine tI_pure (free_wide.round l1) hs rfl rfl (by decide) (fun _ h => by cases h) (p_assign rfl rfl) ?_
    clear hs a; intro a hs
    exact hk _ (hs.to ⟨rfl, rfl, trivial⟩)
  · clear hs h a
    intro l1 x7 KN1 a w hs h
    refine wpIn_block ?_
    refine wpIn_region_lit ?_
    obtain ⟨t8, hv, h⟩ := h
    refine tI_eff (free_wide.round l1) hs rfl rfl (by decide) (fun _ h => by cases h) (e_load rfl rfl ct_37 hv) ?_
    clear hs a hv; intro a hs
    refine tI_pure (free_wide.round l1) hs rfl rfl (by decide) (fun _ h => by cases h) (p_move rfl rfl) ?_
    clear hs a; intro a hs
    obtain ⟨t10, w1, ha, hw, h⟩ := h
    refine tI_eff (free_wide.round l1) hs rfl rfl (by decide) (fun _ h => by cases h) (e_buildSlice (z := #[(.string ⟨#[]⟩)]) (cs := #[(.string x7)]) rfl sl_37 zt_9 (by decide) rfl rz_9_1 (by rfl) ha hw) ?_
    clear hs a ha hw; intro a hs
    obtain ⟨t11, w1, hd, h⟩ := h
    refine tI_eff (free_wide.round l1) hs rfl rfl (by decide) (fun _ h => by cases h) (e_append rfl rfl rfl rfl hd) ?_
    clear hs a hd; intro a hs
    obtain ⟨w1, hw, hc, hf, hv, h⟩ := h
    refine tI_skip (free_wide.round l1) hs rfl rfl (fun _ h => by cases h) (e_store rfl rfl rfl sz_37 hw hc hf hv) ?_
    clear hs a hw hc hf hv; intro a hs
    exact h
  · clear h hs a
    intro D1 a w hs h
    replace hs := hs.to (τ := [(2, (.pointer (some s2)))]) ⟨rfl, trivial⟩
    refine hK2 _ _ ?_
    refine wpIn_seq_k fun K4 hK4 => ?_
    refine wpIn_region_lit ?_
    obtain ⟨t12, hv, h⟩ := h
    refine tI_eff free_wide hs rfl rfl (by decide) (fun _ h => by cases h) (e_load rfl rfl ct_37 hv) ?_
    clear hs a hv; intro a hs
    refine tI_pure free_wide hs rfl rfl (by decide) (fun _ h => by cases h) (p_assign rfl rfl) ?_
    clear hs a; intro a hs
    refine hK4 _ _ ?_
    refine wpIn_ret ?_
    refine fI_retM (fn := Try.f120) hs (fun a w hs => r_one hs rfl (rfl)) ⟨h.1, t12, rfl, h.2⟩
def slices_ContainsFunc_s_string_string (s0 : Sl) (f1 : Value) (Q : Bool → K) : K :=
  slices_IndexFunc_s_string_string.call s0 f1 fun t7 =>
  Q (decide ((0 : Int) ≤ t7))
theorem slices_ContainsFunc_s_string_string_ok (s0 : Sl) (f1 : Value) (Q : Bool → K) (w : World) (h : slices_ContainsFunc_s_string_string s0 f1 Q w) : slices_ContainsFunc_s_string_string.call s0 f1 Q w := by
  unfold slices_ContainsFunc_s_string_string.call CallF
  refine f_start (args := [(Sl.val s0), f1]) Try.func127 rfl (Nat.le_of_ble_eq_true rfl) ?_
  intro a hs
  unfold slices_ContainsFunc_s_string_string at h
  refine wp_seq_k fun K1 hK1 => ?_
  refine wp_region_lit ?_
  refine t_pure hs rfl rfl (by decide) (p_assign rfl rfl) ?_
  clear hs a; intro a hs
  refine hK1 _ _ ?_
  refine wp_seq_k fun K2 hK2 => ?_
  refine wp_region_lit ?_
  refine t_pure hs rfl rfl (by decide) (p_move rfl rfl) ?_
  clear hs a; intro a hs
  refine t_pure hs rfl rfl (by decide) (p_move rfl rfl) ?_
  clear hs a; intro a hs
  refine t_call hs rfl rfl (by decide) (e_call rfl rfl rfl cb_92) h ?_
  clear hs a h
  intro v a w hk hs
  obtain ⟨t7, rfl, h⟩ := hk
  refine t_pure hs rfl rfl (by decide) (p_ge rfl rfl rfl) ?_
  clear hs a; intro a hs
  refine t_pure hs rfl rfl (by decide) (p_assign rfl rfl) ?_
  clear hs a; intro a hs
  refine hK2 _ _ ?_
  refine wp_ret ?_
  refine f_ret (fn := Try.f127) hs (fun a hs => r_one hs rfl (rfl)) ⟨(decide ((0 : Int) ≤ t7)), rfl, h⟩
def slices_IndexFunc_s_api_Op_api_Op.b1 (Q : Int → K)  (X1 : Int → K) (s0_1 : Sl) (f1_1 : Value) (t7_1 : Int) (t8_1 : Int) : K :=
  Ite (decide (t8_1 < t7_1))
    (Idx s0_1 t8_1 4 fun t14 =>
    LdN t14 4 fun t15 =>
    CallV Try.prog f1_1 [(.agg t15)] <| Ans1 (fun (t16 : Bool) => Value.bool t16) fun t16 =>
    Ite t16
      (Q t8_1)
      (Ar (IntKind.wrap .i64 (t8_1 + 1)) fun t18 =>
      X1 t18))
    (Q (-1))
def slices_IndexFunc_s_api_Op_api_Op (s0 : Sl) (f1 : Value) (Q : Int → K) : K :=
  LoopK (α := Int) (fun X x => slices_IndexFunc_s_api_Op_api_Op.b1 Q X s0 f1 (s0.n : Int) x) 0
theorem slices_IndexFunc_s_api_Op_api_Op_ok (s0 : Sl) (f1 : Value) (Q : Int → K) (w : World) (h : slices_IndexFunc_s_api_Op_api_Op s0 f1 Q w) : slices_IndexFunc_s_api_Op_api_Op.call s0 f1 Q w := by
  unfold slices_IndexFunc_s_api_Op_api_Op.call CallF
  refine f_start (args := [(Sl.val s0), f1]) Try.func129 rfl (Nat.le_of_ble_eq_true rfl) ?_
  intro a hs
  unfold slices_IndexFunc_s_api_Op_api_Op at h
  refine wp_seq_k fun K1 hK1 => ?_
  refine wp_region_lit ?_
  refine t_pure hs rfl rfl (by decide) (p_assign rfl rfl) ?_
  clear hs a; intro a hs
  refine hK1 _ _ ?_
  refine wp_seq_k fun K2 hK2 => ?_
  refine wp_seq_k fun K3 hK3 => ?_
  refine wp_region_lit ?_
  refine t_pure hs rfl rfl (by decide) (p_move rfl rfl) ?_
  clear hs a; intro a hs
  refine t_pure hs rfl rfl (by decide) (p_len rfl rfl sl_86) ?_
  clear hs a; intro a hs
  refine t_pure hs rfl rfl (by decide) (p_move rfl rfl) ?_
  clear hs a; intro a hs
  refine hK3 _ _ ?_
  refine wp_block ?_
  obtain ⟨I1, μ1, h0, hr⟩ := h
  refine c_loop (α := Int) I1 μ1 (fun x a => Slots a 19 [(0, (Sl.val s0)), (1, f1), (7, (.int .i64 (s0.n : Int))), (8, (.int .i64 x))]) 0 h0 (hs.to ⟨rfl, rfl, rfl, rfl, trivial⟩) ?_
  clear h0 hs a
  intro t8_1 a w hI hs
  have h : slices_IndexFunc_s_api_Op_api_Op.b1 Q (fun t8_1n w' => I1 t8_1n w' ∧ μ1 t8_1n w' < μ1 t8_1 w) s0 f1 (s0.n : Int) t8_1 w := hr t8_1 w hI
  clear hr hI
  generalize hX1 : (fun t8_1n w' => I1 t8_1n w' ∧ μ1 t8_1n w' < μ1 t8_1 w) = X1 at h
  unfold slices_IndexFunc_s_api_Op_api_Op.b1 at h
  replace hs : Slots a 19 [(0, (Sl.val s0)), (1, f1), (7, (.int .i64 (s0.n : Int))), (8, (.int .i64 t8_1))] := hs
  refine wp_seq_k fun K4 hK4 => ?_
  refine wp_region_lit ?_
  refine t_pure hs rfl rfl (by decide) (p_lt rfl rfl rfl) ?_
  clear hs a; intro a hs
  refine hK4 _ _ ?_
  refine wp_seq_k fun K5 hK5 => ?_
  refine c_cond hs rfl (fun hb => ?_) (fun hb => ?_)
  · replace h := h.1 hb
    clear hb
    refine wp_skip ?_
    refine hK5 _ _ ?_
    refine wp_seq_k fun K6 hK6 => ?_
    refine wp_block ?_
    refine wp_seq_k fun K7 hK7 => ?_
    refine wp_region_lit ?_
    refine t_pure hs rfl rfl (by decide) (p_move rfl rfl) ?_
    clear hs a; intro a hs
    refine t_pure hs rfl rfl (by decide) (p_assign rfl rfl) ?_
    clear hs a; intro a hs
    refine hK7 _ _ ?_
    refine wp_seq_k fun K8 hK8 => ?_
    refine wp_region_lit ?_
    refine t_pure hs rfl rfl (by decide) (p_move rfl rfl) ?_
    clear hs a; intro a hs
    refine t_pure hs rfl rfl (by decide) (p_move rfl rfl) ?_
    clear hs a; intro a hs
    refine t_pure hs rfl rfl (by decide) (p_move rfl rfl) ?_
    clear hs a; intro a hs
    obtain ⟨qt14, t14, ha, h0, h1, he, h⟩ := h
    refine t_pure hs rfl rfl (by decide) (Pure.adr he (p_idx rfl rfl rfl sl_86 ha h0 h1)) ?_
    clear hs a ha h0 h1 he; intro a hs
    obtain ⟨t15, hn, hv, h⟩ := h
    refine t_eff hs rfl rfl (by decide) (e_loadN rfl rfl at_117 hn hv) ?_
    clear hs a hn hv; intro a hs
    obtain ⟨g1, fs1, cs1, hg, hcb, h⟩ := h
    refine t_call hs rfl rfl (by decide) (e_callv rfl (congrArg some hg) rfl hcb) h ?_
    clear hs a h hg hcb
    intro v a w hk hs
    obtain ⟨t16, rfl, h⟩ := hk
    refine hK8 _ _ ?_
    refine c_cond hs rfl (fun hb => ?_) (fun hb => ?_)
    · replace h := h.1 hb
      clear hb
      refine wp_seq_k fun K9 hK9 => ?_
      refine wp_region_lit ?_
      refine t_pure hs rfl rfl (by decide) (p_move rfl rfl) ?_
      clear hs a; intro a hs
      refine t_pure hs rfl rfl (by decide) (p_assign rfl rfl) ?_
      clear hs a; intro a hs
      refine hK9 _ _ ?_
      refine wp_ret ?_
      refine f_ret (fn := Try.f129) hs (fun a hs => r_one hs rfl (rfl)) ⟨t8_1, rfl, h⟩
    · replace h := h.2 hb
      clear hb
      refine wp_skip ?_
      refine hK6 _ _ ?_
      refine wp_region_lit ?_
      obtain ⟨t18, he, h⟩ := h
      refine t_pure hs rfl rfl (by decide) (Pure.int he (p_add rfl rfl rfl)) ?_
      clear hs a he; intro a hs
      refine t_pure hs rfl rfl (by decide) (p_move rfl rfl) ?_
      clear hs a; intro a hs
      rw [← hX1] at h
      exact ⟨t18, hs.to ⟨rfl, rfl, rfl, rfl, trivial⟩, h⟩
  · replace h := h.2 hb
    clear hb
    refine wp_exit ?_
    refine hK2 _ _ ?_
    refine wp_seq_k fun K10 hK10 => ?_
    refine wp_region_lit ?_
    refine t_pure hs rfl rfl (by decide) (p_assign rfl rfl) ?_
    clear hs a; intro a hs
    refine hK10 _ _ ?_
    refine wp_ret ?_
    refine f_ret (fn := Try.f129) hs (fun a hs => r_one hs rfl (rfl)) ⟨(-1), rfl, h⟩
def slices_Equal_s_byte_byte.b1 (Q : Bool → K)  (X1 : Int → K) (s0_1 : Sl) (s1_1 : Sl) (t12_1 : Int) (t13_1 : Int) : K :=
  Ite (decide (t13_1 < t12_1))
    (Dr <|
    Idx s0_1 t13_1 1 fun t18 =>
    Ld t18 (Value.int .u8) fun t19 =>
    Idx s1_1 t13_1 1 fun t22 =>
    Ld t22 (Value.int .u8) fun t23 =>
    Ite (decide (t19 ≠ t23))
      (Q false)
      (Ar (IntKind.wrap .i64 (t13_1 + 1)) fun t25 =>
      X1 t25))
    (Q true)
def slices_Equal_s_byte_byte (s0 : Sl) (s1 : Sl) (Q : Bool → K) : K :=
  Ite (decide ((s0.n : Int) ≠ (s1.n : Int)))
    (Q false)
    (LoopK (α := Int) (fun X x => slices_Equal_s_byte_byte.b1 Q X s0 s1 (s0.n : Int) x) 0)
theorem slices_Equal_s_byte_byte_ok (s0 : Sl) (s1 : Sl) (Q : Bool → K) (w : World) (h : slices_Equal_s_byte_byte s0 s1 Q w) : slices_Equal_s_byte_byte.call s0 s1 Q w := by
  unfold slices_Equal_s_byte_byte.call CallF
  refine f_start (args := [(Sl.val s0), (Sl.val s1)]) Try.func145 rfl (Nat.le_of_ble_eq_true rfl) ?_
  intro a hs
  unfold slices_Equal_s_byte_byte at h
  refine wp_seq_k fun K1 hK1 => ?_
  refine wp_region_lit ?_
  refine t_pure hs rfl rfl (by decide) (p_assign rfl rfl) ?_
  clear hs a; intro a hs
  refine hK1 _ _ ?_
  refine wp_seq_k fun K2 hK2 => ?_
  refine wp_seq_k fun K3 hK3 => ?_
  refine wp_region_lit ?_
  refine t_pure hs rfl rfl (by decide) (p_move rfl rfl) ?_
  clear hs a; intro a hs
  refine t_pure hs rfl rfl (by decide) (p_len rfl rfl sl_22) ?_
  clear hs a; intro a hs
  refine t_pure hs rfl rfl (by decide) (p_move rfl rfl) ?_
  clear hs a; intro a hs
  refine t_pure hs rfl rfl (by decide) (p_len rfl rfl sl_22) ?_
  clear hs a; intro a hs
  refine t_pure hs rfl rfl (by decide) (p_ne rfl rfl rfl) ?_
  clear hs a; intro a hs
  refine hK3 _ _ ?_
  refine c_cond hs rfl (fun hb => ?_) (fun hb => ?_)
  · replace h := h.1 hb
    clear hb
    refine wp_seq_k fun K4 hK4 => ?_
    refine wp_region_lit ?_
    refine t_pure hs rfl rfl (by decide) (p_assign rfl rfl) ?_
    clear hs a; intro a hs
    refine hK4 _ _ ?_
    refine wp_ret ?_
    refine f_ret (fn := Try.f145) hs (fun a hs => r_one hs rfl (rfl)) ⟨false, rfl, h⟩
  · replace h := h.2 hb
    clear hb
    refine wp_skip ?_
    refine hK2 _ _ ?_
    refine wp_seq_k fun K5 hK5 => ?_
    refine wp_seq_k fun K6 hK6 => ?_
    refine wp_region_lit ?_
    refine t_pure hs rfl rfl (by decide) (p_move rfl rfl) ?_
    clear hs a; intro a hs
    refine t_pure hs rfl rfl (by decide) (p_len rfl rfl sl_22) ?_
    clear hs a; intro a hs
    refine t_pure hs rfl rfl (by decide) (p_move rfl rfl) ?_
    clear hs a; intro a hs
    refine hK6 _ _ ?_
    refine wp_block ?_
    obtain ⟨I1, μ1, h0, hr⟩ := h
    refine c_loop (α := Int) I1 μ1 (fun x a => Slots a 26 [(0, (Sl.val s0)), (1, (Sl.val s1)), (12, (.int .i64 (s0.n : Int))), (13, (.int .i64 x))]) 0 h0 (hs.to ⟨rfl, rfl, rfl, rfl, trivial⟩) ?_
    clear h0 hs a
    intro t13_1 a w hI hs
    have h : slices_Equal_s_byte_byte.b1 Q (fun t13_1n w' => I1 t13_1n w' ∧ μ1 t13_1n w' < μ1 t13_1 w) s0 s1 (s0.n : Int) t13_1 w := hr t13_1 w hI
    clear hr hI
    generalize hX1 : (fun t13_1n w' => I1 t13_1n w' ∧ μ1 t13_1n w' < μ1 t13_1 w) = X1 at h
    unfold slices_Equal_s_byte_byte.b1 at h
    replace hs : Slots a 26 [(0, (Sl.val s0)), (1, (Sl.val s1)), (12, (.int .i64 (s0.n : Int))), (13, (.int .i64 t13_1))] := hs
    refine wp_seq_k fun K7 hK7 => ?_
    refine wp_region_lit ?_
    refine t_pure hs rfl rfl (by decide) (p_lt rfl rfl rfl) ?_
    clear hs a; intro a hs
    refine hK7 _ _ ?_
    refine wp_seq_k fun K8 hK8 => ?_
    refine c_cond hs rfl (fun hb => ?_) (fun hb => ?_)
    · replace h := h.1 hb
      clear hb
      refine wp_skip ?_
      refine hK8 _ _ ?_
      refine wp_seq_k fun K9 hK9 => ?_
      refine wp_block ?_
      refine wp_seq_k fun K10 hK10 => ?_
      refine wp_region_lit ?_
      refine t_pure hs rfl rfl (by decide) (p_move rfl rfl) ?_
      clear hs a; intro a hs
      refine t_pure hs rfl rfl (by decide) (p_assign rfl rfl) ?_
      clear hs a; intro a hs
      refine hK10 _ _ ?_
      refine wp_seq_k fun K11 hK11 => ?_
      obtain ⟨w1, hw1, h⟩ := h
      refine s_start mixed (by kernel_rfl) hw1 ?_
      clear hw1
      refine s_pure hs rfl rfl (by decide) (p_move rfl rfl) ?_
      clear hs a; intro a hs
      refine s_pure hs rfl rfl (by decide) (p_move rfl rfl) ?_
      clear hs a; intro a hs
      obtain ⟨qt18, t18, ha, h0, h1, he, h⟩ := h
      refine s_pure hs rfl rfl (by decide) (Pure.adr he (p_idx rfl rfl rfl sl_22 ha h0 h1)) ?_
      clear hs a ha h0 h1 he; intro a hs
      obtain ⟨t19, hv, h⟩ := h
      refine s_eff hs rfl rfl (by decide) (e_load rfl rfl ct_5 hv) ?_
      clear hs a hv; intro a hs
      refine s_pure hs rfl rfl (by decide) (p_move rfl rfl) ?_
      clear hs a; intro a hs
      refine s_pure hs rfl rfl (by decide) (p_move rfl rfl) ?_
      clear hs a; intro a hs
      obtain ⟨qt22, t22, ha, h0, h1, he, h⟩ := h
      refine s_pure hs rfl rfl (by decide) (Pure.adr he (p_idx rfl rfl rfl sl_22 ha h0 h1)) ?_
      clear hs a ha h0 h1 he; intro a hs
      obtain ⟨t23, hv, h⟩ := h
      refine s_eff hs rfl rfl (by decide) (e_load rfl rfl ct_5 hv) ?_
      clear hs a hv; intro a hs
      replace hs := hs.to (τ := [(0, (Sl.val s0)), (1, (Sl.val s1)), (12, (.int .i64 (s0.n : Int))), (13, (.int .i64 t13_1)), (19, (.int .u8 t19)), (23, (.int .u8 t23))]) ⟨rfl, rfl, rfl, rfl, rfl, rfl, trivial⟩
      refine s_pure hs rfl rfl (by decide) (p_ne rfl rfl rfl) ?_
      clear hs a; intro a hs
      refine hK11 _ _ ?_
      refine c_cond hs rfl (fun hb => ?_) (fun hb => ?_)
      · replace h := h.1 hb
        clear hb
        refine wp_seq_k fun K12 hK12 => ?_
        refine wp_region_lit ?_
        refine t_pure hs rfl rfl (by decide) (p_assign rfl rfl) ?_
        clear hs a; intro a hs
        refine hK12 _ _ ?_
        refine wp_ret ?_
        refine f_ret (fn := Try.f145) hs (fun a hs => r_one hs rfl (rfl)) ⟨false, rfl, h⟩
      · replace h := h.2 hb
        clear hb
        refine wp_skip ?_
        refine hK9 _ _ ?_
        refine wp_region_lit ?_
        obtain ⟨t25, he, h⟩ := h
        refine t_pure hs rfl rfl (by decide) (Pure.int he (p_add rfl rfl rfl)) ?_
        clear hs a he; intro a hs
        refine t_pure hs rfl rfl (by decide) (p_move rfl rfl) ?_
        clear hs a; intro a hs
        rw [← hX1] at h
        exact ⟨t25, hs.to ⟨rfl, rfl, rfl, rfl, trivial⟩, h⟩
    · replace h := h.2 hb
      clear hb
      refine wp_exit ?_
      refine hK5 _ _ ?_
      refine wp_seq_k fun K13 hK13 => ?_
      refine wp_region_lit ?_
      refine t_pure hs rfl rfl (by decide) (p_assign rfl rfl) ?_
      clear hs a; intro a hs
      refine hK13 _ _ ?_
      refine wp_ret ?_
      refine f_ret (fn := Try.f145) hs (fun a hs => r_one hs rfl (rfl)) ⟨true, rfl, h⟩
def slices_Concat_s_string_string.s2 (Q : Sl → K) (X1 : Int → Int → K) (slices0_2 : Sl) (size3_2 : Int) (t9_2 : Sl) (t10_2 : Int) (t11_2 : Int) : K :=
  Ar (IntKind.wrap .i64 (t11_2 + 1)) fun t22 =>
  X1 size3_2 t22
def slices_Concat_s_string_string.b3 (Q : Sl → K) (X1 : Int → Int → K) (X3 : Sl → Int → K) (t25_3 : Sl) (t26_3 : Int) (newslice6_3 : Sl) (t27_3 : Int) : K :=
  Ite (decide (t27_3 < t26_3))
    (Idx t25_3 t27_3 1 fun t29 =>
    Ld t29 Sl.val fun t30 =>
    Do Try.prog (Builtin.append_ #[37, 37] 37 #[(Sl.val newslice6_3), (Sl.val t30)]) Sl.val fun t33 =>
    Ar (IntKind.wrap .i64 (t27_3 + 1)) fun t34 =>
    X3 t33 t34)
    (Q newslice6_3)
def slices_Concat_s_string_string.b1 (Q : Sl → K)  (X1 : Int → Int → K) (slices0_1 : Sl) (t9_1 : Sl) (t10_1 : Int) (size3_1 : Int) (t11_1 : Int) : K :=
  Ite (decide (t11_1 < t10_1))
    (Idx t9_1 t11_1 1 fun t13 =>
    Ld t13 Sl.val fun t14 =>
    Ar (IntKind.wrap .i64 (size3_1 + (t14.n : Int))) fun t18 =>
    Ite (decide (t18 < 0))
      (Rd Try.prog (Instr.makeInterface 9 (.string ⟨#[108, 101, 110, 32, 111, 117, 116, 32, 111, 102, 32, 114, 97, 110, 103, 101]⟩)) id fun t21 =>
      Dead)
      (slices_Concat_s_string_string.s2 Q X1 slices0_1 t18 t9_1 t10_1 t11_1))
    (slices_Grow_s_string_string.call (Sl.mk none 0 0) size3_1 fun t24 =>
    LoopK (α := Sl × Int) (fun X x => slices_Concat_s_string_string.b3 Q X1 (fun newslice6_3 t27_3 => X (newslice6_3, t27_3)) slices0_1 (slices0_1.n : Int) x.1 x.2) (t24, 0))
def slices_Concat_s_string_string (slices0 : Sl) (Q : Sl → K) : K :=
  LoopK (α := Int × Int) (fun X x => slices_Concat_s_string_string.b1 Q (fun size3_1 t11_1 => X (size3_1, t11_1)) slices0 slices0 (slices0.n : Int) x.1 x.2) (0, 0)
theorem slices_Concat_s_string_string_ok (slices0 : Sl) (Q : Sl → K) (w : World) (h : slices_Concat_s_string_string slices0 Q w) : slices_Concat_s_string_string.call slices0 Q w := by
  unfold slices_Concat_s_string_string.call CallF
  refine f_start (args := [(Sl.val slices0)]) Try.func153 rfl (Nat.le_of_ble_eq_true rfl) ?_
  intro a hs
  unfold slices_Concat_s_string_string at h
  refine wp_seq_k fun K1 hK1 => ?_
  refine wp_region_lit ?_
  refine t_pure hs rfl rfl (by decide) (p_assign rfl rfl) ?_
  clear hs a; intro a hs
  refine hK1 _ _ ?_
  refine wp_seq_k fun K2 hK2 => ?_
  refine wp_region_lit ?_
  refine t_pure hs rfl rfl (by decide) (p_assign rfl rfl) ?_
  clear hs a; intro a hs
  refine hK2 _ _ ?_
  refine wp_seq_k fun K3 hK3 => ?_
  refine wp_seq_k fun K4 hK4 => ?_
  refine wp_region_lit ?_
  refine t_pure hs rfl rfl (by decide) (p_move rfl rfl) ?_
  clear hs a; intro a hs
  refine t_pure hs rfl rfl (by decide) (p_len rfl rfl sl_28) ?_
  clear hs a; intro a hs
  refine t_pure hs rfl rfl (by decide) (p_move rfl rfl) ?_
  clear hs a; intro a hs
  refine hK4 _ _ ?_
  refine wp_block ?_
  obtain ⟨I1, μ1, h0, hr⟩ := h
  refine c_loop (α := Int × Int) I1 μ1 (fun x a => Slots a 36 [(0, (Sl.val slices0)), (3, (.int .i64 x.1)), (9, (Sl.val slices0)), (10, (.int .i64 (slices0.n : Int))), (11, (.int .i64 x.2))]) (0, 0) h0 (hs.to ⟨rfl, rfl, rfl, rfl, rfl, trivial⟩) ?_
  clear h0 hs a
  rintro ⟨size3_1, t11_1⟩ a w hI hs
  have h : slices_Concat_s_string_string.b1 Q (fun size3_1n t11_1n w' => I1 (size3_1n, t11_1n) w' ∧ μ1 (size3_1n, t11_1n) w' < μ1 (size3_1, t11_1) w) slices0 slices0 (slices0.n : Int) size3_1 t11_1 w := hr (size3_1, t11_1) w hI
  clear hr hI
  generalize hX1 : (fun size3_1n t11_1n w' => I1 (size3_1n, t11_1n) w' ∧ μ1 (size3_1n, t11_1n) w' < μ1 (size3_1, t11_1) w) = X1 at h
  unfold slices_Concat_s_string_string.b1 at h
  replace hs : Slots a 36 [(0, (Sl.val slices0)), (3, (.int .i64 size3_1)), (9, (Sl.val slices0)), (10, (.int .i64 (slices0.n : Int))), (11, (.int .i64 t11_1))] := hs
  refine wp_seq_k fun K5 hK5 => ?_
  refine wp_region_lit ?_
  refine t_pure hs rfl rfl (by decide) (p_lt rfl rfl rfl) ?_
  clear hs a; intro a hs
  refine hK5 _ _ ?_
  refine wp_seq_k fun K6 hK6 => ?_
  refine c_cond hs rfl (fun hb => ?_) (fun hb => ?_)
  · replace h := h.1 hb
    clear hb
    refine wp_skip ?_
    refine hK6 _ _ ?_
    refine wp_seq_k fun K7 hK7 => ?_
    have J2 : ∀ (size3_2 : Int) (a : Act) (w : World), Slots a 36 [(0, (Sl.val slices0)), (3, (.int .i64 size3_2)), (9, (Sl.val slices0)), (10, (.int .i64 (slices0.n : Int))), (11, (.int .i64 t11_1))] → slices_Concat_s_string_string.s2 Q X1 slices0 size3_2 slices0 (slices0.n : Int) t11_1 w → K7 a w := by
      clear h hs
      intro size3_2 a w hs h
      refine hK7 _ _ ?_
      unfold slices_Concat_s_string_string.s2 at h
      refine wp_region_lit ?_
      obtain ⟨t22, he, h⟩ := h
      refine t_pure hs rfl rfl (by decide) (Pure.int he (p_add rfl rfl rfl)) ?_
      clear hs a he; intro a hs
      refine t_pure hs rfl rfl (by decide) (p_move rfl rfl) ?_
      clear hs a; intro a hs
      rw [← hX1] at h
      exact ⟨(size3_2, t22), hs.to ⟨rfl, rfl, rfl, rfl, rfl, trivial⟩, h⟩
    clear hK7
    refine wp_block ?_
    refine wp_seq_k fun K8 hK8 => ?_
    refine wp_region_lit ?_
    obtain ⟨qt13, t13, ha, h0, h1, he, h⟩ := h
    refine t_pure hs rfl rfl (by decide) (Pure.adr he (p_idx rfl rfl rfl sl_28 ha h0 h1)) ?_
    clear hs a ha h0 h1 he; intro a hs
    obtain ⟨t14, hv, h⟩ := h
    refine t_eff hs rfl rfl (by decide) (e_load rfl rfl ct_37 hv) ?_
    clear hs a hv; intro a hs
    refine t_pure hs rfl rfl (by decide) (p_assign rfl rfl) ?_
    clear hs a; intro a hs
    refine hK8 _ _ ?_
    refine wp_seq_k fun K9 hK9 => ?_
    refine wp_region_lit ?_
    refine t_pure hs rfl rfl (by decide) (p_move rfl rfl) ?_
    clear hs a; intro a hs
    refine t_pure hs rfl rfl (by decide) (p_move rfl rfl) ?_
    clear hs a; intro a hs
    refine t_pure hs rfl rfl (by decide) (p_len rfl rfl sl_37) ?_
    clear hs a; intro a hs
    obtain ⟨t18, he, h⟩ := h
    refine t_pure hs rfl rfl (by decide) (Pure.int he (p_add rfl rfl rfl)) ?_
    clear hs a he; intro a hs
    refine t_pure hs rfl rfl (by decide) (p_assign rfl rfl) ?_
    clear hs a; intro a hs
    refine hK9 _ _ ?_
    refine wp_seq_k fun K10 hK10 => ?_
    refine wp_region_lit ?_
    refine t_pure hs rfl rfl (by decide) (p_move rfl rfl) ?_
    clear hs a; intro a hs
    refine t_pure hs rfl rfl (by decide) (p_lt rfl rfl rfl) ?_
    clear hs a; intro a hs
    refine hK10 _ _ ?_
    refine c_cond hs rfl (fun hb => ?_) (fun hb => ?_)
    · replace h := h.1 hb
      clear hb
      refine wp_region_lit ?_
      obtain ⟨t21, hd, h⟩ := h
      refine t_eff hs rfl rfl (by decide) (e_makeInterface rfl rfl hd) ?_
      clear hs a hd; intro a hs
      exact h.elim
    · replace h := h.2 hb
      clear hb
      refine wp_skip ?_
      exact J2 t18 _ _ (hs.to ⟨rfl, rfl, rfl, rfl, rfl, trivial⟩) h
  · replace h := h.2 hb
    clear hb
    refine wp_exit ?_
    refine hK3 _ _ ?_
    refine wp_seq_k fun K11 hK11 => ?_
    refine wp_region_lit ?_
    refine t_pure hs rfl rfl (by decide) (p_move rfl rfl) ?_
    clear hs a; intro a hs
    refine t_call hs rfl rfl (by decide) (e_call rfl rfl rfl cb_156) h ?_
    clear hs a h
    intro v a w hk hs
    obtain ⟨t24, rfl, h⟩ := hk
    refine t_pure hs rfl rfl (by decide) (p_assign rfl rfl) ?_
    clear hs a; intro a hs
    refine hK11 _ _ ?_
    refine wp_seq_k fun K12 hK12 => ?_
    refine wp_seq_k fun K13 hK13 => ?_
    refine wp_region_lit ?_
    refine t_pure hs rfl rfl (by decide) (p_move rfl rfl) ?_
    clear hs a; intro a hs
    refine t_pure hs rfl rfl (by decide) (p_len rfl rfl sl_28) ?_
    clear hs a; intro a hs
    refine t_pure hs rfl rfl (by decide) (p_move rfl rfl) ?_
    clear hs a; intro a hs
    refine hK13 _ _ ?_
    refine wp_block ?_
    obtain ⟨I3, μ3, h0, hr⟩ := h
    refine c_loop (α := Sl × Int) I3 μ3 (fun x a => Slots a 36 [(6, (Sl.val x.1)), (25, (Sl.val slices0)), (26, (.int .i64 (slices0.n : Int))), (27, (.int .i64 x.2))]) (t24, 0) h0 (hs.to ⟨rfl, rfl, rfl, rfl, trivial⟩) ?_
    clear h0 hs a
    rintro ⟨newslice6_3, t27_3⟩ a w hI hs
    have h : slices_Concat_s_string_string.b3 Q X1 (fun newslice6_3n t27_3n w' => I3 (newslice6_3n, t27_3n) w' ∧ μ3 (newslice6_3n, t27_3n) w' < μ3 (newslice6_3, t27_3) w) slices0 (slices0.n : Int) newslice6_3 t27_3 w := hr (newslice6_3, t27_3) w hI
    clear hr hI
    generalize hX3 : (fun newslice6_3n t27_3n w' => I3 (newslice6_3n, t27_3n) w' ∧ μ3 (newslice6_3n, t27_3n) w' < μ3 (newslice6_3, t27_3) w) = X3 at h
    unfold slices_Concat_s_string_string.b3 at h
    replace hs : Slots a 36 [(6, (Sl.val newslice6_3)), (25, (Sl.val slices0)), (26, (.int .i64 (slices0.n : Int))), (27, (.int .i64 t27_3))] := hs
    refine wp_seq_k fun K14 hK14 => ?_
    refine wp_region_lit ?_
    refine t_pure hs rfl rfl (by decide) (p_lt rfl rfl rfl) ?_
    clear hs a; intro a hs
    refine hK14 _ _ ?_
    refine wp_seq_k fun K15 hK15 => ?_
    refine c_cond hs rfl (fun hb => ?_) (fun hb => ?_)
    · replace h := h.1 hb
      clear hb
      refine wp_skip ?_
      refine hK15 _ _ ?_
      refine wp_seq_k fun K16 hK16 => ?_
      refine wp_block ?_
      refine wp_seq_k fun K17 hK17 => ?_
      refine wp_region_lit ?_
      obtain ⟨qt29, t29, ha, h0, h1, he, h⟩ := h
      refine t_pure hs rfl rfl (by decide) (Pure.adr he (p_idx rfl rfl rfl sl_28 ha h0 h1)) ?_
      clear hs a ha h0 h1 he; intro a hs
      obtain ⟨t30, hv, h⟩ := h
      refine t_eff hs rfl rfl (by decide) (e_load rfl rfl ct_37 hv) ?_
      clear hs a hv; intro a hs
      refine t_pure hs rfl rfl (by decide) (p_assign rfl rfl) ?_
      clear hs a; intro a hs
      refine hK17 _ _ ?_
      refine wp_region_lit ?_
      refine t_pure hs rfl rfl (by decide) (p_move rfl rfl) ?_
      clear hs a; intro a hs
      refine t_pure hs rfl rfl (by decide) (p_move rfl rfl) ?_
      clear hs a; intro a hs
      obtain ⟨t33, w1, hd, h⟩ := h
      refine t_eff hs rfl rfl (by decide) (e_append rfl rfl rfl rfl hd) ?_
      clear hs a hd; intro a hs
      refine t_pure hs rfl rfl (by decide) (p_assign rfl rfl) ?_
      clear hs a; intro a hs
      refine hK16 _ _ ?_
      refine wp_region_lit ?_
      obtain ⟨t34, he, h⟩ := h
      refine t_pure hs rfl rfl (by decide) (Pure.int he (p_add rfl rfl rfl)) ?_
      clear hs a he; intro a hs
      refine t_pure hs rfl rfl (by decide) (p_move rfl rfl) ?_
      clear hs a; intro a hs
      rw [← hX3] at h
      exact ⟨(t33, t34), hs.to ⟨rfl, rfl, rfl, rfl, trivial⟩, h⟩
    · replace h := h.2 hb
      clear hb
      refine wp_exit ?_
      refine hK12 _ _ ?_
      refine wp_seq_k fun K18 hK18 => ?_
      refine wp_region_lit ?_
      refine t_pure hs rfl rfl (by decide) (p_move rfl rfl) ?_
      clear hs a; intro a hs
      refine t_pure hs rfl rfl (by decide) (p_assign rfl rfl) ?_
      clear hs a; intro a hs
      refine hK18 _ _ ?_
      refine wp_ret ?_
      refine f_ret (fn := Try.f153) hs (fun a hs => r_one hs rfl (rfl)) ⟨newslice6_3, rfl, h⟩
def slices_Compact_s_string_string.s3 (Q : Sl → K) (X1 : Int → K) (X2 : Int → Int → K) (s0_3 : Sl) (k3_3 : Int) (s4_3 : Sl) (k5_3 : Int) : K :=
  Ar (IntKind.wrap .i64 (k5_3 + 1)) fun t34 =>
  X2 k3_3 t34
def slices_Compact_s_string_string.b2 (Q : Sl → K) (X1 : Int → K) (X2 : Int → Int → K) (s0_2 : Sl) (s4_2 : Sl) (k3_2 : Int) (k5_2 : Int) : K :=
  Ite (decide (k5_2 < (s4_2.n : Int)))
    (Dr <|
    Idx s4_2 k5_2 1 fun t37 =>
    Ld t37 Value.string fun t38 =>
    Ar (IntKind.wrap .i64 (k5_2 - 1)) fun t41 =>
    Idx s4_2 t41 1 fun t42 =>
    Ld t42 Value.string fun t43 =>
    Ite (!(t38.toList == t43.toList))
      (Idx s4_2 k5_2 1 fun t49 =>
      Ld t49 Value.string fun t50 =>
      Idx s0_2 k3_2 1 fun t51 =>
      St t51 (.string t50) <|
      Ar (IntKind.wrap .i64 (k3_2 + 1)) fun t53 =>
      slices_Compact_s_string_string.s3 Q X1 X2 s0_2 t53 s4_2 k5_2)
      (slices_Compact_s_string_string.s3 Q X1 X2 s0_2 k3_2 s4_2 k5_2))
    (Slc s0_2 k3_2 (s0_2.n : Int) (s0_2.c : Int) 1 fun t56 =>
    Do Try.prog (Builtin.clear_ #[37] 0 #[(Sl.val t56)]) id fun _ =>
    Slc s0_2 0 k3_2 (s0_2.c : Int) 1 fun t59 =>
    Q t59)
def slices_Compact_s_string_string.b1 (Q : Sl → K)  (X1 : Int → K) (s0_1 : Sl) (k3_1 : Int) : K :=
  Ite (decide (k3_1 < (s0_1.n : Int)))
    (Dr <|
    Idx s0_1 k3_1 1 fun t18 =>
    Ld t18 Value.string fun t19 =>
    Ar (IntKind.wrap .i64 (k3_1 - 1)) fun t22 =>
    Idx s0_1 t22 1 fun t23 =>
    Ld t23 Value.string fun t24 =>
    Ite (t19.toList == t24.toList)
      (Slc s0_1 k3_1 (s0_1.n : Int) (s0_1.c : Int) 1 fun t28 =>
      LoopK (α := Int × Int) (fun X x => slices_Compact_s_string_string.b2 Q X1 (fun k3_2 k5_2 => X (k3_2, k5_2)) s0_1 t28 x.1 x.2) (k3_1, 1))
      (Ar (IntKind.wrap .i64 (k3_1 + 1)) fun t15 =>
      X1 t15))
    (Q s0_1)
def slices_Compact_s_string_string (s0 : Sl) (Q : Sl → K) : K :=
  Ite (decide ((s0.n : Int) < 2))
    (Q s0)
    (LoopK (α := Int) (fun X x => slices_Compact_s_string_string.b1 Q X s0 x) 1)
theorem slices_Compact_s_string_string_ok (s0 : Sl) (Q : Sl → K) (w : World) (h : slices_Compact_s_string_string s0 Q w) : slices_Compact_s_string_string.call s0 Q w := by
  unfold slices_Compact_s_string_string.call CallF
  refine f_start (args := [(Sl.val s0)]) Try.func154 rfl (Nat.le_of_ble_eq_true rfl) ?_
  intro a hs
  unfold slices_Compact_s_string_string at h
  refine wp_seq_k fun K1 hK1 => ?_
  refine wp_region_lit ?_
  refine t_pure hs rfl rfl (by decide) (p_assign rfl rfl) ?_
  clear hs a; intro a hs
  refine hK1 _ _ ?_
  refine wp_seq_k fun K2 hK2 => ?_
  refine wp_seq_k fun K3 hK3 => ?_
  refine wp_region_lit ?_
  refine t_pure hs rfl rfl (by decide) (p_move rfl rfl) ?_
  clear hs a; intro a hs
  refine t_pure hs rfl rfl (by decide) (p_len rfl rfl sl_37) ?_
  clear hs a; intro a hs
  refine t_pure hs rfl rfl (by decide) (p_lt rfl rfl rfl) ?_
  clear hs a; intro a hs
  refine hK3 _ _ ?_
  refine c_cond hs rfl (fun hb => ?_) (fun hb => ?_)
  · replace h := h.1 hb
    clear hb
    refine wp_seq_k fun K4 hK4 => ?_
    refine wp_region_lit ?_
    refine t_pure hs rfl rfl (by decide) (p_move rfl rfl) ?_
    clear hs a; intro a hs
    refine t_pure hs rfl rfl (by decide) (p_assign rfl rfl) ?_
    clear hs a; intro a hs
    refine hK4 _ _ ?_
    refine wp_ret ?_
    refine f_ret (fn := Try.f154) hs (fun a hs => r_one hs rfl (rfl)) ⟨s0, rfl, h⟩
  · replace h := h.2 hb
    clear hb
    refine wp_skip ?_
    refine hK2 _ _ ?_
    refine wp_seq_k fun K5 hK5 => ?_
    refine wp_seq_k fun K6 hK6 => ?_
    refine wp_region_lit ?_
    refine t_pure hs rfl rfl (by decide) (p_assign rfl rfl) ?_
    clear hs a; intro a hs
    refine hK6 _ _ ?_
    refine wp_block ?_
    obtain ⟨I1, μ1, h0, hr⟩ := h
    refine c_loop (α := Int) I1 μ1 (fun x a => Slots a 61 [(0, (Sl.val s0)), (3, (.int .i64 x))]) 1 h0 (hs.to ⟨rfl, rfl, trivial⟩) ?_
    clear h0 hs a
    intro k3_1 a w hI hs
    have h : slices_Compact_s_string_string.b1 Q (fun k3_1n w' => I1 k3_1n w' ∧ μ1 k3_1n w' < μ1 k3_1 w) s0 k3_1 w := hr k3_1 w hI
    clear hr hI
    generalize hX1 : (fun k3_1n w' => I1 k3_1n w' ∧ μ1 k3_1n w' < μ1 k3_1 w) = X1 at h
    unfold slices_Compact_s_string_string.b1 at h
    replace hs : Slots a 61 [(0, (Sl.val s0)), (3, (.int .i64 k3_1))] := hs
    refine wp_seq_k fun K7 hK7 => ?_
    refine wp_seq_k fun K8 hK8 => ?_
    refine wp_region_lit ?_
    refine t_pure hs rfl rfl (by decide) (p_move rfl rfl) ?_
    clear hs a; intro a hs
    refine t_pure hs rfl rfl (by decide) (p_move rfl rfl) ?_
    clear hs a; intro a hs
    refine t_pure hs rfl rfl (by decide) (p_len rfl rfl sl_37) ?_
    clear hs a; intro a hs
    refine t_pure hs rfl rfl (by decide) (p_lt rfl rfl rfl) ?_
    clear hs a; intro a hs
    refine hK8 _ _ ?_
    refine c_cond hs rfl (fun hb => ?_) (fun hb => ?_)
    · replace h := h.1 hb
      clear hb
      refine wp_skip ?_
      refine hK7 _ _ ?_
      refine wp_seq_k fun K9 hK9 => ?_
      refine wp_block ?_
      refine wp_seq_k fun K10 hK10 => ?_
      obtain ⟨w1, hw1, h⟩ := h
      refine s_start mixed (by kernel_rfl) hw1 ?_
      clear hw1
      refine s_pure hs rfl rfl (by decide) (p_move rfl rfl) ?_
      clear hs a; intro a hs
      refine s_pure hs rfl rfl (by decide) (p_move rfl rfl) ?_
      clear hs a; intro a hs
      obtain ⟨qt18, t18, ha, h0, h1, he, h⟩ := h
      refine s_pure hs rfl rfl (by decide) (Pure.adr he (p_idx rfl rfl rfl sl_37 ha h0 h1)) ?_
      clear hs a ha h0 h1 he; intro a hs
      obtain ⟨t19, hv, h⟩ := h
      refine s_eff hs rfl rfl (by decide) (e_load rfl rfl ct_9 hv) ?_
      clear hs a hv; intro a hs
      refine s_pure hs rfl rfl (by decide) (p_move rfl rfl) ?_
      clear hs a; intro a hs
      refine s_pure hs rfl rfl (by decide) (p_move rfl rfl) ?_
      clear hs a; intro a hs
      obtain ⟨t22, he, h⟩ := h
      refine s_pure hs rfl rfl (by decide) (Pure.int he (p_sub rfl rfl rfl)) ?_
      clear hs a he; intro a hs
      obtain ⟨qt23, t23, ha, h0, h1, he, h⟩ := h
      refine s_pure hs rfl rfl (by decide) (Pure.adr he (p_idx rfl rfl rfl sl_37 ha h0 h1)) ?_
      clear hs a ha h0 h1 he; intro a hs
      replace hs := hs.to (τ := [(0, (Sl.val s0)), (3, (.int .i64 k3_1)), (19, (.string t19)), (23, (.pointer (some t23)))]) ⟨rfl, rfl, rfl, rfl, trivial⟩
      obtain ⟨t24, hv, h⟩ := h
      refine s_eff hs rfl rfl (by decide) (e_load rfl rfl ct_9 hv) ?_
      clear hs a hv; intro a hs
      refine s_pure hs rfl rfl (by decide) (p_eqs rfl rfl rfl) ?_
      clear hs a; intro a hs
      refine hK10 _ _ ?_
      refine c_cond hs rfl (fun hb => ?_) (fun hb => ?_)
      · replace h := h.1 hb
        clear hb
        refine wp_seq_k fun K11 hK11 => ?_
        refine wp_region_lit ?_
        refine t_pure hs rfl rfl (by decide) (p_move rfl rfl) ?_
        clear hs a; intro a hs
        refine t_pure hs rfl rfl (by decide) (p_move rfl rfl) ?_
        clear hs a; intro a hs
        obtain ⟨t28, h0, h1, h2, h3, he, h⟩ := h
        refine t_pure hs rfl rfl (by decide) (Pure.sl he (p_slc rfl rfl sl_37 ⟨_, rfl⟩ rfl rfl (by decide) h0 h1 h2 h3)) ?_
        clear hs a h0 h1 h2 h3 he; intro a hs
        refine t_pure hs rfl rfl (by decide) (p_assign rfl rfl) ?_
        clear hs a; intro a hs
        refine hK11 _ _ ?_
        refine wp_seq_k fun K12 hK12 => ?_
        refine wp_seq_k fun K13 hK13 => ?_
        refine wp_region_lit ?_
        refine t_pure hs rfl rfl (by decide) (p_assign rfl rfl) ?_
        clear hs a; intro a hs
        refine hK13 _ _ ?_
        refine wp_block ?_
        obtain ⟨I2, μ2, h0, hr⟩ := h
        refine c_loop (α := Int × Int) I2 μ2 (fun x a => Slots a 61 [(0, (Sl.val s0)), (3, (.int .i64 x.1)), (4, (Sl.val t28)), (5, (.int .i64 x.2))]) (k3_1, 1) h0 (hs.to ⟨rfl, rfl, rfl, rfl, trivial⟩) ?_
        clear h0 hs a
        rintro ⟨k3_2, k5_2⟩ a w hI hs
        have h : slices_Compact_s_string_string.b2 Q X1 (fun k3_2n k5_2n w' => I2 (k3_2n, k5_2n) w' ∧ μ2 (k3_2n, k5_2n) w' < μ2 (k3_2, k5_2) w) s0 t28 k3_2 k5_2 w := hr (k3_2, k5_2) w hI
        clear hr hI
        generalize hX2 : (fun k3_2n k5_2n w' => I2 (k3_2n, k5_2n) w' ∧ μ2 (k3_2n, k5_2n) w' < μ2 (k3_2, k5_2) w) = X2 at h
        unfold slices_Compact_s_string_string.b2 at h
        replace hs : Slots a 61 [(0, (Sl.val s0)), (3, (.int .i64 k3_2)), (4, (Sl.val t28)), (5, (.int .i64 k5_2))] := hs
        refine wp_seq_k fun K14 hK14 => ?_
        refine wp_seq_k fun K15 hK15 => ?_
        refine wp_region_lit ?_
        refine t_pure hs rfl rfl (by decide) (p_move rfl rfl) ?_
        clear hs a; intro a hs
        refine t_pure hs rfl rfl (by decide) (p_move rfl rfl) ?_
        clear hs a; intro a hs
        refine t_pure hs rfl rfl (by decide) (p_len rfl rfl sl_37) ?_
        clear hs a; intro a hs
        refine t_pure hs rfl rfl (by decide) (p_lt rfl rfl rfl) ?_
        clear hs a; intro a hs
        refine hK15 _ _ ?_
        refine c_cond hs rfl (fun hb => ?_) (fun hb => ?_)
        · replace h := h.1 hb
          clear hb
          refine wp_skip ?_
          refine hK14 _ _ ?_
          refine wp_seq_k fun K16 hK16 => ?_
          have J3 : ∀ (k3_3 : Int) (a : Act) (w : World), Slots a 61 [(0, (Sl.val s0)), (3, (.int .i64 k3_3)), (4, (Sl.val t28)), (5, (.int .i64 k5_2))] → slices_Compact_s_string_string.s3 Q X1 X2 s0 k3_3 t28 k5_2 w → K16 a w := by
            clear h hs
            intro k3_3 a w hs h
            refine hK16 _ _ ?_
            unfold slices_Compact_s_string_string.s3 at h
            refine wp_region_lit ?_
            refine t_pure hs rfl rfl (by decide) (p_move rfl rfl) ?_
            clear hs a; intro a hs
            obtain ⟨t34, he, h⟩ := h
            refine t_pure hs rfl rfl (by decide) (Pure.int he (p_add rfl rfl rfl)) ?_
            clear hs a he; intro a hs
            refine t_pure hs rfl rfl (by decide) (p_assign rfl rfl) ?_
            clear hs a; intro a hs
            rw [← hX2] at h
            exact ⟨(k3_3, t34), hs.to ⟨rfl, rfl, rfl, rfl, trivial⟩, h⟩
          clear hK16
          refine wp_block ?_
          refine wp_seq_k fun K17 hK17 => ?_
          obtain ⟨w1, hw1, h⟩ := h
          refine s_start mixed (by kernel_rfl) hw1 ?_
          clear hw1
          refine s_pure hs rfl rfl (by decide) (p_move rfl rfl) ?_
          clear hs a; intro a hs
          refine s_pure hs rfl rfl (by decide) (p_move rfl rfl) ?_
          clear hs a; intro a hs
          obtain ⟨qt37, t37, ha, h0, h1, he, h⟩ := h
          refine s_pure hs rfl rfl (by decide) (Pure.adr he (p_idx rfl rfl rfl sl_37 ha h0 h1)) ?_
          clear hs a ha h0 h1 he; intro a hs
          obtain ⟨t38, hv, h⟩ := h
          refine s_eff hs rfl rfl (by decide) (e_load rfl rfl ct_9 hv) ?_
          clear hs a hv; intro a hs
          refine s_pure hs rfl rfl (by decide) (p_move rfl rfl) ?_
          clear hs a; intro a hs
          refine s_pure hs rfl rfl (by decide) (p_move rfl rfl) ?_
          clear hs a; intro a hs
          obtain ⟨t41, he, h⟩ := h
          refine s_pure hs rfl rfl (by decide) (Pure.int he (p_sub rfl rfl rfl)) ?_
          clear hs a he; intro a hs
          obtain ⟨qt42, t42, ha, h0, h1, he, h⟩ := h
          refine s_pure hs rfl rfl (by decide) (Pure.adr he (p_idx rfl rfl rfl sl_37 ha h0 h1)) ?_
          clear hs a ha h0 h1 he; intro a hs
          replace hs := hs.to (τ := [(0, (Sl.val s0)), (3, (.int .i64 k3_2)), (4, (Sl.val t28)), (5, (.int .i64 k5_2)), (38, (.string t38)), (42, (.pointer (some t42)))]) ⟨rfl, rfl, rfl, rfl, rfl, rfl, trivial⟩
          obtain ⟨t43, hv, h⟩ := h
          refine s_eff hs rfl rfl (by decide) (e_load rfl rfl ct_9 hv) ?_
          clear hs a hv; intro a hs
          refine s_pure hs rfl rfl (by decide) (p_nes rfl rfl rfl) ?_
          clear hs a; intro a hs
          refine hK17 _ _ ?_
          refine c_cond hs rfl (fun hb => ?_) (fun hb => ?_)
          · replace h := h.1 hb
            clear hb
            refine wp_seq_k fun K18 hK18 => ?_
            refine wp_region_lit ?_
            refine t_pure hs rfl rfl (by decide) (p_move rfl rfl) ?_
            clear hs a; intro a hs
            refine t_pure hs rfl rfl (by decide) (p_move rfl rfl) ?_
            clear hs a; intro a hs
            refine t_pure hs rfl rfl (by decide) (p_move rfl rfl) ?_
            clear hs a; intro a hs
            refine t_pure hs rfl rfl (by decide) (p_move rfl rfl) ?_
            clear hs a; intro a hs
            obtain ⟨qt49, t49, ha, h0, h1, he, h⟩ := h
            refine t_pure hs rfl rfl (by decide) (Pure.adr he (p_idx rfl rfl rfl sl_37 ha h0 h1)) ?_
            clear hs a ha h0 h1 he; intro a hs
            obtain ⟨t50, hv, h⟩ := h
            refine t_eff hs rfl rfl (by decide) (e_load rfl rfl ct_9 hv) ?_
            clear hs a hv; intro a hs
            obtain ⟨qt51, t51, ha, h0, h1, he, h⟩ := h
            refine t_pure hs rfl rfl (by decide) (Pure.adr he (p_idx rfl rfl rfl sl_37 ha h0 h1)) ?_
            clear hs a ha h0 h1 he; intro a hs
            obtain ⟨w1, hw, hc, hf, hv, h⟩ := h
            refine t_skip hs rfl rfl (e_store rfl rfl rfl sz_9 hw hc hf hv) ?_
            clear hs a hw hc hf hv; intro a hs
            refine hK18 _ _ ?_
            refine wp_region_lit ?_
            refine t_pure hs rfl rfl (by decide) (p_move rfl rfl) ?_
            clear hs a; intro a hs
            obtain ⟨t53, he, h⟩ := h
            refine t_pure hs rfl rfl (by decide) (Pure.int he (p_add rfl rfl rfl)) ?_
            clear hs a he; intro a hs
            refine t_pure hs rfl rfl (by decide) (p_assign rfl rfl) ?_
            clear hs a; intro a hs
            exact J3 t53 _ _ (hs.to ⟨rfl, rfl, rfl, rfl, trivial⟩) h
          · replace h := h.2 hb
            clear hb
            refine wp_skip ?_
            exact J3 k3_2 _ _ (hs.to ⟨rfl, rfl, rfl, rfl, trivial⟩) h
        · replace h := h.2 hb
          clear hb
          refine wp_exit ?_
          refine hK12 _ _ ?_
          refine wp_seq_k fun K19 hK19 => ?_
          refine wp_region_lit ?_
          refine t_pure hs rfl rfl (by decide) (p_move rfl rfl) ?_
          clear hs a; intro a hs
          refine t_pure hs rfl rfl (by decide) (p_move rfl rfl) ?_
          clear hs a; intro a hs
          obtain ⟨t56, h0, h1, h2, h3, he, h⟩ := h
          refine t_pure hs rfl rfl (by decide) (Pure.sl he (p_slc rfl rfl sl_37 ⟨_, rfl⟩ rfl rfl (by decide) h0 h1 h2 h3)) ?_
          clear hs a h0 h1 h2 h3 he; intro a hs
          obtain ⟨u1, w1, hd, h⟩ := h
          refine t_none hs rfl rfl (e_clear rfl rfl rfl hd) ?_
          clear hs a hd; intro a hs
          refine hK19 _ _ ?_
          refine wp_seq_k fun K20 hK20 => ?_
          refine wp_region_lit ?_
          refine t_pure hs rfl rfl (by decide) (p_move rfl rfl) ?_
          clear hs a; intro a hs
          refine t_pure hs rfl rfl (by decide) (p_move rfl rfl) ?_
          clear hs a; intro a hs
          obtain ⟨t59, h0, h1, h2, h3, he, h⟩ := h
          refine t_pure hs rfl rfl (by decide) (Pure.sl he (p_slc rfl rfl sl_37 rfl ⟨_, rfl⟩ rfl (by decide) h0 h1 h2 h3)) ?_
          clear hs a h0 h1 h2 h3 he; intro a hs
          refine t_pure hs rfl rfl (by decide) (p_assign rfl rfl) ?_
          clear hs a; intro a hs
          refine hK20 _ _ ?_
          refine wp_ret ?_
          refine f_ret (fn := Try.f154) hs (fun a hs => r_one hs rfl (rfl)) ⟨t59, rfl, h⟩
      · replace h := h.2 hb
        clear hb
        refine wp_skip ?_
        refine hK9 _ _ ?_
        refine wp_region_lit ?_
        refine t_pure hs rfl rfl (by decide) (p_move rfl rfl) ?_
        clear hs a; intro a hs
        obtain ⟨t15, he, h⟩ := h
        refine t_pure hs rfl rfl (by decide) (Pure.int he (p_add rfl rfl rfl)) ?_
        clear hs a he; intro a hs
        refine t_pure hs rfl rfl (by decide) (p_assign rfl rfl) ?_
        clear hs a; intro a hs
        rw [← hX1] at h
        exact ⟨t15, hs.to ⟨rfl, rfl, trivial⟩, h⟩
    · replace h := h.2 hb
      clear hb
      refine wp_exit ?_
      refine hK5 _ _ ?_
      refine wp_seq_k fun K21 hK21 => ?_
      refine wp_region_lit ?_
      refine t_pure hs rfl rfl (by decide) (p_move rfl rfl) ?_
      clear hs a; intro a hs
      refine t_pure hs rfl rfl (by decide) (p_assign rfl rfl) ?_
      clear hs a; intro a hs
      refine hK21 _ _ ?_
      refine wp_ret ?_
      refine f_ret (fn := Try.f154) hs (fun a hs => r_one hs rfl (rfl)) ⟨s0, rfl, h⟩
def slices_Grow_s_string_string.s2 (Q : Sl → K)  (s0_2 : Sl) : K :=
  Q s0_2
def slices_Grow_s_string_string.s1 (Q : Sl → K)  (s0_1 : Sl) (n1_1 : Int) : K :=
  Do Try.prog (Builtin.cap_ #[37] 3 #[(Sl.val s0_1)]) (Value.int .i64) fun t10 =>
  Ar (IntKind.wrap .i64 (t10 - (s0_1.n : Int))) fun t13 =>
  Ar (IntKind.wrap .i64 (n1_1 - t13)) fun t14 =>
  Ite (decide ((0 : Int) < t14))
    (Do Try.prog (Builtin.cap_ #[37] 3 #[(Sl.val s0_1)]) (Value.int .i64) fun t19 =>
    Slc s0_1 0 t19 (s0_1.c : Int) 1 fun t20 =>
    Do Try.prog (Builtin.append_ #[37, 3] 37 #[(Sl.val t20), (.int .i64 t14)]) Sl.val fun t22 =>
    Slc t22 0 (s0_1.n : Int) (t22.c : Int) 1 fun t25 =>
    slices_Grow_s_string_string.s2 Q t25)
    (slices_Grow_s_string_string.s2 Q s0_1)
def slices_Grow_s_string_string (s0 : Sl) (n1 : Int) (Q : Sl → K) : K :=
  Ite (decide (n1 < 0))
    (Rd Try.prog (Instr.makeInterface 9 (.string ⟨#[99, 97, 110, 110, 111, 116, 32, 98, 101, 32, 110, 101, 103, 97, 116, 105, 118, 101]⟩)) id fun t7 =>
    Dead)
    (slices_Grow_s_string_string.s1 Q s0 n1)
theorem slices_Grow_s_string_string_ok (s0 : Sl) (n1 : Int) (Q : Sl → K) (w : World) (h : slices_Grow_s_string_string s0 n1 Q w) : slices_Grow_s_string_string.call s0 n1 Q w := by
  unfold slices_Grow_s_string_string.call CallF
  refine f_start (args := [(Sl.val s0), (.int .i64 n1)]) Try.func156 rfl (Nat.le_of_ble_eq_true rfl) ?_
  intro a hs
  unfold slices_Grow_s_string_string at h
  refine wp_seq_k fun K1 hK1 => ?_
  refine wp_region_lit ?_
  refine t_pure hs rfl rfl (by decide) (p_assign rfl rfl) ?_
  clear hs a; intro a hs
  refine hK1 _ _ ?_
  refine wp_seq_k fun K2 hK2 => ?_
  have J1 : ∀ (a : Act) (w : World), Slots a 27 [(0, (Sl.val s0)), (1, (.int .i64 n1))] → slices_Grow_s_string_string.s1 Q s0 n1 w → K2 a w := by
    clear h hs
    intro a w hs h
    refine hK2 _ _ ?_
    unfold slices_Grow_s_string_string.s1 at h
    refine wp_seq_k fun K3 hK3 => ?_
    have J2 : ∀ (s0_2 : Sl) (a : Act) (w : World), Slots a 27 [(0, (Sl.val s0_2))] → slices_Grow_s_string_string.s2 Q s0_2 w → K3 a w := by
      clear h hs
      intro s0_2 a w hs h
      refine hK3 _ _ ?_
      unfold slices_Grow_s_string_string.s2 at h
      refine wp_seq_k fun K4 hK4 => ?_
      refine wp_region_lit ?_
      refine t_pure hs rfl rfl (by decide) (p_move rfl rfl) ?_
      clear hs a; intro a hs
      refine t_pure hs rfl rfl (by decide) (p_assign rfl rfl) ?_
      clear hs a; intro a hs
      refine hK4 _ _ ?_
      refine wp_ret ?_
      refine f_ret (fn := Try.f156) hs (fun a hs => r_one hs rfl (rfl)) ⟨s0_2, rfl, h⟩
    clear hK3
    refine wp_seq_k fun K5 hK5 => ?_
    refine wp_region_lit ?_
    refine t_pure hs rfl rfl (by decide) (p_move rfl rfl) ?_
    clear hs a; intro a hs
    refine t_pure hs rfl rfl (by decide) (p_move rfl rfl) ?_
    clear hs a; intro a hs
    obtain ⟨t10, w1, hd, h⟩ := h
    refine t_eff hs rfl rfl (by decide) (e_cap rfl rfl rfl hd) ?_
    clear hs a hd; intro a hs
    refine t_pure hs rfl rfl (by decide) (p_move rfl rfl) ?_
    clear hs a; intro a hs
    refine t_pure hs rfl rfl (by decide) (p_len rfl rfl sl_37) ?_
    clear hs a; intro a hs
    obtain ⟨t13, he, h⟩ := h
    refine t_pure hs rfl rfl (by decide) (Pure.int he (p_sub rfl rfl rfl)) ?_
    clear hs a he; intro a hs
    obtain ⟨t14, he, h⟩ := h
    refine t_pure hs rfl rfl (by decide) (Pure.int he (p_sub rfl rfl rfl)) ?_
    clear hs a he; intro a hs
    refine t_pure hs rfl rfl (by decide) (p_assign rfl rfl) ?_
    clear hs a; intro a hs
    refine hK5 _ _ ?_
    refine wp_seq_k fun K6 hK6 => ?_
    refine wp_region_lit ?_
    refine t_pure hs rfl rfl (by decide) (p_move rfl rfl) ?_
    clear hs a; intro a hs
    refine t_pure hs rfl rfl (by decide) (p_gt rfl rfl rfl) ?_
    clear hs a; intro a hs
    refine hK6 _ _ ?_
    refine c_cond hs rfl (fun hb => ?_) (fun hb => ?_)
    · replace h := h.1 hb
      clear hb
      refine wp_region_lit ?_
      refine t_pure hs rfl rfl (by decide) (p_move rfl rfl) ?_
      clear hs a; intro a hs
      refine t_pure hs rfl rfl (by decide) (p_move rfl rfl) ?_
      clear hs a; intro a hs
      obtain ⟨t19, w1, hd, h⟩ := h
      refine t_eff hs rfl rfl (by decide) (e_cap rfl rfl rfl hd) ?_
      clear hs a hd; intro a hs
      obtain ⟨t20, h0, h1, h2, h3, he, h⟩ := h
      refine t_pure hs rfl rfl (by decide) (Pure.sl he (p_slc rfl rfl sl_37 rfl ⟨_, rfl⟩ rfl (by decide) h0 h1 h2 h3)) ?_
      clear hs a h0 h1 h2 h3 he; intro a hs
      refine t_pure hs rfl rfl (by decide) (p_move rfl rfl) ?_
      clear hs a; intro a hs
      obtain ⟨t22, w1, hd, h⟩ := h
      refine t_eff hs rfl rfl (by decide) (e_append rfl rfl rfl rfl hd) ?_
      clear hs a hd; intro a hs
      refine t_pure hs rfl rfl (by decide) (p_move rfl rfl) ?_
      clear hs a; intro a hs
      refine t_pure hs rfl rfl (by decide) (p_len rfl rfl sl_37) ?_
      clear hs a; intro a hs
      replace hs := hs.to (τ := [(22, (Sl.val t22)), (24, (.int .i64 (s0.n : Int)))]) ⟨rfl, rfl, trivial⟩
      obtain ⟨t25, h0, h1, h2, h3, he, h⟩ := h
      refine t_pure hs rfl rfl (by decide) (Pure.sl he (p_slc rfl rfl sl_37 rfl ⟨_, rfl⟩ rfl (by decide) h0 h1 h2 h3)) ?_
      clear hs a h0 h1 h2 h3 he; intro a hs
      refine t_pure hs rfl rfl (by decide) (p_assign rfl rfl) ?_
      clear hs a; intro a hs
      exact J2 t25 _ _ (hs.to ⟨rfl, trivial⟩) h
    · replace h := h.2 hb
      clear hb
      refine wp_skip ?_
      exact J2 s0 _ _ (hs.to ⟨rfl, trivial⟩) h
  clear hK2
  refine wp_seq_k fun K7 hK7 => ?_
  refine wp_region_lit ?_
  refine t_pure hs rfl rfl (by decide) (p_move rfl rfl) ?_
  clear hs a; intro a hs
  refine t_pure hs rfl rfl (by decide) (p_lt rfl rfl rfl) ?_
  clear hs a; intro a hs
  refine hK7 _ _ ?_
  refine c_cond hs rfl (fun hb => ?_) (fun hb => ?_)
  · replace h := h.1 hb
    clear hb
    refine wp_region_lit ?_
    obtain ⟨t7, hd, h⟩ := h
    refine t_eff hs rfl rfl (by decide) (e_makeInterface rfl rfl hd) ?_
    clear hs a hd; intro a hs
    exact h.elim
  · replace h := h.2 hb
    clear hb
    refine wp_skip ?_
    exact J1 _ _ (hs.to ⟨rfl, rfl, trivial⟩) h
end Go.Proofs.Ytdpepgjbambinaa
