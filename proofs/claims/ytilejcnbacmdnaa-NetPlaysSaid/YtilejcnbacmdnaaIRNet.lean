/- Plain forms of functions, and that their code comes to them (package net). -/
import Derived.Test.YtilejcnbacmdnaaCalls
namespace Go.Proofs.Ytilejcnbacmdnaa
open Go Go.Sep
set_option linter.unusedVariables false
set_option linter.unusedSimpArgs false
set_option maxRecDepth 100000
set_option maxHeartbeats 4000000
def net_New  (Q : (Option Addr) → K) : K :=
  New 102 #[(Sl.val ⟨none, 0, 0⟩)] fun t2 =>
  Q (some t2)
theorem net_New_ok  (Q : (Option Addr) → K) (w : World) (h : net_New  Q w) : net_New.call  Q w := by
  unfold net_New.call CallF
  refine f_start (args := []) Try.func18 rfl (Nat.le_of_ble_eq_true rfl) ?_
  intro a hs
  unfold net_New at h
  refine wp_seq_k fun K1 hK1 => ?_
  refine wp_region_lit ?_
  refine t_pure hs rfl rfl (by decide) (p_assign rfl rfl) ?_
  clear hs a
  intro a hs
  refine hK1 _ _ ?_
  refine wp_seq_k fun K2 hK2 => ?_
  refine wp_region_lit ?_
  refine t_pure hs rfl rfl (by decide) (e_build (cs := #[(Sl.val ⟨none, 0, 0⟩)]) rfl zt_102 pl_102 rfl rfl) ?_
  clear hs a
  intro a hs
  obtain ⟨t2, w1, ha, hw, h⟩ := h
  refine t_eff hs rfl rfl (by decide) (e_box rfl rfl rfl ha hw) ?_
  clear hs a ha hw
  intro a hs
  refine t_pure hs rfl rfl (by decide) (p_assign rfl rfl) ?_
  clear hs a
  intro a hs
  refine hK2 _ _ ?_
  refine wp_ret ?_
  refine f_ret (fn := Try.f18) hs (fun a hs => r_one hs rfl (rfl)) ⟨(some t2), rfl, h⟩
def net_Net_Send (n0 : (Option Addr)) (p1 : (Array Value)) (Q : Int → K) : K :=
  New 38 p1 fun p3 =>
  Nn n0 fun t6 =>
  Ld t6 Sl.val fun t8 =>
  Ite (decide ((4000 : Int) ≤ (t8.n : Int)))
    (Q 2)
    (Dr <| WithS fun S =>
    LdS S t6 Sl.val fun t15 =>
    LdNS S p3 7 fun t16 =>
    net_copied.call t16 fun t17 =>
    Sv S <|
    Bld #[(.int .i64 0), (.int .i64 0), (.int .u64 0), (.int .u64 0), (.int .u64 0), (.int .u64 0), (Sl.val ⟨none, 0, 0⟩)] (fun i => some (i * 7, 7)) [(0, (.agg t17))] fun ct18 =>
    New 38 ct18 fun t18 =>
    Sv S <|
    Do Try.prog (Builtin.append_ #[31, 31] 31 #[(Sl.val t15), (Sl.val (Sl.mk (some t18) 1 1))]) Sl.val fun t19 =>
    St t6 (Sl.val t19) <|
    Q 0)
theorem net_Net_Send_ok (n0 : (Option Addr)) (p1 : (Array Value)) (Q : Int → K) (w : World) (h : net_Net_Send n0 p1 Q w) : net_Net_Send.call n0 p1 Q w := by
  unfold net_Net_Send.call CallF
  refine f_start (args := [(.pointer n0), (.agg p1)]) Try.func19 rfl (Nat.le_of_ble_eq_true rfl) ?_
  intro a hs
  unfold net_Net_Send at h
  refine wp_seq_k fun K1 hK1 => ?_
  refine wp_region_lit ?_
  obtain ⟨p3, w1, ha, hw, h⟩ := h
  refine t_eff hs rfl rfl (by decide) (e_box rfl rfl rfl ha hw) ?_
  clear hs a ha hw
  intro a hs
  refine t_pure hs rfl rfl (by decide) (p_assign rfl rfl) ?_
  clear hs a
  intro a hs
  refine hK1 _ _ ?_
  refine wp_seq_k fun K2 hK2 => ?_
  refine wp_seq_k fun K3 hK3 => ?_
  refine wp_region_lit ?_
  refine t_pure hs rfl rfl (by decide) (p_move rfl rfl) ?_
  clear hs a
  intro a hs
  obtain ⟨t6, rfl, h⟩ := h
  refine t_pure hs rfl rfl (by decide) (p_nil rfl rfl) ?_
  clear hs a
  intro a hs
  refine t_pure hs rfl rfl (by decide) (p_fieldAddr0 rfl rfl ft_102_0) ?_
  clear hs a
  intro a hs
  obtain ⟨t8, hv, h⟩ := h
  refine t_eff hs rfl rfl (by decide) (e_load rfl rfl ct_31 hv) ?_
  clear hs a hv
  intro a hs
  refine t_pure hs rfl rfl (by decide) (p_len rfl rfl sl_31) ?_
  clear hs a
  intro a hs
  refine t_pure hs rfl rfl (by decide) (p_ge rfl rfl rfl) ?_
  clear hs a
  intro a hs
  refine hK3 _ _ ?_
  refine c_cond hs rfl (fun hb => ?_) (fun hb => ?_)
  · replace h := h.1 hb
    clear hb
    refine wp_seq_k fun K4 hK4 => ?_
    refine wp_region_lit ?_
    refine t_pure hs rfl rfl (by decide) (p_assign rfl rfl) ?_
    clear hs a
    intro a hs
    refine hK4 _ _ ?_
    refine wp_ret ?_
    refine f_ret (fn := Try.f19) hs (fun a hs => r_one hs rfl (rfl)) ⟨2, rfl, h⟩
  · replace h := h.2 hb
    clear hb
    refine wp_skip ?_
    refine hK2 _ _ ?_
    refine wp_seq_k fun K5 hK5 => ?_
    obtain ⟨w1, hw1, h⟩ := h
    obtain ⟨S, hS, h⟩ := h
    subst hw1
    refine d_start (S := S) (ds := [8, 11]) #[false, false, false, false, false, false, false, false, false, false, false, false] mixed rfl rfl ?_
    refine d_pure hs #[true, false, false, false, false, false, false, false, false, false, false, false] (i := 0) rfl rfl rfl (by decide) (by kernel_rfl) (tight_body (P := Try.prog) (fn := Try.f19)) (p_move rfl rfl) ?_
    clear hs a
    intro a hs
    refine d_pure hs #[true, true, false, false, false, false, false, false, false, false, false, false] (i := 1) rfl rfl rfl (by decide) (by kernel_rfl) (tight_body (P := Try.prog) (fn := Try.f19)) (p_move rfl rfl) ?_
    clear hs a
    intro a hs
    refine d_pure hs #[true, true, true, false, false, false, false, false, false, false, false, false] (i := 2) rfl rfl rfl (by decide) (by kernel_rfl) (tight_body (P := Try.prog) (fn := Try.f19)) (p_nil rfl rfl) ?_
    clear hs a
    intro a hs
    refine d_pure hs #[true, true, true, true, false, false, false, false, false, false, false, false] (i := 3) rfl rfl rfl (by decide) (by kernel_rfl) (tight_body (P := Try.prog) (fn := Try.f19)) (p_fieldAddr0 rfl rfl ft_102_0) ?_
    clear hs a
    intro a hs
    obtain ⟨t15, hv, h⟩ := h
    refine d_read hs #[true, true, true, true, true, false, false, false, false, false, false, false] (i := 4) rfl rfl rfl (by decide) (by kernel_rfl) (by kernel_rfl) (tight_body (P := Try.prog) (fn := Try.f19)) hS (fun w h' => e_load rfl rfl ct_31 (hv w h')) ?_
    clear hs a hv
    intro a hs
    obtain ⟨t16, hn, hv, h⟩ := h
    refine d_read hs #[true, true, true, true, true, true, false, false, false, false, false, false] (i := 5) rfl rfl rfl (by decide) (by kernel_rfl) (by kernel_rfl) (tight_body (P := Try.prog) (fn := Try.f19)) hS (fun w h' => e_loadN rfl rfl at_38 hn (hv w h')) ?_
    clear hs a hn hv
    intro a hs
    refine d_all [6] (by kernel_rfl) (by decide) ?_
    refine AllS.cons ?_ AllS.nil
    refine d_call hs #[true, true, true, true, true, true, true, false, false, false, false, false] (i := 6) rfl rfl rfl (by decide) rfl (e_call rfl rfl rfl cb_50) h (fun v w'' hk => by obtain ⟨t17, _, hS, _⟩ := hk; exact fun _ _ => hS) ?_
    clear hs a h
    intro v a w hk hs
    obtain ⟨t17, rfl, h⟩ := hk
    obtain ⟨hS, h⟩ := h
    refine d_all [7] (by kernel_rfl) (by decide) ?_
    refine AllS.cons ?_ AllS.nil
    obtain ⟨ct18, hb, t18, w1, ha, hw, h⟩ := h
    obtain ⟨hS, h⟩ := h
    refine d_eff hs #[true, true, true, true, true, true, true, true, false, false, false, false] (i := 7) rfl rfl rfl (by decide) rfl (e_buildSlice (z := #[(.int .i64 0), (.int .i64 0), (.int .u64 0), (.int .u64 0), (.int .u64 0), (.int .u64 0), (Sl.val ⟨none, 0, 0⟩)]) rfl sl_31 zt_38 (by decide) rfl rz_38_1 hb ha hw) (fun _ _ => hS) ?_
    clear hs a hb ha hw
    intro a hs
    replace hs := hs.to (τ := [(11, (.pointer (some t6))), (15, (Sl.val t15)), (18, (Sl.val (Sl.mk (some t18) 1 1)))]) ⟨rfl, rfl, rfl, trivial⟩
    refine d_all [8] (by kernel_rfl) (by decide) ?_
    refine AllS.cons ?_ AllS.nil
    obtain ⟨t19, w1, hd, h⟩ := h
    refine d_eff hs #[true, true, true, true, true, true, true, true, true, false, false, false] (i := 8) rfl rfl rfl (by decide) rfl (e_append rfl rfl rfl rfl hd) (fun hn => (hn (by decide)).elim) ?_
    clear hs a hd
    intro a hs
    refine d_pure hs #[true, true, true, true, true, true, true, true, true, true, false, false] (i := 9) rfl rfl rfl (by decide) (by kernel_rfl) (tight_body (P := Try.prog) (fn := Try.f19)) (p_nil rfl rfl) ?_
    clear hs a
    intro a hs
    refine d_pure hs #[true, true, true, true, true, true, true, true, true, true, true, false] (i := 10) rfl rfl rfl (by decide) (by kernel_rfl) (tight_body (P := Try.prog) (fn := Try.f19)) (p_fieldAddr0 rfl rfl ft_102_0) ?_
    clear hs a
    intro a hs
    refine d_all [11] (by kernel_rfl) (by decide) ?_
    refine AllS.cons ?_ AllS.nil
    obtain ⟨w1, hw, hc, hf, hv, h⟩ := h
    refine d_skip hs #[true, true, true, true, true, true, true, true, true, true, true, true] (i := 11) rfl rfl rfl rfl (e_store rfl rfl rfl sz_31 hw hc hf hv) (fun hn => (hn (by decide)).elim) ?_
    clear hs a hw hc hf hv
    intro a hs
    refine d_done (by kernel_rfl) ?_ _
    clear hS
    refine hK5 _ _ ?_
    refine wp_seq_k fun K6 hK6 => ?_
    refine wp_region_lit ?_
    refine t_pure hs rfl rfl (by decide) (p_assign rfl rfl) ?_
    clear hs a
    intro a hs
    refine hK6 _ _ ?_
    refine wp_ret ?_
    refine f_ret (fn := Try.f19) hs (fun a hs => r_one hs rfl (rfl)) ⟨0, rfl, h⟩
def net_Net_Copy.s1 (Q : Bool → K)  (t4_1 : Bool) : K :=
  Q t4_1
def net_Net_Copy (n0 : (Option Addr)) (k1 : Int) (Q : Bool → K) : K :=
  net_Net_has.call n0 k1 fun t7 =>
  Ite t7
    (Nn n0 fun t11 =>
    Ld t11 Sl.val fun t13 =>
    Idx t13 k1 7 fun t15 =>
    LdN t15 7 fun t16 =>
    net_Net_Send.call (some t11) t16 fun t17 =>
    net_Net_Copy.s1 Q (decide (t17 = 0)))
    (net_Net_Copy.s1 Q false)
theorem net_Net_Copy_ok (n0 : (Option Addr)) (k1 : Int) (Q : Bool → K) (w : World) (h : net_Net_Copy n0 k1 Q w) : net_Net_Copy.call n0 k1 Q w := by
  unfold net_Net_Copy.call CallF
  refine f_start (args := [(.pointer n0), (.int .i64 k1)]) Try.func20 rfl (Nat.le_of_ble_eq_true rfl) ?_
  intro a hs
  unfold net_Net_Copy at h
  refine wp_seq_k fun K1 hK1 => ?_
  refine wp_region_lit ?_
  refine t_pure hs rfl rfl (by decide) (p_assign rfl rfl) ?_
  clear hs a
  intro a hs
  refine hK1 _ _ ?_
  refine wp_seq_k fun K2 hK2 => ?_
  have J1 : ∀ (t4_1 : Bool) (a : Act) (w : World), Slots a 20 [(4, (.bool t4_1))] → net_Net_Copy.s1 Q t4_1 w → K2 a w := by
    clear h hs
    intro t4_1 a w hs h
    refine hK2 _ _ ?_
    unfold net_Net_Copy.s1 at h
    refine wp_ret ?_
    refine f_ret (fn := Try.f20) hs (fun a hs => r_one hs rfl (rfl)) ⟨t4_1, rfl, h⟩
  clear hK2
  refine wp_region_lit ?_
  refine t_pure hs rfl rfl (by decide) (p_move rfl rfl) ?_
  clear hs a
  intro a hs
  refine t_pure hs rfl rfl (by decide) (p_move rfl rfl) ?_
  clear hs a
  intro a hs
  refine t_call hs rfl rfl (by decide) (e_call rfl rfl rfl cb_51) h ?_
  clear hs a h
  intro v a w hk hs
  obtain ⟨t7, rfl, h⟩ := hk
  refine t_pure hs rfl rfl (by decide) (p_move rfl rfl) ?_
  clear hs a
  intro a hs
  refine split_bool t7 (fun hb => ?_) (fun hb => ?_)
  · replace h := h.1 hb
    rw [hb] at hs
    clear hb
    refine t_yes hs rfl ?_
    refine t_pure hs rfl rfl (by decide) (p_move rfl rfl) ?_
    clear hs a
    intro a hs
    refine t_yes hs rfl ?_
    refine t_pure hs rfl rfl (by decide) (p_move rfl rfl) ?_
    clear hs a
    intro a hs
    refine t_yes hs rfl ?_
    obtain ⟨t11, rfl, h⟩ := h
    refine t_pure hs rfl rfl (by decide) (p_nil rfl rfl) ?_
    clear hs a
    intro a hs
    refine t_yes hs rfl ?_
    refine t_pure hs rfl rfl (by decide) (p_fieldAddr0 rfl rfl ft_102_0) ?_
    clear hs a
    intro a hs
    replace hs := hs.to (τ := [(1, (.int .i64 k1)), (8, (.bool true)), (9, (.pointer (some t11))), (12, (.pointer (some t11)))]) ⟨rfl, rfl, rfl, rfl, trivial⟩
    refine t_yes hs rfl ?_
    obtain ⟨t13, hv, h⟩ := h
    refine t_eff hs rfl rfl (by decide) (e_load rfl rfl ct_31 hv) ?_
    clear hs a hv
    intro a hs
    refine t_yes hs rfl ?_
    refine t_pure hs rfl rfl (by decide) (p_move rfl rfl) ?_
    clear hs a
    intro a hs
    refine t_yes hs rfl ?_
    obtain ⟨qt15, t15, ha, h0, h1, he, h⟩ := h
    refine t_pure hs rfl rfl (by decide) (Pure.adr he (p_idx rfl rfl rfl sl_31 ha h0 h1)) ?_
    clear hs a ha h0 h1 he
    intro a hs
    refine t_yes hs rfl ?_
    obtain ⟨t16, hn, hv, h⟩ := h
    refine t_eff hs rfl rfl (by decide) (e_loadN rfl rfl at_38 hn hv) ?_
    clear hs a hn hv
    intro a hs
    refine t_yes hs rfl ?_
    refine t_call hs rfl rfl (by decide) (e_call rfl rfl rfl cb_19) h ?_
    clear hs a h
    intro v a w hk hs
    obtain ⟨t17, rfl, h⟩ := hk
    refine t_yes hs rfl ?_
    refine t_pure hs rfl rfl (by decide) (p_eq rfl rfl rfl) ?_
    clear hs a
    intro a hs
    refine t_pure hs rfl rfl (by decide) (p_pick_t rfl rfl rfl) ?_
    clear hs a
    intro a hs
    refine t_pure hs rfl rfl (by decide) (p_assign rfl rfl) ?_
    clear hs a
    intro a hs
    exact J1 (decide (t17 = 0)) _ _ (hs.to ⟨rfl, trivial⟩) h
  · replace h := h.2 hb
    rw [hb] at hs
    clear hb
    refine t_no hs rfl rfl (by decide) ?_
    clear hs a
    intro a hs
    refine t_no hs rfl rfl (by decide) ?_
    clear hs a
    intro a hs
    refine t_no hs rfl rfl (by decide) ?_
    clear hs a
    intro a hs
    refine t_no hs rfl rfl (by decide) ?_
    clear hs a
    intro a hs
    replace hs := hs.to (τ := [(1, (.int .i64 k1)), (8, (.bool false)), (9, undef), (12, undef)]) ⟨rfl, rfl, rfl, rfl, trivial⟩
    refine t_no hs rfl rfl (by decide) ?_
    clear hs a
    intro a hs
    refine t_no hs rfl rfl (by decide) ?_
    clear hs a
    intro a hs
    refine t_no hs rfl rfl (by decide) ?_
    clear hs a
    intro a hs
    refine t_no hs rfl rfl (by decide) ?_
    clear hs a
    intro a hs
    refine t_no hs rfl rfl (by decide) ?_
    clear hs a
    intro a hs
    refine t_no hs rfl rfl (by decide) ?_
    clear hs a
    intro a hs
    refine t_pure hs rfl rfl (by decide) (p_pick_f rfl rfl rfl) ?_
    clear hs a
    intro a hs
    refine t_pure hs rfl rfl (by decide) (p_assign rfl rfl) ?_
    clear hs a
    intro a hs
    exact J1 false _ _ (hs.to ⟨rfl, trivial⟩) h
def net_Net_Len (n0 : (Option Addr)) (Q : Int → K) : K :=
  Nn n0 fun t4 =>
  Ld t4 Sl.val fun t6 =>
  Q (t6.n : Int)
theorem net_Net_Len_ok (n0 : (Option Addr)) (Q : Int → K) (w : World) (h : net_Net_Len n0 Q w) : net_Net_Len.call n0 Q w := by
  unfold net_Net_Len.call CallF
  refine f_start (args := [(.pointer n0)]) Try.func21 rfl (Nat.le_of_ble_eq_true rfl) ?_
  intro a hs
  unfold net_Net_Len at h
  refine wp_seq_k fun K1 hK1 => ?_
  refine wp_region_lit ?_
  refine t_pure hs rfl rfl (by decide) (p_assign rfl rfl) ?_
  clear hs a
  intro a hs
  refine hK1 _ _ ?_
  refine wp_seq_k fun K2 hK2 => ?_
  refine wp_region_lit ?_
  refine t_pure hs rfl rfl (by decide) (p_move rfl rfl) ?_
  clear hs a
  intro a hs
  obtain ⟨t4, rfl, h⟩ := h
  refine t_pure hs rfl rfl (by decide) (p_nil rfl rfl) ?_
  clear hs a
  intro a hs
  refine t_pure hs rfl rfl (by decide) (p_fieldAddr0 rfl rfl ft_102_0) ?_
  clear hs a
  intro a hs
  obtain ⟨t6, hv, h⟩ := h
  refine t_eff hs rfl rfl (by decide) (e_load rfl rfl ct_31 hv) ?_
  clear hs a hv
  intro a hs
  refine t_pure hs rfl rfl (by decide) (p_len rfl rfl sl_31) ?_
  clear hs a
  intro a hs
  refine t_pure hs rfl rfl (by decide) (p_assign rfl rfl) ?_
  clear hs a
  intro a hs
  refine hK2 _ _ ?_
  refine wp_ret ?_
  refine f_ret (fn := Try.f21) hs (fun a hs => r_one hs rfl (rfl)) ⟨(t6.n : Int), rfl, h⟩
def net_Net_Take (n0 : (Option Addr)) (k1 : Int) (Q : (Array Value) → Bool → K) : K :=
  New 38 #[(.int .i64 0), (.int .i64 0), (.int .u64 0), (.int .u64 0), (.int .u64 0), (.int .u64 0), (Sl.val ⟨none, 0, 0⟩)] fun t4 =>
  net_Net_has.call n0 k1 fun t9 =>
  Ite (!t9)
    (StN t4 7 #[(.int .i64 0), (.int .i64 0), (.int .u64 0), (.int .u64 0), (.int .u64 0), (.int .u64 0), (Sl.val ⟨none, 0, 0⟩)] <|
    LdN t4 7 fun r0 =>
    Q r0 false)
    (Nn n0 fun t13 =>
    Ld t13 Sl.val fun t15 =>
    Idx t15 k1 7 fun t17 =>
    LdN t17 7 fun t18 =>
    New 38 #[(.int .i64 0), (.int .i64 0), (.int .u64 0), (.int .u64 0), (.int .u64 0), (.int .u64 0), (Sl.val ⟨none, 0, 0⟩)] fun p6 =>
    StN p6 7 t18 <|
    Ld t13 Sl.val fun t23 =>
    Ar (IntKind.wrap .i64 (k1 + 1)) fun t26 =>
    slices_Delete_s_api_Parcel_api_Parcel.call t23 k1 t26 fun t27 =>
    St t13 (Sl.val t27) <|
    LdN p6 7 fun t30 =>
    net_copied.call t30 fun t31 =>
    StN t4 7 t31 <|
    LdN t4 7 fun r0 =>
    Q r0 true)
theorem net_Net_Take_ok (n0 : (Option Addr)) (k1 : Int) (Q : (Array Value) → Bool → K) (w : World) (h : net_Net_Take n0 k1 Q w) : net_Net_Take.call n0 k1 Q w := by
  unfold net_Net_Take.call CallF
  refine f_start (args := [(.pointer n0), (.int .i64 k1)]) Try.func22 rfl (Nat.le_of_ble_eq_true rfl) ?_
  intro a hs
  unfold net_Net_Take at h
  refine wp_seq_k fun K1 hK1 => ?_
  refine wp_region_lit ?_
  obtain ⟨t4, w1, ha, hw, h⟩ := h
  refine t_eff hs rfl rfl (by decide) (e_alloc rfl zt_38 rfl ha hw) ?_
  clear hs a ha hw
  intro a hs
  refine t_pure hs rfl rfl (by decide) (p_assign rfl rfl) ?_
  clear hs a
  intro a hs
  refine hK1 _ _ ?_
  refine wp_seq_k fun K2 hK2 => ?_
  refine wp_seq_k fun K3 hK3 => ?_
  refine wp_region_lit ?_
  refine t_pure hs rfl rfl (by decide) (p_move rfl rfl) ?_
  clear hs a
  intro a hs
  refine t_pure hs rfl rfl (by decide) (p_move rfl rfl) ?_
  clear hs a
  intro a hs
  refine t_call hs rfl rfl (by decide) (e_call rfl rfl rfl cb_51) h ?_
  clear hs a h
  intro v a w hk hs
  obtain ⟨t9, rfl, h⟩ := hk
  refine t_pure hs rfl rfl (by decide) (p_not rfl rfl) ?_
  clear hs a
  intro a hs
  refine hK3 _ _ ?_
  refine c_cond hs rfl (fun hb => ?_) (fun hb => ?_)
  · replace h := h.1 hb
    clear hb
    refine wp_seq_k fun K4 hK4 => ?_
    refine wp_region_lit ?_
    refine t_pure hs rfl rfl (by decide) (e_build (cs := #[(.int .i64 0), (.int .i64 0), (.int .u64 0), (.int .u64 0), (.int .u64 0), (.int .u64 0), (Sl.val ⟨none, 0, 0⟩)]) rfl zt_38 pl_38 rfl rfl) ?_
    clear hs a
    intro a hs
    obtain ⟨w1, hw, hn, hc, hv, h⟩ := h
    refine t_skip hs rfl rfl (e_storeN rfl rfl rfl sz_38 hw hn hc hv) ?_
    clear hs a hw hn hc hv
    intro a hs
    refine t_pure hs rfl rfl (by decide) (p_assign rfl rfl) ?_
    clear hs a
    intro a hs
    refine hK4 _ _ ?_
    refine wp_ret ?_
    obtain ⟨r0, hn0, hv0, h⟩ := h
    refine f_ret (fn := Try.f22) hs (fun a hs => r_many hs (rs := [ResultVar.cell 4 38, ResultVar.tmp 5]) (vs := [(.agg r0), (.bool false)]) rfl (by decide) ⟨⟨_, rfl, run_loadVarN at_38 hn0 hv0⟩, rfl, trivial⟩) ⟨r0, false, rfl, h⟩
  · replace h := h.2 hb
    clear hb
    refine wp_skip ?_
    refine hK2 _ _ ?_
    refine wp_seq_k fun K5 hK5 => ?_
    refine wp_region_lit ?_
    refine t_pure hs rfl rfl (by decide) (p_move rfl rfl) ?_
    clear hs a
    intro a hs
    obtain ⟨t13, rfl, h⟩ := h
    refine t_pure hs rfl rfl (by decide) (p_nil rfl rfl) ?_
    clear hs a
    intro a hs
    refine t_pure hs rfl rfl (by decide) (p_fieldAddr0 rfl rfl ft_102_0) ?_
    clear hs a
    intro a hs
    obtain ⟨t15, hv, h⟩ := h
    refine t_eff hs rfl rfl (by decide) (e_load rfl rfl ct_31 hv) ?_
    clear hs a hv
    intro a hs
    refine t_pure hs rfl rfl (by decide) (p_move rfl rfl) ?_
    clear hs a
    intro a hs
    obtain ⟨qt17, t17, ha, h0, h1, he, h⟩ := h
    refine t_pure hs rfl rfl (by decide) (Pure.adr he (p_idx rfl rfl rfl sl_31 ha h0 h1)) ?_
    clear hs a ha h0 h1 he
    intro a hs
    obtain ⟨t18, hn, hv, h⟩ := h
    refine t_eff hs rfl rfl (by decide) (e_loadN rfl rfl at_38 hn hv) ?_
    clear hs a hn hv
    intro a hs
    obtain ⟨p6, w1, ha, hw, h⟩ := h
    refine t_eff hs rfl rfl (by decide) (e_alloc rfl zt_38 rfl ha hw) ?_
    clear hs a ha hw
    intro a hs
    replace hs := hs.to (τ := [(0, (.pointer (some t13))), (1, (.int .i64 k1)), (4, (.pointer (some t4))), (6, (.pointer (some p6))), (18, (.agg t18))]) ⟨rfl, rfl, rfl, rfl, rfl, trivial⟩
    obtain ⟨w1, hw, hn, hc, hv, h⟩ := h
    refine t_skip hs rfl rfl (e_storeN rfl rfl rfl sz_38 hw hn hc hv) ?_
    clear hs a hw hn hc hv
    intro a hs
    refine hK5 _ _ ?_
    refine wp_seq_k fun K6 hK6 => ?_
    refine wp_region_lit ?_
    refine t_pure hs rfl rfl (by decide) (p_move rfl rfl) ?_
    clear hs a
    intro a hs
    refine t_pure hs rfl rfl (by decide) (p_move rfl rfl) ?_
    clear hs a
    intro a hs
    refine t_pure hs rfl rfl (by decide) (p_nil rfl rfl) ?_
    clear hs a
    intro a hs
    refine t_pure hs rfl rfl (by decide) (p_fieldAddr0 rfl rfl ft_102_0) ?_
    clear hs a
    intro a hs
    obtain ⟨t23, hv, h⟩ := h
    refine t_eff hs rfl rfl (by decide) (e_load rfl rfl ct_31 hv) ?_
    clear hs a hv
    intro a hs
    refine t_pure hs rfl rfl (by decide) (p_move rfl rfl) ?_
    clear hs a
    intro a hs
    refine t_pure hs rfl rfl (by decide) (p_move rfl rfl) ?_
    clear hs a
    intro a hs
    obtain ⟨t26, he, h⟩ := h
    refine t_pure hs rfl rfl (by decide) (Pure.int he (p_add rfl rfl rfl)) ?_
    clear hs a he
    intro a hs
    replace hs := hs.to (τ := [(4, (.pointer (some t4))), (6, (.pointer (some p6))), (19, (.pointer (some t13))), (23, (Sl.val t23)), (24, (.int .i64 k1)), (26, (.int .i64 t26))]) ⟨rfl, rfl, rfl, rfl, rfl, rfl, trivial⟩
    refine t_call hs rfl rfl (by decide) (e_call rfl rfl rfl cb_52) h ?_
    clear hs a h
    intro v a w hk hs
    obtain ⟨t27, rfl, h⟩ := hk
    refine t_pure hs rfl rfl (by decide) (p_nil rfl rfl) ?_
    clear hs a
    intro a hs
    refine t_pure hs rfl rfl (by decide) (p_fieldAddr0 rfl rfl ft_102_0) ?_
    clear hs a
    intro a hs
    obtain ⟨w1, hw, hc, hf, hv, h⟩ := h
    refine t_skip hs rfl rfl (e_store rfl rfl rfl sz_31 hw hc hf hv) ?_
    clear hs a hw hc hf hv
    intro a hs
    refine hK6 _ _ ?_
    refine wp_seq_k fun K7 hK7 => ?_
    refine wp_region_lit ?_
    obtain ⟨t30, hn, hv, h⟩ := h
    refine t_eff hs rfl rfl (by decide) (e_loadN rfl rfl at_38 hn hv) ?_
    clear hs a hn hv
    intro a hs
    refine t_call hs rfl rfl (by decide) (e_call rfl rfl rfl cb_50) h ?_
    clear hs a h
    intro v a w hk hs
    obtain ⟨t31, rfl, h⟩ := hk
    obtain ⟨w1, hw, hn, hc, hv, h⟩ := h
    refine t_skip hs rfl rfl (e_storeN rfl rfl rfl sz_38 hw hn hc hv) ?_
    clear hs a hw hn hc hv
    intro a hs
    refine t_pure hs rfl rfl (by decide) (p_assign rfl rfl) ?_
    clear hs a
    intro a hs
    refine hK7 _ _ ?_
    refine wp_ret ?_
    obtain ⟨r0, hn0, hv0, h⟩ := h
    refine f_ret (fn := Try.f22) hs (fun a hs => r_many hs (rs := [ResultVar.cell 4 38, ResultVar.tmp 5]) (vs := [(.agg r0), (.bool true)]) rfl (by decide) ⟨⟨_, rfl, run_loadVarN at_38 hn0 hv0⟩, rfl, trivial⟩) ⟨r0, true, rfl, h⟩
def net_Net_Drop (n0 : (Option Addr)) (k1 : Int) (Q : Bool → K) : K :=
  net_Net_Take.call n0 k1 fun t10x0 t10x1 =>
  New 38 #[(.int .i64 0), (.int .i64 0), (.int .u64 0), (.int .u64 0), (.int .u64 0), (.int .u64 0), (Sl.val ⟨none, 0, 0⟩)] fun t5 =>
  StN t5 7 t10x0 <|
  Q t10x1
theorem net_Net_Drop_ok (n0 : (Option Addr)) (k1 : Int) (Q : Bool → K) (w : World) (h : net_Net_Drop n0 k1 Q w) : net_Net_Drop.call n0 k1 Q w := by
  unfold net_Net_Drop.call CallF
  refine f_start (args := [(.pointer n0), (.int .i64 k1)]) Try.func25 rfl (Nat.le_of_ble_eq_true rfl) ?_
  intro a hs
  unfold net_Net_Drop at h
  refine wp_seq_k fun K1 hK1 => ?_
  refine wp_region_lit ?_
  refine t_pure hs rfl rfl (by decide) (p_assign rfl rfl) ?_
  clear hs a
  intro a hs
  refine hK1 _ _ ?_
  refine wp_seq_k fun K2 hK2 => ?_
  refine wp_region_lit ?_
  refine t_pure hs rfl rfl (by decide) (p_move rfl rfl) ?_
  clear hs a
  intro a hs
  refine t_pure hs rfl rfl (by decide) (p_move rfl rfl) ?_
  clear hs a
  intro a hs
  refine t_call hs rfl rfl (by decide) (e_call rfl rfl rfl cb_22) h ?_
  clear hs a h
  intro v a w hk hs
  obtain ⟨t10x0, t10x1, rfl, h⟩ := hk
  refine t_pure hs rfl rfl (by decide) (p_move rfl rfl) ?_
  clear hs a
  intro a hs
  refine t_pure hs rfl rfl (by decide) (p_extract rfl rfl rfl) ?_
  clear hs a
  intro a hs
  refine t_pure hs rfl rfl (by decide) (p_extract rfl rfl rfl) ?_
  clear hs a
  intro a hs
  obtain ⟨t5, w1, ha, hw, h⟩ := h
  refine t_eff hs rfl rfl (by decide) (e_alloc rfl zt_38 rfl ha hw) ?_
  clear hs a ha hw
  intro a hs
  obtain ⟨w1, hw, hn, hc, hv, h⟩ := h
  refine t_skip hs rfl rfl (e_storeN rfl rfl rfl sz_38 hw hn hc hv) ?_
  clear hs a hw hn hc hv
  intro a hs
  replace hs := hs.to (τ := [(12, (.bool t10x1))]) ⟨rfl, trivial⟩
  refine t_pure hs rfl rfl (by decide) (p_assign rfl rfl) ?_
  clear hs a
  intro a hs
  refine hK2 _ _ ?_
  refine wp_seq_k fun K3 hK3 => ?_
  refine wp_region_lit ?_
  refine t_pure hs rfl rfl (by decide) (p_move rfl rfl) ?_
  clear hs a
  intro a hs
  refine t_pure hs rfl rfl (by decide) (p_assign rfl rfl) ?_
  clear hs a
  intro a hs
  refine hK3 _ _ ?_
  refine wp_ret ?_
  refine f_ret (fn := Try.f25) hs (fun a hs => r_one hs rfl (rfl)) ⟨t10x1, rfl, h⟩
def net_copied (p0 : (Array Value)) (Q : (Array Value) → K) : K :=
  New 38 p0 fun p1 =>
  New 38 #[(.int .i64 0), (.int .i64 0), (.int .u64 0), (.int .u64 0), (.int .u64 0), (.int .u64 0), (Sl.val ⟨none, 0, 0⟩)] fun t2 =>
  Ld ((p1.add 2).add 4) Sl.val fun t5 =>
  bytes_Clone.call t5 fun t6 =>
  St ((p1.add 2).add 4) (Sl.val t6) <|
  LdN p1 7 fun t9 =>
  StN t2 7 t9 <|
  LdN t2 7 fun r0 =>
  Q r0
theorem net_copied_ok (p0 : (Array Value)) (Q : (Array Value) → K) (w : World) (h : net_copied p0 Q w) : net_copied.call p0 Q w := by
  unfold net_copied.call CallF
  refine f_start (args := [(.agg p0)]) Try.func50 rfl (Nat.le_of_ble_eq_true rfl) ?_
  intro a hs
  unfold net_copied at h
  refine wp_seq_k fun K1 hK1 => ?_
  refine wp_region_lit ?_
  obtain ⟨p1, w1, ha, hw, h⟩ := h
  refine t_eff hs rfl rfl (by decide) (e_box rfl rfl rfl ha hw) ?_
  clear hs a ha hw
  intro a hs
  obtain ⟨t2, w1, ha, hw, h⟩ := h
  refine t_eff hs rfl rfl (by decide) (e_alloc rfl zt_38 rfl ha hw) ?_
  clear hs a ha hw
  intro a hs
  refine hK1 _ _ ?_
  refine wp_seq_k fun K2 hK2 => ?_
  refine wp_region_lit ?_
  refine t_pure hs rfl rfl (by decide) (p_fieldAddr rfl rfl ft_38_2) ?_
  clear hs a
  intro a hs
  refine t_pure hs rfl rfl (by decide) (p_fieldAddr rfl rfl ft_36_4) ?_
  clear hs a
  intro a hs
  obtain ⟨t5, hv, h⟩ := h
  refine t_eff hs rfl rfl (by decide) (e_load rfl rfl ct_22 hv) ?_
  clear hs a hv
  intro a hs
  refine t_call hs rfl rfl (by decide) (e_call rfl rfl rfl cb_53) h ?_
  clear hs a h
  intro v a w hk hs
  obtain ⟨t6, rfl, h⟩ := hk
  refine t_pure hs rfl rfl (by decide) (p_fieldAddr rfl rfl ft_38_2) ?_
  clear hs a
  intro a hs
  refine t_pure hs rfl rfl (by decide) (p_fieldAddr rfl rfl ft_36_4) ?_
  clear hs a
  intro a hs
  obtain ⟨w1, hw, hc, hf, hv, h⟩ := h
  refine t_skip hs rfl rfl (e_store rfl rfl rfl sz_22 hw hc hf hv) ?_
  clear hs a hw hc hf hv
  intro a hs
  refine hK2 _ _ ?_
  refine wp_seq_k fun K3 hK3 => ?_
  refine wp_region_lit ?_
  obtain ⟨t9, hn, hv, h⟩ := h
  refine t_eff hs rfl rfl (by decide) (e_loadN rfl rfl at_38 hn hv) ?_
  clear hs a hn hv
  intro a hs
  obtain ⟨w1, hw, hn, hc, hv, h⟩ := h
  refine t_skip hs rfl rfl (e_storeN rfl rfl rfl sz_38 hw hn hc hv) ?_
  clear hs a hw hn hc hv
  intro a hs
  refine hK3 _ _ ?_
  refine wp_ret ?_
  obtain ⟨r0, hn0, hv0, h⟩ := h
  refine f_ret (fn := Try.f50) hs (fun a hs => r_one hs rfl (⟨_, rfl, run_loadVarN at_38 hn0 hv0⟩)) ⟨r0, rfl, h⟩
def net_Net_has.s1 (Q : Bool → K)  (t4_1 : Bool) : K :=
  Q t4_1
def net_Net_has (n0 : (Option Addr)) (k1 : Int) (Q : Bool → K) : K :=
  Ite (decide ((0 : Int) ≤ k1))
    (Nn n0 fun t10 =>
    Ld t10 Sl.val fun t12 =>
    net_Net_has.s1 Q (decide (k1 < (t12.n : Int))))
    (net_Net_has.s1 Q false)
theorem net_Net_has_ok (n0 : (Option Addr)) (k1 : Int) (Q : Bool → K) (w : World) (h : net_Net_has n0 k1 Q w) : net_Net_has.call n0 k1 Q w := by
  unfold net_Net_has.call CallF
  refine f_start (args := [(.pointer n0), (.int .i64 k1)]) Try.func51 rfl (Nat.le_of_ble_eq_true rfl) ?_
  intro a hs
  unfold net_Net_has at h
  refine wp_seq_k fun K1 hK1 => ?_
  refine wp_region_lit ?_
  refine t_pure hs rfl rfl (by decide) (p_assign rfl rfl) ?_
  clear hs a
  intro a hs
  refine hK1 _ _ ?_
  refine wp_seq_k fun K2 hK2 => ?_
  have J1 : ∀ (t4_1 : Bool) (a : Act) (w : World), Slots a 16 [(4, (.bool t4_1))] → net_Net_has.s1 Q t4_1 w → K2 a w := by
    clear h hs
    intro t4_1 a w hs h
    refine hK2 _ _ ?_
    unfold net_Net_has.s1 at h
    refine wp_ret ?_
    refine f_ret (fn := Try.f51) hs (fun a hs => r_one hs rfl (rfl)) ⟨t4_1, rfl, h⟩
  clear hK2
  refine wp_region_lit ?_
  refine t_pure hs rfl rfl (by decide) (p_move rfl rfl) ?_
  clear hs a
  intro a hs
  refine t_pure hs rfl rfl (by decide) (p_ge rfl rfl rfl) ?_
  clear hs a
  intro a hs
  refine t_pure hs rfl rfl (by decide) (p_move rfl rfl) ?_
  clear hs a
  intro a hs
  refine split_bool (decide ((0 : Int) ≤ k1)) (fun hb => ?_) (fun hb => ?_)
  · replace h := h.1 hb
    rw [hb] at hs
    clear hb
    refine t_yes hs rfl ?_
    refine t_pure hs rfl rfl (by decide) (p_move rfl rfl) ?_
    clear hs a
    intro a hs
    refine t_yes hs rfl ?_
    refine t_pure hs rfl rfl (by decide) (p_move rfl rfl) ?_
    clear hs a
    intro a hs
    refine t_yes hs rfl ?_
    obtain ⟨t10, rfl, h⟩ := h
    refine t_pure hs rfl rfl (by decide) (p_nil rfl rfl) ?_
    clear hs a
    intro a hs
    refine t_yes hs rfl ?_
    refine t_pure hs rfl rfl (by decide) (p_fieldAddr0 rfl rfl ft_102_0) ?_
    clear hs a
    intro a hs
    refine t_yes hs rfl ?_
    obtain ⟨t12, hv, h⟩ := h
    refine t_eff hs rfl rfl (by decide) (e_load rfl rfl ct_31 hv) ?_
    clear hs a hv
    intro a hs
    replace hs := hs.to (τ := [(7, (.bool true)), (8, (.int .i64 k1)), (12, (Sl.val t12))]) ⟨rfl, rfl, rfl, trivial⟩
    refine t_yes hs rfl ?_
    refine t_pure hs rfl rfl (by decide) (p_len rfl rfl sl_31) ?_
    clear hs a
    intro a hs
    refine t_yes hs rfl ?_
    refine t_pure hs rfl rfl (by decide) (p_lt rfl rfl rfl) ?_
    clear hs a
    intro a hs
    refine t_pure hs rfl rfl (by decide) (p_pick_t rfl rfl rfl) ?_
    clear hs a
    intro a hs
    refine t_pure hs rfl rfl (by decide) (p_assign rfl rfl) ?_
    clear hs a
    intro a hs
    exact J1 (decide (k1 < (t12.n : Int))) _ _ (hs.to ⟨rfl, trivial⟩) h
  · replace h := h.2 hb
    rw [hb] at hs
    clear hb
    refine t_no hs rfl rfl (by decide) ?_
    clear hs a
    intro a hs
    refine t_no hs rfl rfl (by decide) ?_
    clear hs a
    intro a hs
    refine t_no hs rfl rfl (by decide) ?_
    clear hs a
    intro a hs
    refine t_no hs rfl rfl (by decide) ?_
    clear hs a
    intro a hs
    refine t_no hs rfl rfl (by decide) ?_
    clear hs a
    intro a hs
    replace hs := hs.to (τ := [(7, (.bool false)), (8, undef), (12, undef)]) ⟨rfl, rfl, rfl, trivial⟩
    refine t_no hs rfl rfl (by decide) ?_
    clear hs a
    intro a hs
    refine t_no hs rfl rfl (by decide) ?_
    clear hs a
    intro a hs
    refine t_pure hs rfl rfl (by decide) (p_pick_f rfl rfl rfl) ?_
    clear hs a
    intro a hs
    refine t_pure hs rfl rfl (by decide) (p_assign rfl rfl) ?_
    clear hs a
    intro a hs
    exact J1 false _ _ (hs.to ⟨rfl, trivial⟩) h
end Go.Proofs.Ytilejcnbacmdnaa
