/- Plain forms of functions, and that their code comes to them (package code). -/
import Derived.Test.YtdpepgjbambinaaCalls
namespace Go.Proofs.Ytdpepgjbambinaa
open Go Go.Sep
set_option linter.unusedVariables false
set_option linter.unusedSimpArgs false
set_option maxRecDepth 100000
set_option maxHeartbeats 4000000
def code_Frame (body0 : Sl) (Q : Sl → Int → K) : K :=
  Ite (decide ((4096 : Int) < (body0.n : Int)))
    (Q (Sl.mk none 0 0) 1)
    (code_sealed.call body0 fun t10 =>
    Cd (0 ≤ (8 : Int)) <|
    Ar (shrOf .i64 (body0.n : Int) 8) fun t13 =>
    Ar (IntKind.wrap .u8 t13) fun t14 =>
    Ar (IntKind.wrap .u8 (body0.n : Int)) fun t17 =>
    Ar (IntKind.wrap .u8 t10) fun t19 =>
    Cd (0 ≤ (8 : Int)) <|
    Ar (shrOf .u32 t10 8) fun t21 =>
    Ar (IntKind.wrap .u8 t21) fun t22 =>
    Cd (0 ≤ (16 : Int)) <|
    Ar (shrOf .u32 t10 16) fun t24 =>
    Ar (IntKind.wrap .u8 t24) fun t25 =>
    Cd (0 ≤ (24 : Int)) <|
    Ar (shrOf .u32 t10 24) fun t27 =>
    Ar (IntKind.wrap .u8 t27) fun t28 =>
    New 5 #[(.int .u8 t14), (.int .u8 t17), (.int .u8 t19), (.int .u8 t22), (.int .u8 t25), (.int .u8 t28)] fun t29 =>
    Do Try.prog (Builtin.append_ #[22, 22] 22 #[(Sl.val (Sl.mk (some t29) 6 6)), (Sl.val body0)]) Sl.val fun t32 =>
    Q t32 0)
theorem code_Frame_ok (body0 : Sl) (Q : Sl → Int → K) (w : World) (h : code_Frame body0 Q w) : code_Frame.call body0 Q w := by
  unfold code_Frame.call CallF
  refine f_start (args := [(Sl.val body0)]) Try.func68 rfl (Nat.le_of_ble_eq_true rfl) ?_
  intro a hs
  unfold code_Frame at h
  refine wp_seq_k fun K1 hK1 => ?_
  refine wp_region_lit ?_
  refine t_pure hs rfl rfl (by decide) (p_assign rfl rfl) ?_
  clear hs a; intro a hs
  refine t_pure hs rfl rfl (by decide) (p_assign rfl rfl) ?_
  clear hs a; intro a hs
  refine hK1 _ _ ?_
  refine wp_seq_k fun K2 hK2 => ?_
  refine wp_seq_k fun K3 hK3 => ?_
  refine wp_region_lit ?_
  refine t_pure hs rfl rfl (by decide) (p_move rfl rfl) ?_
  clear hs a; intro a hs
  refine t_pure hs rfl rfl (by decide) (p_len rfl rfl sl_22) ?_
  clear hs a; intro a hs
  refine t_pure hs rfl rfl (by decide) (p_gt rfl rfl rfl) ?_
  clear hs a; intro a hs
  refine hK3 _ _ ?_
  refine c_cond hs rfl (fun hb => ?_) (fun hb => ?_)
  · replace h := h.1 hb
    clear hb
    refine wp_seq_k fun K4 hK4 => ?_
    refine wp_region_lit ?_
    refine t_pure hs rfl rfl (by decide) (p_assign rfl rfl) ?_
    clear hs a; intro a hs
    refine t_pure hs rfl rfl (by decide) (p_assign rfl rfl) ?_
    clear hs a; intro a hs
    refine hK4 _ _ ?_
    refine wp_ret ?_
    refine f_ret (fn := Try.f68) hs (fun a hs => r_many hs (rs := [ResultVar.tmp 2, ResultVar.tmp 3]) (vs := [(Sl.val (Sl.mk none 0 0)), (.int .i64 1)]) rfl (by decide) ⟨rfl, rfl, trivial⟩) ⟨(Sl.mk none 0 0), 1, rfl, h⟩
  · replace h := h.2 hb
    clear hb
    refine wp_skip ?_
    refine hK2 _ _ ?_
    refine wp_seq_k fun K5 hK5 => ?_
    refine wp_region_lit ?_
    refine t_pure hs rfl rfl (by decide) (p_move rfl rfl) ?_
    clear hs a; intro a hs
    refine t_call hs rfl rfl (by decide) (e_call rfl rfl rfl cb_99) h ?_
    clear hs a h
    intro v a w hk hs
    obtain ⟨t10, rfl, h⟩ := hk
    refine t_pure hs rfl rfl (by decide) (p_assign rfl rfl) ?_
    clear hs a; intro a hs
    refine hK5 _ _ ?_
    refine wp_seq_k fun K6 hK6 => ?_
    refine wp_region_lit ?_
    refine t_pure hs rfl rfl (by decide) (p_move rfl rfl) ?_
    clear hs a; intro a hs
    refine t_pure hs rfl rfl (by decide) (p_len rfl rfl sl_22) ?_
    clear hs a; intro a hs
    obtain ⟨h0, t13, he, h⟩ := h
    refine t_pure hs rfl rfl (by decide) (Pure.int he (p_shr rfl rfl rfl h0)) ?_
    clear hs a h0 he; intro a hs
    obtain ⟨t14, he, h⟩ := h
    refine t_pure hs rfl rfl (by decide) (Pure.int he (p_conv_int rfl rfl in_3 in_5)) ?_
    clear hs a he; intro a hs
    refine t_pure hs rfl rfl (by decide) (p_move rfl rfl) ?_
    clear hs a; intro a hs
    refine t_pure hs rfl rfl (by decide) (p_len rfl rfl sl_22) ?_
    clear hs a; intro a hs
    obtain ⟨t17, he, h⟩ := h
    refine t_pure hs rfl rfl (by decide) (Pure.int he (p_conv_int rfl rfl in_3 in_5)) ?_
    clear hs a he; intro a hs
    refine t_pure hs rfl rfl (by decide) (p_move rfl rfl) ?_
    clear hs a; intro a hs
    replace hs := hs.to (τ := [(0, (Sl.val body0)), (4, (.int .u32 t10)), (14, (.int .u8 t14)), (17, (.int .u8 t17)), (18, (.int .u32 t10))]) ⟨rfl, rfl, rfl, rfl, rfl, trivial⟩
    obtain ⟨t19, he, h⟩ := h
    refine t_pure hs rfl rfl (by decide) (Pure.int he (p_conv_int rfl rfl in_216 in_5)) ?_
    clear hs a he; intro a hs
    refine t_pure hs rfl rfl (by decide) (p_move rfl rfl) ?_
    clear hs a; intro a hs
    obtain ⟨h0, t21, he, h⟩ := h
    refine t_pure hs rfl rfl (by decide) (Pure.int he (p_shr rfl rfl rfl h0)) ?_
    clear hs a h0 he; intro a hs
    obtain ⟨t22, he, h⟩ := h
    refine t_pure hs rfl rfl (by decide) (Pure.int he (p_conv_int rfl rfl in_216 in_5)) ?_
    clear hs a he; intro a hs
    refine t_pure hs rfl rfl (by decide) (p_move rfl rfl) ?_
    clear hs a; intro a hs
    obtain ⟨h0, t24, he, h⟩ := h
    refine t_pure hs rfl rfl (by decide) (Pure.int he (p_shr rfl rfl rfl h0)) ?_
    clear hs a h0 he; intro a hs
    obtain ⟨t25, he, h⟩ := h
    refine t_pure hs rfl rfl (by decide) (Pure.int he (p_conv_int rfl rfl in_216 in_5)) ?_
    clear hs a he; intro a hs
    refine t_pure hs rfl rfl (by decide) (p_move rfl rfl) ?_
    clear hs a; intro a hs
    replace hs := hs.to (τ := [(0, (Sl.val body0)), (14, (.int .u8 t14)), (17, (.int .u8 t17)), (19, (.int .u8 t19)), (22, (.int .u8 t22)), (25, (.int .u8 t25)), (26, (.int .u32 t10))]) ⟨rfl, rfl, rfl, rfl, rfl, rfl, rfl, trivial⟩
    obtain ⟨h0, t27, he, h⟩ := h
    refine t_pure hs rfl rfl (by decide) (Pure.int he (p_shr rfl rfl rfl h0)) ?_
    clear hs a h0 he; intro a hs
    obtain ⟨t28, he, h⟩ := h
    refine t_pure hs rfl rfl (by decide) (Pure.int he (p_conv_int rfl rfl in_216 in_5)) ?_
    clear hs a he; intro a hs
    obtain ⟨t29, w1, ha, hw, h⟩ := h
    refine t_eff hs rfl rfl (by decide) (e_buildSlice (z := #[(.int .u8 0), (.int .u8 0), (.int .u8 0), (.int .u8 0), (.int .u8 0), (.int .u8 0)]) (cs := #[(.int .u8 t14), (.int .u8 t17), (.int .u8 t19), (.int .u8 t22), (.int .u8 t25), (.int .u8 t28)]) rfl sl_22 zt_5 (by decide) rfl rz_5_6 (by rfl) ha hw) ?_
    clear hs a ha hw; intro a hs
    refine t_pure hs rfl rfl (by decide) (p_assign rfl rfl) ?_
    clear hs a; intro a hs
    refine hK6 _ _ ?_
    refine wp_seq_k fun K7 hK7 => ?_
    refine wp_region_lit ?_
    refine t_pure hs rfl rfl (by decide) (p_move rfl rfl) ?_
    clear hs a; intro a hs
    refine t_pure hs rfl rfl (by decide) (p_move rfl rfl) ?_
    clear hs a; intro a hs
    obtain ⟨t32, w1, hd, h⟩ := h
    refine t_eff hs rfl rfl (by decide) (e_append rfl rfl rfl rfl hd) ?_
    clear hs a hd; intro a hs
    refine t_pure hs rfl rfl (by decide) (p_assign rfl rfl) ?_
    clear hs a; intro a hs
    refine t_pure hs rfl rfl (by decide) (p_assign rfl rfl) ?_
    clear hs a; intro a hs
    refine hK7 _ _ ?_
    refine wp_ret ?_
    refine f_ret (fn := Try.f68) hs (fun a hs => r_many hs (rs := [ResultVar.tmp 2, ResultVar.tmp 3]) (vs := [(Sl.val t32), (.int .i64 0)]) rfl (by decide) ⟨rfl, rfl, trivial⟩) ⟨t32, 0, rfl, h⟩
def code_sealed (body0 : Sl) (Q : Int → K) : K :=
  Cd (0 ≤ (8 : Int)) <|
  Ar (shrOf .i64 (body0.n : Int) 8) fun t5 =>
  Ar (IntKind.wrap .u8 t5) fun t6 =>
  Ar (IntKind.wrap .u8 (body0.n : Int)) fun t9 =>
  New 5 #[(.int .u8 t6), (.int .u8 t9)] fun t10 =>
  Do Try.prog (Builtin.append_ #[22, 22] 22 #[(Sl.val (Sl.mk (some t10) 2 2)), (Sl.val body0)]) Sl.val fun t12 =>
  code_Sum.call t12 fun t13 =>
  Q t13
theorem code_sealed_ok (body0 : Sl) (Q : Int → K) (w : World) (h : code_sealed body0 Q w) : code_sealed.call body0 Q w := by
  unfold code_sealed.call CallF
  refine f_start (args := [(Sl.val body0)]) Try.func99 rfl (Nat.le_of_ble_eq_true rfl) ?_
  intro a hs
  unfold code_sealed at h
  refine wp_seq_k fun K1 hK1 => ?_
  refine wp_region_lit ?_
  refine t_pure hs rfl rfl (by decide) (p_assign rfl rfl) ?_
  clear hs a; intro a hs
  refine hK1 _ _ ?_
  refine wp_seq_k fun K2 hK2 => ?_
  refine wp_region_lit ?_
  refine t_pure hs rfl rfl (by decide) (p_move rfl rfl) ?_
  clear hs a; intro a hs
  refine t_pure hs rfl rfl (by decide) (p_len rfl rfl sl_22) ?_
  clear hs a; intro a hs
  obtain ⟨h0, t5, he, h⟩ := h
  refine t_pure hs rfl rfl (by decide) (Pure.int he (p_shr rfl rfl rfl h0)) ?_
  clear hs a h0 he; intro a hs
  obtain ⟨t6, he, h⟩ := h
  refine t_pure hs rfl rfl (by decide) (Pure.int he (p_conv_int rfl rfl in_3 in_5)) ?_
  clear hs a he; intro a hs
  refine t_pure hs rfl rfl (by decide) (p_move rfl rfl) ?_
  clear hs a; intro a hs
  refine t_pure hs rfl rfl (by decide) (p_len rfl rfl sl_22) ?_
  clear hs a; intro a hs
  obtain ⟨t9, he, h⟩ := h
  refine t_pure hs rfl rfl (by decide) (Pure.int he (p_conv_int rfl rfl in_3 in_5)) ?_
  clear hs a he; intro a hs
  obtain ⟨t10, w1, ha, hw, h⟩ := h
  refine t_eff hs rfl rfl (by decide) (e_buildSlice (z := #[(.int .u8 0), (.int .u8 0)]) (cs := #[(.int .u8 t6), (.int .u8 t9)]) rfl sl_22 zt_5 (by decide) rfl rz_5_2 (by rfl) ha hw) ?_
  clear hs a ha hw; intro a hs
  replace hs := hs.to (τ := [(0, (Sl.val body0)), (10, (Sl.val (Sl.mk (some t10) 2 2)))]) ⟨rfl, rfl, trivial⟩
  refine t_pure hs rfl rfl (by decide) (p_move rfl rfl) ?_
  clear hs a; intro a hs
  obtain ⟨t12, w1, hd, h⟩ := h
  refine t_eff hs rfl rfl (by decide) (e_append rfl rfl rfl rfl hd) ?_
  clear hs a hd; intro a hs
  refine t_call hs rfl rfl (by decide) (e_call rfl rfl rfl cb_124) h ?_
  clear hs a h
  intro v a w hk hs
  obtain ⟨t13, rfl, h⟩ := hk
  refine t_pure hs rfl rfl (by decide) (p_assign rfl rfl) ?_
  clear hs a; intro a hs
  refine hK2 _ _ ?_
  refine wp_ret ?_
  refine f_ret (fn := Try.f99) hs (fun a hs => r_one hs rfl (rfl)) ⟨t13, rfl, h⟩
def code_Unframe (data0 : Sl) (Q : Sl → Int → Int → K) : K :=
  Ite (decide ((data0.n : Int) < 6))
    (Q (Sl.mk none 0 0) 0 30)
    (Dr <|
    Idx data0 0 1 fun t12 =>
    Ld t12 (Value.int .u8) fun t13 =>
    Ar (IntKind.wrap .i64 t13) fun t14 =>
    Cd (0 ≤ (8 : Int)) <|
    Ar (shlOf .i64 t14 8) fun t15 =>
    Idx data0 1 1 fun t17 =>
    Ld t17 (Value.int .u8) fun t18 =>
    Ar (IntKind.wrap .i64 t18) fun t19 =>
    Ar (bitsOf .or .i64 t15 t19) fun t20 =>
    Ite (decide ((4096 : Int) < t20))
      (Q (Sl.mk none 0 0) 0 31)
      (Ar (IntKind.wrap .i64 ((data0.n : Int) - 6)) fun t28 =>
      Ite (decide (t28 < t20))
        (Q (Sl.mk none 0 0) 0 30)
        (Ar (IntKind.wrap .i64 (6 + t20)) fun t33 =>
        Slc data0 6 t33 (data0.c : Int) 1 fun t34 =>
        code_Frame.call t34 fun t35x0 t35x1 =>
        Ar (IntKind.wrap .i64 (6 + t20)) fun t41 =>
        Slc data0 0 t41 (data0.c : Int) 1 fun t42 =>
        slices_Equal_s_byte_byte.call t35x0 t42 fun t43 =>
        Ite (!t43)
          (Q (Sl.mk none 0 0) 0 33)
          (Slc t35x0 6 (t35x0.n : Int) (t35x0.c : Int) 1 fun t46 =>
          Q t46 (t35x0.n : Int) 0))))
theorem code_Unframe_ok (data0 : Sl) (Q : Sl → Int → Int → K) (w : World) (h : code_Unframe data0 Q w) : code_Unframe.call data0 Q w := by
  unfold code_Unframe.call CallF
  refine f_start (args := [(Sl.val data0)]) Try.func123 rfl (Nat.le_of_ble_eq_true rfl) ?_
  intro a hs
  unfold code_Unframe at h
  refine wp_seq_k fun K1 hK1 => ?_
  refine wp_region_lit ?_
  refine t_pure hs rfl rfl (by decide) (p_assign rfl rfl) ?_
  clear hs a; intro a hs
  refine t_pure hs rfl rfl (by decide) (p_assign rfl rfl) ?_
  clear hs a; intro a hs
  refine t_pure hs rfl rfl (by decide) (p_assign rfl rfl) ?_
  clear hs a; intro a hs
  refine hK1 _ _ ?_
  refine wp_seq_k fun K2 hK2 => ?_
  refine wp_seq_k fun K3 hK3 => ?_
  refine wp_region_lit ?_
  refine t_pure hs rfl rfl (by decide) (p_move rfl rfl) ?_
  clear hs a; intro a hs
  refine t_pure hs rfl rfl (by decide) (p_len rfl rfl sl_22) ?_
  clear hs a; intro a hs
  refine t_pure hs rfl rfl (by decide) (p_lt rfl rfl rfl) ?_
  clear hs a; intro a hs
  refine hK3 _ _ ?_
  refine c_cond hs rfl (fun hb => ?_) (fun hb => ?_)
  · replace h := h.1 hb
    clear hb
    refine wp_seq_k fun K4 hK4 => ?_
    refine wp_region_lit ?_
    refine t_pure hs rfl rfl (by decide) (p_assign rfl rfl) ?_
    clear hs a; intro a hs
    refine t_pure hs rfl rfl (by decide) (p_assign rfl rfl) ?_
    clear hs a; intro a hs
    refine t_pure hs rfl rfl (by decide) (p_assign rfl rfl) ?_
    clear hs a; intro a hs
    refine hK4 _ _ ?_
    refine wp_ret ?_
    refine f_ret (fn := Try.f123) hs (fun a hs => r_many hs (rs := [ResultVar.tmp 2, ResultVar.tmp 3, ResultVar.tmp 4]) (vs := [(Sl.val (Sl.mk none 0 0)), (.int .i64 0), (.int .i64 30)]) rfl (by decide) ⟨rfl, rfl, rfl, trivial⟩) ⟨(Sl.mk none 0 0), 0, 30, rfl, h⟩
  · replace h := h.2 hb
    clear hb
    refine wp_skip ?_
    refine hK2 _ _ ?_
    refine wp_seq_k fun K5 hK5 => ?_
    obtain ⟨w1, hw1, h⟩ := h
    refine s_start mixed (by kernel_rfl) hw1 ?_
    clear hw1
    refine s_pure hs rfl rfl (by decide) (p_move rfl rfl) ?_
    clear hs a; intro a hs
    obtain ⟨qt12, t12, ha, h0, h1, he, h⟩ := h
    refine s_pure hs rfl rfl (by decide) (Pure.adr he (p_idx rfl rfl rfl sl_22 ha h0 h1)) ?_
    clear hs a ha h0 h1 he; intro a hs
    obtain ⟨t13, hv, h⟩ := h
    refine s_eff hs rfl rfl (by decide) (e_load rfl rfl ct_5 hv) ?_
    clear hs a hv; intro a hs
    obtain ⟨t14, he, h⟩ := h
    refine s_pure hs rfl rfl (by decide) (Pure.int he (p_conv_int rfl rfl in_5 in_3)) ?_
    clear hs a he; intro a hs
    obtain ⟨h0, t15, he, h⟩ := h
    refine s_pure hs rfl rfl (by decide) (Pure.int he (p_shl rfl rfl rfl h0)) ?_
    clear hs a h0 he; intro a hs
    refine s_pure hs rfl rfl (by decide) (p_move rfl rfl) ?_
    clear hs a; intro a hs
    obtain ⟨qt17, t17, ha, h0, h1, he, h⟩ := h
    refine s_pure hs rfl rfl (by decide) (Pure.adr he (p_idx rfl rfl rfl sl_22 ha h0 h1)) ?_
    clear hs a ha h0 h1 he; intro a hs
    obtain ⟨t18, hv, h⟩ := h
    refine s_eff hs rfl rfl (by decide) (e_load rfl rfl ct_5 hv) ?_
    clear hs a hv; intro a hs
    replace hs := hs.to (τ := [(0, (Sl.val data0)), (15, (.int .i64 t15)), (18, (.int .u8 t18))]) ⟨rfl, rfl, rfl, trivial⟩
    obtain ⟨t19, he, h⟩ := h
    refine s_pure hs rfl rfl (by decide) (Pure.int he (p_conv_int rfl rfl in_5 in_3)) ?_
    clear hs a he; intro a hs
    obtain ⟨t20, he, h⟩ := h
    refine s_pure hs rfl rfl (by decide) (Pure.int he (p_or rfl rfl rfl)) ?_
    clear hs a he; intro a hs
    refine s_pure hs rfl rfl (by decide) (p_assign rfl rfl) ?_
    clear hs a; intro a hs
    refine hK5 _ _ ?_
    refine wp_seq_k fun K6 hK6 => ?_
    refine wp_block ?_
    refine wp_seq_k fun K7 hK7 => ?_
    refine wp_region_lit ?_
    refine t_pure hs rfl rfl (by decide) (p_move rfl rfl) ?_
    clear hs a; intro a hs
    refine t_pure hs rfl rfl (by decide) (p_gt rfl rfl rfl) ?_
    clear hs a; intro a hs
    refine t_pure hs rfl rfl (by decide) (p_assign rfl rfl) ?_
    clear hs a; intro a hs
    refine hK7 _ _ ?_
    refine c_cond hs rfl (fun hb => ?_) (fun hb => ?_)
    · replace h := h.1 hb
      clear hb
      refine wp_seq_k fun K8 hK8 => ?_
      refine wp_region_lit ?_
      refine t_pure hs rfl rfl (by decide) (p_assign rfl rfl) ?_
      clear hs a; intro a hs
      refine t_pure hs rfl rfl (by decide) (p_assign rfl rfl) ?_
      clear hs a; intro a hs
      refine t_pure hs rfl rfl (by decide) (p_assign rfl rfl) ?_
      clear hs a; intro a hs
      refine hK8 _ _ ?_
      refine wp_ret ?_
      refine f_ret (fn := Try.f123) hs (fun a hs => r_many hs (rs := [ResultVar.tmp 2, ResultVar.tmp 3, ResultVar.tmp 4]) (vs := [(Sl.val (Sl.mk none 0 0)), (.int .i64 0), (.int .i64 31)]) rfl (by decide) ⟨rfl, rfl, rfl, trivial⟩) ⟨(Sl.mk none 0 0), 0, 31, rfl, h⟩
    · replace h := h.2 hb
      clear hb
      refine wp_seq_k fun K9 hK9 => ?_
      refine wp_region_lit ?_
      refine t_pure hs rfl rfl (by decide) (p_move rfl rfl) ?_
      clear hs a; intro a hs
      refine t_pure hs rfl rfl (by decide) (p_move rfl rfl) ?_
      clear hs a; intro a hs
      refine t_pure hs rfl rfl (by decide) (p_len rfl rfl sl_22) ?_
      clear hs a; intro a hs
      obtain ⟨t28, he, h⟩ := h
      refine t_pure hs rfl rfl (by decide) (Pure.int he (p_sub rfl rfl rfl)) ?_
      clear hs a he; intro a hs
      refine t_pure hs rfl rfl (by decide) (p_gt rfl rfl rfl) ?_
      clear hs a; intro a hs
      refine t_pure hs rfl rfl (by decide) (p_assign rfl rfl) ?_
      clear hs a; intro a hs
      refine hK9 _ _ ?_
      refine c_cond hs rfl (fun hb => ?_) (fun hb => ?_)
      · replace h := h.1 hb
        clear hb
        refine wp_seq_k fun K10 hK10 => ?_
        refine wp_region_lit ?_
        refine t_pure hs rfl rfl (by decide) (p_assign rfl rfl) ?_
        clear hs a; intro a hs
        refine t_pure hs rfl rfl (by decide) (p_assign rfl rfl) ?_
        clear hs a; intro a hs
        refine t_pure hs rfl rfl (by decide) (p_assign rfl rfl) ?_
        clear hs a; intro a hs
        refine hK10 _ _ ?_
        refine wp_ret ?_
        refine f_ret (fn := Try.f123) hs (fun a hs => r_many hs (rs := [ResultVar.tmp 2, ResultVar.tmp 3, ResultVar.tmp 4]) (vs := [(Sl.val (Sl.mk none 0 0)), (.int .i64 0), (.int .i64 30)]) rfl (by decide) ⟨rfl, rfl, rfl, trivial⟩) ⟨(Sl.mk none 0 0), 0, 30, rfl, h⟩
      · replace h := h.2 hb
        clear hb
        refine wp_skip ?_
        refine hK6 _ _ ?_
        refine wp_seq_k fun K11 hK11 => ?_
        refine wp_region_lit ?_
        refine t_pure hs rfl rfl (by decide) (p_move rfl rfl) ?_
        clear hs a; intro a hs
        refine t_pure hs rfl rfl (by decide) (p_move rfl rfl) ?_
        clear hs a; intro a hs
        obtain ⟨t33, he, h⟩ := h
        refine t_pure hs rfl rfl (by decide) (Pure.int he (p_add rfl rfl rfl)) ?_
        clear hs a he; intro a hs
        obtain ⟨t34, h0, h1, h2, h3, he, h⟩ := h
        refine t_pure hs rfl rfl (by decide) (Pure.sl he (p_slc rfl rfl sl_22 ⟨_, rfl⟩ ⟨_, rfl⟩ rfl (by decide) h0 h1 h2 h3)) ?_
        clear hs a h0 h1 h2 h3 he; intro a hs
        refine t_call hs rfl rfl (by decide) (e_call rfl rfl rfl cb_68) h ?_
        clear hs a h
        intro v a w hk hs
        obtain ⟨t35x0, t35x1, rfl, h⟩ := hk
        refine t_pure hs rfl rfl (by decide) (p_move rfl rfl) ?_
        clear hs a; intro a hs
        refine t_pure hs rfl rfl (by decide) (p_extract rfl rfl rfl) ?_
        clear hs a; intro a hs
        refine t_pure hs rfl rfl (by decide) (p_extract rfl rfl rfl) ?_
        clear hs a; intro a hs
        replace hs := hs.to (τ := [(0, (Sl.val data0)), (5, (.int .i64 t20)), (36, (Sl.val t35x0)), (37, (.int .i64 t35x1))]) ⟨rfl, rfl, rfl, rfl, trivial⟩
        refine t_pure hs rfl rfl (by decide) (p_assign rfl rfl) ?_
        clear hs a; intro a hs
        refine t_pure hs rfl rfl (by decide) (p_assign rfl rfl) ?_
        clear hs a; intro a hs
        refine hK11 _ _ ?_
        refine wp_seq_k fun K12 hK12 => ?_
        refine wp_seq_k fun K13 hK13 => ?_
        refine wp_region_lit ?_
        refine t_pure hs rfl rfl (by decide) (p_move rfl rfl) ?_
        clear hs a; intro a hs
        refine t_pure hs rfl rfl (by decide) (p_move rfl rfl) ?_
        clear hs a; intro a hs
        refine t_pure hs rfl rfl (by decide) (p_move rfl rfl) ?_
        clear hs a; intro a hs
        obtain ⟨t41, he, h⟩ := h
        refine t_pure hs rfl rfl (by decide) (Pure.int he (p_add rfl rfl rfl)) ?_
        clear hs a he; intro a hs
        obtain ⟨t42, h0, h1, h2, h3, he, h⟩ := h
        refine t_pure hs rfl rfl (by decide) (Pure.sl he (p_slc rfl rfl sl_22 rfl ⟨_, rfl⟩ rfl (by decide) h0 h1 h2 h3)) ?_
        clear hs a h0 h1 h2 h3 he; intro a hs
        refine t_call hs rfl rfl (by decide) (e_call rfl rfl rfl cb_145) h ?_
        clear hs a h
        intro v a w hk hs
        obtain ⟨t43, rfl, h⟩ := hk
        refine t_pure hs rfl rfl (by decide) (p_not rfl rfl) ?_
        clear hs a; intro a hs
        refine hK13 _ _ ?_
        refine c_cond hs rfl (fun hb => ?_) (fun hb => ?_)
        · replace h := h.1 hb
          clear hb
          refine wp_seq_k fun K14 hK14 => ?_
          refine wp_region_lit ?_
          refine t_pure hs rfl rfl (by decide) (p_assign rfl rfl) ?_
          clear hs a; intro a hs
          refine t_pure hs rfl rfl (by decide) (p_assign rfl rfl) ?_
          clear hs a; intro a hs
          refine t_pure hs rfl rfl (by decide) (p_assign rfl rfl) ?_
          clear hs a; intro a hs
          refine hK14 _ _ ?_
          refine wp_ret ?_
          refine f_ret (fn := Try.f123) hs (fun a hs => r_many hs (rs := [ResultVar.tmp 2, ResultVar.tmp 3, ResultVar.tmp 4]) (vs := [(Sl.val (Sl.mk none 0 0)), (.int .i64 0), (.int .i64 33)]) rfl (by decide) ⟨rfl, rfl, rfl, trivial⟩) ⟨(Sl.mk none 0 0), 0, 33, rfl, h⟩
        · replace h := h.2 hb
          clear hb
          refine wp_skip ?_
          refine hK12 _ _ ?_
          refine wp_seq_k fun K15 hK15 => ?_
          refine wp_region_lit ?_
          refine t_pure hs rfl rfl (by decide) (p_move rfl rfl) ?_
          clear hs a; intro a hs
          obtain ⟨t46, h0, h1, h2, h3, he, h⟩ := h
          refine t_pure hs rfl rfl (by decide) (Pure.sl he (p_slc rfl rfl sl_22 ⟨_, rfl⟩ rfl rfl (by decide) h0 h1 h2 h3)) ?_
          clear hs a h0 h1 h2 h3 he; intro a hs
          refine t_pure hs rfl rfl (by decide) (p_move rfl rfl) ?_
          clear hs a; intro a hs
          refine t_pure hs rfl rfl (by decide) (p_len rfl rfl sl_22) ?_
          clear hs a; intro a hs
          refine t_pure hs rfl rfl (by decide) (p_assign rfl rfl) ?_
          clear hs a; intro a hs
          refine t_pure hs rfl rfl (by decide) (p_assign rfl rfl) ?_
          clear hs a; intro a hs
          refine t_pure hs rfl rfl (by decide) (p_assign rfl rfl) ?_
          clear hs a; intro a hs
          refine hK15 _ _ ?_
          refine wp_ret ?_
          refine f_ret (fn := Try.f123) hs (fun a hs => r_many hs (rs := [ResultVar.tmp 2, ResultVar.tmp 3, ResultVar.tmp 4]) (vs := [(Sl.val t46), (.int .i64 (t35x0.n : Int)), (.int .i64 0)]) rfl (by decide) ⟨rfl, rfl, rfl, trivial⟩) ⟨t46, (t35x0.n : Int), 0, rfl, h⟩
def code_Sum.s3 (Q : Int → K) (X1 : Int → Int → K) (X2 : Int → Int → K) (sum3_3 : Int) (t7_3 : Sl) (t8_3 : Int) (t9_3 : Int) (t17_3 : Int) : K :=
  Ar (IntKind.wrap .i64 (t17_3 + 1)) fun t27 =>
  X2 sum3_3 t27
def code_Sum.b2 (Q : Int → K) (X1 : Int → Int → K) (X2 : Int → Int → K) (t7_2 : Sl) (t8_2 : Int) (t9_2 : Int) (sum3_2 : Int) (t17_2 : Int) : K :=
  Ite (decide (t17_2 < 8))
    (Ar (bitsOf .and .u32 sum3_2 1) fun t20 =>
    Cd (0 ≤ (1 : Int)) <|
    Ar (shrOf .u32 sum3_2 1) fun t22 =>
    Ite (decide (t20 = 1))
      (Ar (bitsOf .xor .u32 t22 2197175160) fun t26 =>
      code_Sum.s3 Q X1 X2 t26 t7_2 t8_2 t9_2 t17_2)
      (code_Sum.s3 Q X1 X2 t22 t7_2 t8_2 t9_2 t17_2))
    (Ar (IntKind.wrap .i64 (t9_2 + 1)) fun t28 =>
    X1 sum3_2 t28)
def code_Sum.b1 (Q : Int → K)  (X1 : Int → Int → K) (t7_1 : Sl) (t8_1 : Int) (sum3_1 : Int) (t9_1 : Int) : K :=
  Ite (decide (t9_1 < t8_1))
    (Idx t7_1 t9_1 1 fun t11 =>
    Ld t11 (Value.int .u8) fun t12 =>
    Ar (IntKind.wrap .u32 t12) fun t15 =>
    Ar (bitsOf .xor .u32 sum3_1 t15) fun t16 =>
    LoopK (α := Int × Int) (fun X x => code_Sum.b2 Q X1 (fun sum3_2 t17_2 => X (sum3_2, t17_2)) t7_1 t8_1 t9_1 x.1 x.2) (t16, 0))
    (Ar (bitsOf .xor .u32 (if IntKind.signed .u32 then -1 else IntKind.max .u32) sum3_1) fun t30 =>
    Q t30)
def code_Sum (b0 : Sl) (Q : Int → K) : K :=
  LoopK (α := Int × Int) (fun X x => code_Sum.b1 Q (fun sum3_1 t9_1 => X (sum3_1, t9_1)) b0 (b0.n : Int) x.1 x.2) (4294967295, 0)
theorem code_Sum_ok (b0 : Sl) (Q : Int → K) (w : World) (h : code_Sum b0 Q w) : code_Sum.call b0 Q w := by
  unfold code_Sum.call CallF
  refine f_start (args := [(Sl.val b0)]) Try.func124 rfl (Nat.le_of_ble_eq_true rfl) ?_
  intro a hs
  unfold code_Sum at h
  refine wp_seq_k fun K1 hK1 => ?_
  refine wp_region_lit ?_
  refine t_pure hs rfl rfl (by decide) (p_assign rfl rfl) ?_
  clear hs a; intro a hs
  refine hK1 _ _ ?_
  refine wp_seq_k fun K2 hK2 => ?_
  refine wp_region_lit ?_
  refine t_pure hs rfl rfl (by decide) (p_assign rfl rfl) ?_
  clear hs a; intro a hs
  refine hK2 _ _ ?_
  refine wp_seq_k fun K3 hK3 => ?_
  refine wp_seq_k fun K4 hK4 => ?_
  refine wp_region_lit ?_
  refine t_pure hs rfl rfl (by decide) (p_move rfl rfl) ?_
  clear hs a; intro a hs
  refine t_pure hs rfl rfl (by decide) (p_len rfl rfl sl_22) ?_
  clear hs a; intro a hs
  refine t_pure hs rfl rfl (by decide) (p_move rfl rfl) ?_
  clear hs a; intro a hs
  refine hK4 _ _ ?_
  refine wp_block ?_
  obtain ⟨I1, μ1, h0, hr⟩ := h
  refine c_loop (α := Int × Int) I1 μ1 (fun x a => Slots a 31 [(3, (.int .u32 x.1)), (7, (Sl.val b0)), (8, (.int .i64 (b0.n : Int))), (9, (.int .i64 x.2))]) (4294967295, 0) h0 (hs.to ⟨rfl, rfl, rfl, rfl, trivial⟩) ?_
  clear h0 hs a
  rintro ⟨sum3_1, t9_1⟩ a w hI hs
  have h : code_Sum.b1 Q (fun sum3_1n t9_1n w' => I1 (sum3_1n, t9_1n) w' ∧ μ1 (sum3_1n, t9_1n) w' < μ1 (sum3_1, t9_1) w) b0 (b0.n : Int) sum3_1 t9_1 w := hr (sum3_1, t9_1) w hI
  clear hr hI
  generalize hX1 : (fun sum3_1n t9_1n w' => I1 (sum3_1n, t9_1n) w' ∧ μ1 (sum3_1n, t9_1n) w' < μ1 (sum3_1, t9_1) w) = X1 at h
  unfold code_Sum.b1 at h
  replace hs : Slots a 31 [(3, (.int .u32 sum3_1)), (7, (Sl.val b0)), (8, (.int .i64 (b0.n : Int))), (9, (.int .i64 t9_1))] := hs
  refine wp_seq_k fun K5 hK5 => ?_
  refine wp_region_lit ?_
  refine t_pure hs rfl rfl (by decide) (p_lt rfl rfl rfl) ?_
  clear hs a; intro a hs
  refine hK5 _ _ ?_
  refine wp_seq_k fun K6 hK6 => ?_
  refine c_cond hs rfl (fun hb => ?_) (fun hb => ?_)
  · replace h := h.1 hb
    clear hb
    refine wp_skip ?_
    refine hK6 _ _ ?_
    refine wp_seq_k fun K7 hK7 => ?_
    refine wp_block ?_
    refine wp_seq_k fun K8 hK8 => ?_
    refine wp_region_lit ?_
    obtain ⟨qt11, t11, ha, h0, h1, he, h⟩ := h
    refine t_pure hs rfl rfl (by decide) (Pure.adr he (p_idx rfl rfl rfl sl_22 ha h0 h1)) ?_
    clear hs a ha h0 h1 he; intro a hs
    obtain ⟨t12, hv, h⟩ := h
    refine t_eff hs rfl rfl (by decide) (e_load rfl rfl ct_5 hv) ?_
    clear hs a hv; intro a hs
    refine t_pure hs rfl rfl (by decide) (p_assign rfl rfl) ?_
    clear hs a; intro a hs
    refine hK8 _ _ ?_
    refine wp_seq_k fun K9 hK9 => ?_
    refine wp_region_lit ?_
    refine t_pure hs rfl rfl (by decide) (p_move rfl rfl) ?_
    clear hs a; intro a hs
    refine t_pure hs rfl rfl (by decide) (p_move rfl rfl) ?_
    clear hs a; intro a hs
    obtain ⟨t15, he, h⟩ := h
    refine t_pure hs rfl rfl (by decide) (Pure.int he (p_conv_int rfl rfl in_5 in_216)) ?_
    clear hs a he; intro a hs
    obtain ⟨t16, he, h⟩ := h
    refine t_pure hs rfl rfl (by decide) (Pure.int he (p_xor rfl rfl rfl)) ?_
    clear hs a he; intro a hs
    refine t_pure hs rfl rfl (by decide) (p_assign rfl rfl) ?_
    clear hs a; intro a hs
    refine hK9 _ _ ?_
    refine wp_seq_k fun K10 hK10 => ?_
    refine wp_region_lit ?_
    refine t_pure hs rfl rfl (by decide) (p_move rfl rfl) ?_
    clear hs a; intro a hs
    refine hK10 _ _ ?_
    refine wp_block ?_
    obtain ⟨I2, μ2, h0, hr⟩ := h
    refine c_loop (α := Int × Int) I2 μ2 (fun x a => Slots a 31 [(3, (.int .u32 x.1)), (7, (Sl.val b0)), (8, (.int .i64 (b0.n : Int))), (9, (.int .i64 t9_1)), (17, (.int .i64 x.2))]) (t16, 0) h0 (hs.to ⟨rfl, rfl, rfl, rfl, rfl, trivial⟩) ?_
    clear h0 hs a
    rintro ⟨sum3_2, t17_2⟩ a w hI hs
    have h : code_Sum.b2 Q X1 (fun sum3_2n t17_2n w' => I2 (sum3_2n, t17_2n) w' ∧ μ2 (sum3_2n, t17_2n) w' < μ2 (sum3_2, t17_2) w) b0 (b0.n : Int) t9_1 sum3_2 t17_2 w := hr (sum3_2, t17_2) w hI
    clear hr hI
    generalize hX2 : (fun sum3_2n t17_2n w' => I2 (sum3_2n, t17_2n) w' ∧ μ2 (sum3_2n, t17_2n) w' < μ2 (sum3_2, t17_2) w) = X2 at h
    unfold code_Sum.b2 at h
    replace hs : Slots a 31 [(3, (.int .u32 sum3_2)), (7, (Sl.val b0)), (8, (.int .i64 (b0.n : Int))), (9, (.int .i64 t9_1)), (17, (.int .i64 t17_2))] := hs
    refine wp_seq_k fun K11 hK11 => ?_
    refine wp_region_lit ?_
    refine t_pure hs rfl rfl (by decide) (p_lt rfl rfl rfl) ?_
    clear hs a; intro a hs
    refine hK11 _ _ ?_
    refine wp_seq_k fun K12 hK12 => ?_
    refine c_cond hs rfl (fun hb => ?_) (fun hb => ?_)
    · replace h := h.1 hb
      clear hb
      refine wp_skip ?_
      refine hK12 _ _ ?_
      refine wp_seq_k fun K13 hK13 => ?_
      have J3 : ∀ (sum3_3 : Int) (a : Act) (w : World), Slots a 31 [(3, (.int .u32 sum3_3)), (7, (Sl.val b0)), (8, (.int .i64 (b0.n : Int))), (9, (.int .i64 t9_1)), (17, (.int .i64 t17_2))] → code_Sum.s3 Q X1 X2 sum3_3 b0 (b0.n : Int) t9_1 t17_2 w → K13 a w := by
        clear h hs
        intro sum3_3 a w hs h
        refine hK13 _ _ ?_
        unfold code_Sum.s3 at h
        refine wp_region_lit ?_
        obtain ⟨t27, he, h⟩ := h
        refine t_pure hs rfl rfl (by decide) (Pure.int he (p_add rfl rfl rfl)) ?_
        clear hs a he; intro a hs
        refine t_pure hs rfl rfl (by decide) (p_move rfl rfl) ?_
        clear hs a; intro a hs
        rw [← hX2] at h
        exact ⟨(sum3_3, t27), hs.to ⟨rfl, rfl, rfl, rfl, rfl, trivial⟩, h⟩
      clear hK13
      refine wp_block ?_
      refine wp_seq_k fun K14 hK14 => ?_
      refine wp_region_lit ?_
      refine t_pure hs rfl rfl (by decide) (p_move rfl rfl) ?_
      clear hs a; intro a hs
      obtain ⟨t20, he, h⟩ := h
      refine t_pure hs rfl rfl (by decide) (Pure.int he (p_and rfl rfl rfl)) ?_
      clear hs a he; intro a hs
      refine t_pure hs rfl rfl (by decide) (p_assign rfl rfl) ?_
      clear hs a; intro a hs
      refine hK14 _ _ ?_
      refine wp_seq_k fun K15 hK15 => ?_
      refine wp_region_lit ?_
      refine t_pure hs rfl rfl (by decide) (p_move rfl rfl) ?_
      clear hs a; intro a hs
      obtain ⟨h0, t22, he, h⟩ := h
      refine t_pure hs rfl rfl (by decide) (Pure.int he (p_shr rfl rfl rfl h0)) ?_
      clear hs a h0 he; intro a hs
      refine t_pure hs rfl rfl (by decide) (p_assign rfl rfl) ?_
      clear hs a; intro a hs
      refine hK15 _ _ ?_
      refine wp_seq_k fun K16 hK16 => ?_
      refine wp_region_lit ?_
      refine t_pure hs rfl rfl (by decide) (p_move rfl rfl) ?_
      clear hs a; intro a hs
      refine t_pure hs rfl rfl (by decide) (p_eq rfl rfl rfl) ?_
      clear hs a; intro a hs
      refine hK16 _ _ ?_
      refine c_cond hs rfl (fun hb => ?_) (fun hb => ?_)
      · replace h := h.1 hb
        clear hb
        refine wp_region_lit ?_
        refine t_pure hs rfl rfl (by decide) (p_move rfl rfl) ?_
        clear hs a; intro a hs
        obtain ⟨t26, he, h⟩ := h
        refine t_pure hs rfl rfl (by decide) (Pure.int he (p_xor rfl rfl rfl)) ?_
        clear hs a he; intro a hs
        refine t_pure hs rfl rfl (by decide) (p_assign rfl rfl) ?_
        clear hs a; intro a hs
        exact J3 t26 _ _ (hs.to ⟨rfl, rfl, rfl, rfl, rfl, trivial⟩) h
      · replace h := h.2 hb
        clear hb
        refine wp_skip ?_
        exact J3 t22 _ _ (hs.to ⟨rfl, rfl, rfl, rfl, rfl, trivial⟩) h
    · replace h := h.2 hb
      clear hb
      refine wp_exit ?_
      refine hK7 _ _ ?_
      refine wp_region_lit ?_
      obtain ⟨t28, he, h⟩ := h
      refine t_pure hs rfl rfl (by decide) (Pure.int he (p_add rfl rfl rfl)) ?_
      clear hs a he; intro a hs
      refine t_pure hs rfl rfl (by decide) (p_move rfl rfl) ?_
      clear hs a; intro a hs
      rw [← hX1] at h
      exact ⟨(sum3_2, t28), hs.to ⟨rfl, rfl, rfl, rfl, trivial⟩, h⟩
  · replace h := h.2 hb
    clear hb
    refine wp_exit ?_
    refine hK3 _ _ ?_
    refine wp_seq_k fun K17 hK17 => ?_
    refine wp_region_lit ?_
    refine t_pure hs rfl rfl (by decide) (p_move rfl rfl) ?_
    clear hs a; intro a hs
    obtain ⟨t30, he, h⟩ := h
    refine t_pure hs rfl rfl (by decide) (Pure.int he (p_com rfl rfl)) ?_
    clear hs a he; intro a hs
    refine t_pure hs rfl rfl (by decide) (p_assign rfl rfl) ?_
    clear hs a; intro a hs
    refine hK17 _ _ ?_
    refine wp_ret ?_
    refine f_ret (fn := Try.f124) hs (fun a hs => r_one hs rfl (rfl)) ⟨t30, rfl, h⟩
end Go.Proofs.Ytdpepgjbambinaa
