/- Plain forms of functions, and that their code comes to them (package ref01). -/
import Derived.Test.YtdpepgjbambinaaCalls
namespace Go.Proofs.Ytdpepgjbambinaa
open Go Go.Sep
set_option linter.unusedVariables false
set_option linter.unusedSimpArgs false
set_option maxRecDepth 100000
set_option maxHeartbeats 4000000
def ref01_Unframe (data0 : Sl) (Q : Sl → Int → Int → K) : K :=
  Ite (decide ((data0.n : Int) < 6))
    (New 5 #[] fun t11 =>
    Q (Sl.mk (some t11) 0 0) 0 30)
    (Dr <|
    Idx data0 0 1 fun t13 =>
    Ld t13 (Value.int .u8) fun t14 =>
    Ar (IntKind.wrap .i64 t14) fun t15 =>
    Ar (IntKind.wrap .i64 (256 * t15)) fun t16 =>
    Idx data0 1 1 fun t18 =>
    Ld t18 (Value.int .u8) fun t19 =>
    Ar (IntKind.wrap .i64 t19) fun t20 =>
    Ar (IntKind.wrap .i64 (t16 + t20)) fun t21 =>
    Ite (decide ((4096 : Int) < t21))
      (New 5 #[] fun t24 =>
      Q (Sl.mk (some t24) 0 0) 0 31)
      (Ar (IntKind.wrap .i64 ((data0.n : Int) - 6)) fun t28 =>
      Ite (decide (t28 < t21))
        (New 5 #[] fun t30 =>
        Q (Sl.mk (some t30) 0 0) 0 30)
        (Ar (IntKind.wrap .i64 (6 + t21)) fun t34 =>
        Slc data0 6 t34 (data0.c : Int) 1 fun t35 =>
        ref01_Frame.call t35 fun t36x0 t36x1 =>
        Dr <|
        Rd Try.prog (convert 22 9 (Sl.val t36x0)) Value.string fun t40 =>
        Ar (IntKind.wrap .i64 (6 + t21)) fun t43 =>
        Slc data0 0 t43 (data0.c : Int) 1 fun t44 =>
        Rd Try.prog (convert 22 9 (Sl.val t44)) Value.string fun t45 =>
        Ite (!(t40.toList == t45.toList))
          (New 5 #[] fun t47 =>
          Q (Sl.mk (some t47) 0 0) 0 33)
          (New 5 #[] fun t48 =>
          Ar (IntKind.wrap .i64 (6 + t21)) fun t51 =>
          Slc data0 6 t51 (data0.c : Int) 1 fun t52 =>
          Do Try.prog (Builtin.append_ #[22, 22] 22 #[(Sl.val (Sl.mk (some t48) 0 0)), (Sl.val t52)]) Sl.val fun t53 =>
          Ar (IntKind.wrap .i64 (6 + t21)) fun t55 =>
          Q t53 t55 0))))
theorem ref01_Unframe_ok (data0 : Sl) (Q : Sl → Int → Int → K) (w : World) (h : ref01_Unframe data0 Q w) : ref01_Unframe.call data0 Q w := by
  unfold ref01_Unframe.call CallF
  refine f_start (args := [(Sl.val data0)]) Try.func37 rfl (Nat.le_of_ble_eq_true rfl) ?_
  intro a hs
  unfold ref01_Unframe at h
  refine wp_seq_k fun K1 hK1 => ?_
  refine wp_region_lit ?_
  refine t_pure hs rfl rfl (by decide) (p_assign rfl rfl) ?_
  clear hs a; intro a hs
  refine t_pure hs rfl rfl (by decide) (p_assign rfl rfl) ?_
  clear hs a; intro a hs
  refine t_pure hs rfl rfl (by decide) (p_assign rfl rfl) ?_
  clear hs a; intro a hs
  refine hK1 _ _ ?_
  refine wp_seq_k fun K2 hK2 => ?_
  refine wp_seq_k fun K3 hK3 => ?_
  refine wp_region_lit ?_
  refine t_pure hs rfl rfl (by decide) (p_move rfl rfl) ?_
  clear hs a; intro a hs
  refine t_pure hs rfl rfl (by decide) (p_len rfl rfl sl_22) ?_
  clear hs a; intro a hs
  refine t_pure hs rfl rfl (by decide) (p_lt rfl rfl rfl) ?_
  clear hs a; intro a hs
  refine hK3 _ _ ?_
  refine c_cond hs rfl (fun hb => ?_) (fun hb => ?_)
  · replace h := h.1 hb
    clear hb
    refine wp_seq_k fun K4 hK4 => ?_
    refine wp_region_lit ?_
    obtain ⟨t11, w1, ha, hw, h⟩ := h
    refine t_eff hs rfl rfl (by decide) (e_buildSlice (z := #[]) (cs := #[]) rfl sl_22 zt_5 (by decide) rfl rz_5_0 (by rfl) ha hw) ?_
    clear hs a ha hw; intro a hs
    refine t_pure hs rfl rfl (by decide) (p_assign rfl rfl) ?_
    clear hs a; intro a hs
    refine t_pure hs rfl rfl (by decide) (p_assign rfl rfl) ?_
    clear hs a; intro a hs
    refine t_pure hs rfl rfl (by decide) (p_assign rfl rfl) ?_
    clear hs a; intro a hs
    refine hK4 _ _ ?_
    refine wp_ret ?_
    refine f_ret (fn := Try.f37) hs (fun a hs => r_many hs (rs := [ResultVar.tmp 2, ResultVar.tmp 3, ResultVar.tmp 4]) (vs := [(Sl.val (Sl.mk (some t11) 0 0)), (.int .i64 0), (.int .i64 30)]) rfl (by decide) ⟨rfl, rfl, rfl, trivial⟩) ⟨(Sl.mk (some t11) 0 0), 0, 30, rfl, h⟩
  · replace h := h.2 hb
    clear hb
    refine wp_skip ?_
    refine hK2 _ _ ?_
    refine wp_seq_k fun K5 hK5 => ?_
    obtain ⟨w1, hw1, h⟩ := h
    refine s_start mixed (by kernel_rfl) hw1 ?_
    clear hw1
    refine s_pure hs rfl rfl (by decide) (p_move rfl rfl) ?_
    clear hs a; intro a hs
    obtain ⟨qt13, t13, ha, h0, h1, he, h⟩ := h
    refine s_pure hs rfl rfl (by decide) (Pure.adr he (p_idx rfl rfl rfl sl_22 ha h0 h1)) ?_
    clear hs a ha h0 h1 he; intro a hs
    obtain ⟨t14, hv, h⟩ := h
    refine s_eff hs rfl rfl (by decide) (e_load rfl rfl ct_5 hv) ?_
    clear hs a hv; intro a hs
    obtain ⟨t15, he, h⟩ := h
    refine s_pure hs rfl rfl (by decide) (Pure.int he (p_conv_int rfl rfl in_5 in_3)) ?_
    clear hs a he; intro a hs
    obtain ⟨t16, he, h⟩ := h
    refine s_pure hs rfl rfl (by decide) (Pure.int he (p_mul rfl rfl rfl)) ?_
    clear hs a he; intro a hs
    refine s_pure hs rfl rfl (by decide) (p_move rfl rfl) ?_
    clear hs a; intro a hs
    obtain ⟨qt18, t18, ha, h0, h1, he, h⟩ := h
    refine s_pure hs rfl rfl (by decide) (Pure.adr he (p_idx rfl rfl rfl sl_22 ha h0 h1)) ?_
    clear hs a ha h0 h1 he; intro a hs
    obtain ⟨t19, hv, h⟩ := h
    refine s_eff hs rfl rfl (by decide) (e_load rfl rfl ct_5 hv) ?_
    clear hs a hv; intro a hs
    replace hs := hs.to (τ := [(0, (Sl.val data0)), (16, (.int .i64 t16)), (19, (.int .u8 t19))]) ⟨rfl, rfl, rfl, trivial⟩
    obtain ⟨t20, he, h⟩ := h
    refine s_pure hs rfl rfl (by decide) (Pure.int he (p_conv_int rfl rfl in_5 in_3)) ?_
    clear hs a he; intro a hs
    obtain ⟨t21, he, h⟩ := h
    refine s_pure hs rfl rfl (by decide) (Pure.int he (p_add rfl rfl rfl)) ?_
    clear hs a he; intro a hs
    refine s_pure hs rfl rfl (by decide) (p_assign rfl rfl) ?_
    clear hs a; intro a hs
    refine hK5 _ _ ?_
    refine wp_seq_k fun K6 hK6 => ?_
    refine wp_seq_k fun K7 hK7 => ?_
    refine wp_region_lit ?_
    refine t_pure hs rfl rfl (by decide) (p_move rfl rfl) ?_
    clear hs a; intro a hs
    refine t_pure hs rfl rfl (by decide) (p_gt rfl rfl rfl) ?_
    clear hs a; intro a hs
    refine hK7 _ _ ?_
    refine c_cond hs rfl (fun hb => ?_) (fun hb => ?_)
    · replace h := h.1 hb
      clear hb
      refine wp_seq_k fun K8 hK8 => ?_
      refine wp_region_lit ?_
      obtain ⟨t24, w1, ha, hw, h⟩ := h
      refine t_eff hs rfl rfl (by decide) (e_buildSlice (z := #[]) (cs := #[]) rfl sl_22 zt_5 (by decide) rfl rz_5_0 (by rfl) ha hw) ?_
      clear hs a ha hw; intro a hs
      refine t_pure hs rfl rfl (by decide) (p_assign rfl rfl) ?_
      clear hs a; intro a hs
      refine t_pure hs rfl rfl (by decide) (p_assign rfl rfl) ?_
      clear hs a; intro a hs
      refine t_pure hs rfl rfl (by decide) (p_assign rfl rfl) ?_
      clear hs a; intro a hs
      refine hK8 _ _ ?_
      refine wp_ret ?_
      refine f_ret (fn := Try.f37) hs (fun a hs => r_many hs (rs := [ResultVar.tmp 2, ResultVar.tmp 3, ResultVar.tmp 4]) (vs := [(Sl.val (Sl.mk (some t24) 0 0)), (.int .i64 0), (.int .i64 31)]) rfl (by decide) ⟨rfl, rfl, rfl, trivial⟩) ⟨(Sl.mk (some t24) 0 0), 0, 31, rfl, h⟩
    · replace h := h.2 hb
      clear hb
      refine wp_skip ?_
      refine hK6 _ _ ?_
      refine wp_seq_k fun K9 hK9 => ?_
      refine wp_seq_k fun K10 hK10 => ?_
      refine wp_region_lit ?_
      refine t_pure hs rfl rfl (by decide) (p_move rfl rfl) ?_
      clear hs a; intro a hs
      refine t_pure hs rfl rfl (by decide) (p_move rfl rfl) ?_
      clear hs a; intro a hs
      refine t_pure hs rfl rfl (by decide) (p_len rfl rfl sl_22) ?_
      clear hs a; intro a hs
      obtain ⟨t28, he, h⟩ := h
      refine t_pure hs rfl rfl (by decide) (Pure.int he (p_sub rfl rfl rfl)) ?_
      clear hs a he; intro a hs
      refine t_pure hs rfl rfl (by decide) (p_gt rfl rfl rfl) ?_
      clear hs a; intro a hs
      refine hK10 _ _ ?_
      refine c_cond hs rfl (fun hb => ?_) (fun hb => ?_)
      · replace h := h.1 hb
        clear hb
        refine wp_seq_k fun K11 hK11 => ?_
        refine wp_region_lit ?_
        obtain ⟨t30, w1, ha, hw, h⟩ := h
        refine t_eff hs rfl rfl (by decide) (e_buildSlice (z := #[]) (cs := #[]) rfl sl_22 zt_5 (by decide) rfl rz_5_0 (by rfl) ha hw) ?_
        clear hs a ha hw; intro a hs
        refine t_pure hs rfl rfl (by decide) (p_assign rfl rfl) ?_
        clear hs a; intro a hs
        refine t_pure hs rfl rfl (by decide) (p_assign rfl rfl) ?_
        clear hs a; intro a hs
        refine t_pure hs rfl rfl (by decide) (p_assign rfl rfl) ?_
        clear hs a; intro a hs
        refine hK11 _ _ ?_
        refine wp_ret ?_
        refine f_ret (fn := Try.f37) hs (fun a hs => r_many hs (rs := [ResultVar.tmp 2, ResultVar.tmp 3, ResultVar.tmp 4]) (vs := [(Sl.val (Sl.mk (some t30) 0 0)), (.int .i64 0), (.int .i64 30)]) rfl (by decide) ⟨rfl, rfl, rfl, trivial⟩) ⟨(Sl.mk (some t30) 0 0), 0, 30, rfl, h⟩
      · replace h := h.2 hb
        clear hb
        refine wp_skip ?_
        refine hK9 _ _ ?_
        refine wp_seq_k fun K12 hK12 => ?_
        refine wp_region_lit ?_
        refine t_pure hs rfl rfl (by decide) (p_move rfl rfl) ?_
        clear hs a; intro a hs
        refine t_pure hs rfl rfl (by decide) (p_move rfl rfl) ?_
        clear hs a; intro a hs
        obtain ⟨t34, he, h⟩ := h
        refine t_pure hs rfl rfl (by decide) (Pure.int he (p_add rfl rfl rfl)) ?_
        clear hs a he; intro a hs
        obtain ⟨t35, h0, h1, h2, h3, he, h⟩ := h
        refine t_pure hs rfl rfl (by decide) (Pure.sl he (p_slc rfl rfl sl_22 ⟨_, rfl⟩ ⟨_, rfl⟩ rfl (by decide) h0 h1 h2 h3)) ?_
        clear hs a h0 h1 h2 h3 he; intro a hs
        refine t_call hs rfl rfl (by decide) (e_call rfl rfl rfl cb_74) h ?_
        clear hs a h
        intro v a w hk hs
        obtain ⟨t36x0, t36x1, rfl, h⟩ := hk
        refine t_pure hs rfl rfl (by decide) (p_move rfl rfl) ?_
        clear hs a; intro a hs
        refine t_pure hs rfl rfl (by decide) (p_extract rfl rfl rfl) ?_
        clear hs a; intro a hs
        refine t_pure hs rfl rfl (by decide) (p_extract rfl rfl rfl) ?_
        clear hs a; intro a hs
        replace hs := hs.to (τ := [(0, (Sl.val data0)), (5, (.int .i64 t21)), (37, (Sl.val t36x0)), (38, (.int .i64 t36x1))]) ⟨rfl, rfl, rfl, rfl, trivial⟩
        refine t_pure hs rfl rfl (by decide) (p_assign rfl rfl) ?_
        clear hs a; intro a hs
        refine t_pure hs rfl rfl (by decide) (p_assign rfl rfl) ?_
        clear hs a; intro a hs
        refine hK12 _ _ ?_
        refine wp_seq_k fun K13 hK13 => ?_
        refine wp_seq_k fun K14 hK14 => ?_
        obtain ⟨w1, hw1, h⟩ := h
        refine s_start mixed (by kernel_rfl) hw1 ?_
        clear hw1
        refine s_pure hs rfl rfl (by decide) (p_move rfl rfl) ?_
        clear hs a; intro a hs
        obtain ⟨t40, hd, h⟩ := h
        refine s_eff hs rfl rfl (by decide) (e_convert rfl rfl hd) ?_
        clear hs a hd; intro a hs
        refine s_pure hs rfl rfl (by decide) (p_move rfl rfl) ?_
        clear hs a; intro a hs
        refine s_pure hs rfl rfl (by decide) (p_move rfl rfl) ?_
        clear hs a; intro a hs
        obtain ⟨t43, he, h⟩ := h
        refine s_pure hs rfl rfl (by decide) (Pure.int he (p_add rfl rfl rfl)) ?_
        clear hs a he; intro a hs
        obtain ⟨t44, h0, h1, h2, h3, he, h⟩ := h
        refine s_pure hs rfl rfl (by decide) (Pure.sl he (p_slc rfl rfl sl_22 rfl ⟨_, rfl⟩ rfl (by decide) h0 h1 h2 h3)) ?_
        clear hs a h0 h1 h2 h3 he; intro a hs
        obtain ⟨t45, hd, h⟩ := h
        refine s_eff hs rfl rfl (by decide) (e_convert rfl rfl hd) ?_
        clear hs a hd; intro a hs
        refine s_pure hs rfl rfl (by decide) (p_nes rfl rfl rfl) ?_
        clear hs a; intro a hs
        refine hK14 _ _ ?_
        refine c_cond hs rfl (fun hb => ?_) (fun hb => ?_)
        · replace h := h.1 hb
          clear hb
          refine wp_seq_k fun K15 hK15 => ?_
          refine wp_region_lit ?_
          obtain ⟨t47, w1, ha, hw, h⟩ := h
          refine t_eff hs rfl rfl (by decide) (e_buildSlice (z := #[]) (cs := #[]) rfl sl_22 zt_5 (by decide) rfl rz_5_0 (by rfl) ha hw) ?_
          clear hs a ha hw; intro a hs
          refine t_pure hs rfl rfl (by decide) (p_assign rfl rfl) ?_
          clear hs a; intro a hs
          refine t_pure hs rfl rfl (by decide) (p_assign rfl rfl) ?_
          clear hs a; intro a hs
          refine t_pure hs rfl rfl (by decide) (p_assign rfl rfl) ?_
          clear hs a; intro a hs
          refine hK15 _ _ ?_
          refine wp_ret ?_
          refine f_ret (fn := Try.f37) hs (fun a hs => r_many hs (rs := [ResultVar.tmp 2, ResultVar.tmp 3, ResultVar.tmp 4]) (vs := [(Sl.val (Sl.mk (some t47) 0 0)), (.int .i64 0), (.int .i64 33)]) rfl (by decide) ⟨rfl, rfl, rfl, trivial⟩) ⟨(Sl.mk (some t47) 0 0), 0, 33, rfl, h⟩
        · replace h := h.2 hb
          clear hb
          refine wp_skip ?_
          refine hK13 _ _ ?_
          refine wp_seq_k fun K16 hK16 => ?_
          refine wp_region_lit ?_
          obtain ⟨t48, w1, ha, hw, h⟩ := h
          refine t_eff hs rfl rfl (by decide) (e_buildSlice (z := #[]) (cs := #[]) rfl sl_22 zt_5 (by decide) rfl rz_5_0 (by rfl) ha hw) ?_
          clear hs a ha hw; intro a hs
          refine t_pure hs rfl rfl (by decide) (p_move rfl rfl) ?_
          clear hs a; intro a hs
          refine t_pure hs rfl rfl (by decide) (p_move rfl rfl) ?_
          clear hs a; intro a hs
          obtain ⟨t51, he, h⟩ := h
          refine t_pure hs rfl rfl (by decide) (Pure.int he (p_add rfl rfl rfl)) ?_
          clear hs a he; intro a hs
          obtain ⟨t52, h0, h1, h2, h3, he, h⟩ := h
          refine t_pure hs rfl rfl (by decide) (Pure.sl he (p_slc rfl rfl sl_22 ⟨_, rfl⟩ ⟨_, rfl⟩ rfl (by decide) h0 h1 h2 h3)) ?_
          clear hs a h0 h1 h2 h3 he; intro a hs
          obtain ⟨t53, w1, hd, h⟩ := h
          refine t_eff hs rfl rfl (by decide) (e_append rfl rfl rfl rfl hd) ?_
          clear hs a hd; intro a hs
          refine t_pure hs rfl rfl (by decide) (p_move rfl rfl) ?_
          clear hs a; intro a hs
          obtain ⟨t55, he, h⟩ := h
          refine t_pure hs rfl rfl (by decide) (Pure.int he (p_add rfl rfl rfl)) ?_
          clear hs a he; intro a hs
          replace hs := hs.to (τ := [(53, (Sl.val t53)), (55, (.int .i64 t55))]) ⟨rfl, rfl, trivial⟩
          refine t_pure hs rfl rfl (by decide) (p_assign rfl rfl) ?_
          clear hs a; intro a hs
          refine t_pure hs rfl rfl (by decide) (p_assign rfl rfl) ?_
          clear hs a; intro a hs
          refine t_pure hs rfl rfl (by decide) (p_assign rfl rfl) ?_
          clear hs a; intro a hs
          refine hK16 _ _ ?_
          refine wp_ret ?_
          refine f_ret (fn := Try.f37) hs (fun a hs => r_many hs (rs := [ResultVar.tmp 2, ResultVar.tmp 3, ResultVar.tmp 4]) (vs := [(Sl.val t53), (.int .i64 t55), (.int .i64 0)]) rfl (by decide) ⟨rfl, rfl, rfl, trivial⟩) ⟨t53, t55, 0, rfl, h⟩
def ref01_Frame.b1 (Q : Sl → Int → K)  (X1 : Sl → Int → K) (body0_1 : Sl) (sum6_1 : Int) (head5_1 : Sl) (k7_1 : Int) : K :=
  Ite (decide (k7_1 < 4))
    (Ar (IntKind.wrap .i64 (8 * k7_1)) fun t33 =>
    Ar (IntKind.wrap .u64 t33) fun t34 =>
    Cd (0 ≤ t34) <|
    Ar (shrOf .u32 sum6_1 t34) fun t35 =>
    Ar (IntKind.wrap .u8 t35) fun t36 =>
    New 5 #[(.int .u8 t36)] fun t37 =>
    Do Try.prog (Builtin.append_ #[22, 22] 22 #[(Sl.val head5_1), (Sl.val (Sl.mk (some t37) 1 1))]) Sl.val fun t38 =>
    Ar (IntKind.wrap .i64 (k7_1 + 1)) fun t29 =>
    X1 t38 t29)
    (Do Try.prog (Builtin.append_ #[22, 22] 22 #[(Sl.val head5_1), (Sl.val body0_1)]) Sl.val fun t41 =>
    Q t41 0)
def ref01_Frame (body0 : Sl) (Q : Sl → Int → K) : K :=
  Ite (decide ((4096 : Int) < (body0.n : Int)))
    (New 5 #[] fun t12 =>
    Q (Sl.mk (some t12) 0 0) 1)
    (Cd ((256 : Int) ≠ 0) <|
    Ar (IntKind.wrap .i64 (Int.tdiv (body0.n : Int) 256)) fun t14 =>
    Ar (IntKind.wrap .u8 t14) fun t15 =>
    Cd ((256 : Int) ≠ 0) <|
    Ar (Int.tmod (body0.n : Int) 256) fun t17 =>
    Ar (IntKind.wrap .u8 t17) fun t18 =>
    New 5 #[(.int .u8 t15), (.int .u8 t18)] fun t19 =>
    New 5 #[] fun t20 =>
    Do Try.prog (Builtin.append_ #[22, 22] 22 #[(Sl.val (Sl.mk (some t20) 0 0)), (Sl.val (Sl.mk (some t19) 2 2))]) Sl.val fun t22 =>
    Do Try.prog (Builtin.append_ #[22, 22] 22 #[(Sl.val t22), (Sl.val body0)]) Sl.val fun t24 =>
    ref01_Sum.call t24 fun t25 =>
    LoopK (α := Sl × Int) (fun X x => ref01_Frame.b1 Q (fun head5_1 k7_1 => X (head5_1, k7_1)) body0 t25 x.1 x.2) ((Sl.mk (some t19) 2 2), 0))
theorem ref01_Frame_ok (body0 : Sl) (Q : Sl → Int → K) (w : World) (h : ref01_Frame body0 Q w) : ref01_Frame.call body0 Q w := by
  unfold ref01_Frame.call CallF
  refine f_start (args := [(Sl.val body0)]) Try.func74 rfl (Nat.le_of_ble_eq_true rfl) ?_
  intro a hs
  unfold ref01_Frame at h
  refine wp_seq_k fun K1 hK1 => ?_
  refine wp_region_lit ?_
  refine t_pure hs rfl rfl (by decide) (p_assign rfl rfl) ?_
  clear hs a; intro a hs
  refine t_pure hs rfl rfl (by decide) (p_assign rfl rfl) ?_
  clear hs a; intro a hs
  refine hK1 _ _ ?_
  refine wp_seq_k fun K2 hK2 => ?_
  refine wp_region_lit ?_
  refine t_pure hs rfl rfl (by decide) (p_move rfl rfl) ?_
  clear hs a; intro a hs
  refine t_pure hs rfl rfl (by decide) (p_len rfl rfl sl_22) ?_
  clear hs a; intro a hs
  refine t_pure hs rfl rfl (by decide) (p_assign rfl rfl) ?_
  clear hs a; intro a hs
  refine hK2 _ _ ?_
  refine wp_seq_k fun K3 hK3 => ?_
  refine wp_seq_k fun K4 hK4 => ?_
  refine wp_region_lit ?_
  refine t_pure hs rfl rfl (by decide) (p_move rfl rfl) ?_
  clear hs a; intro a hs
  refine t_pure hs rfl rfl (by decide) (p_gt rfl rfl rfl) ?_
  clear hs a; intro a hs
  refine hK4 _ _ ?_
  refine c_cond hs rfl (fun hb => ?_) (fun hb => ?_)
  · replace h := h.1 hb
    clear hb
    refine wp_seq_k fun K5 hK5 => ?_
    refine wp_region_lit ?_
    obtain ⟨t12, w1, ha, hw, h⟩ := h
    refine t_eff hs rfl rfl (by decide) (e_buildSlice (z := #[]) (cs := #[]) rfl sl_22 zt_5 (by decide) rfl rz_5_0 (by rfl) ha hw) ?_
    clear hs a ha hw; intro a hs
    refine t_pure hs rfl rfl (by decide) (p_assign rfl rfl) ?_
    clear hs a; intro a hs
    refine t_pure hs rfl rfl (by decide) (p_assign rfl rfl) ?_
    clear hs a; intro a hs
    refine hK5 _ _ ?_
    refine wp_ret ?_
    refine f_ret (fn := Try.f74) hs (fun a hs => r_many hs (rs := [ResultVar.tmp 2, ResultVar.tmp 3]) (vs := [(Sl.val (Sl.mk (some t12) 0 0)), (.int .i64 1)]) rfl (by decide) ⟨rfl, rfl, trivial⟩) ⟨(Sl.mk (some t12) 0 0), 1, rfl, h⟩
  · replace h := h.2 hb
    clear hb
    refine wp_skip ?_
    refine hK3 _ _ ?_
    refine wp_seq_k fun K6 hK6 => ?_
    refine wp_region_lit ?_
    refine t_pure hs rfl rfl (by decide) (p_move rfl rfl) ?_
    clear hs a; intro a hs
    obtain ⟨h0, t14, he, h⟩ := h
    refine t_pure hs rfl rfl (by decide) (Pure.int he (p_quo rfl rfl rfl h0)) ?_
    clear hs a h0 he; intro a hs
    obtain ⟨t15, he, h⟩ := h
    refine t_pure hs rfl rfl (by decide) (Pure.int he (p_conv_int rfl rfl in_3 in_5)) ?_
    clear hs a he; intro a hs
    refine t_pure hs rfl rfl (by decide) (p_move rfl rfl) ?_
    clear hs a; intro a hs
    obtain ⟨h0, t17, he, h⟩ := h
    refine t_pure hs rfl rfl (by decide) (Pure.int he (p_rem rfl rfl rfl h0)) ?_
    clear hs a h0 he; intro a hs
    obtain ⟨t18, he, h⟩ := h
    refine t_pure hs rfl rfl (by decide) (Pure.int he (p_conv_int rfl rfl in_3 in_5)) ?_
    clear hs a he; intro a hs
    obtain ⟨t19, w1, ha, hw, h⟩ := h
    refine t_eff hs rfl rfl (by decide) (e_buildSlice (z := #[(.int .u8 0), (.int .u8 0)]) (cs := #[(.int .u8 t15), (.int .u8 t18)]) rfl sl_22 zt_5 (by decide) rfl rz_5_2 (by rfl) ha hw) ?_
    clear hs a ha hw; intro a hs
    refine t_pure hs rfl rfl (by decide) (p_assign rfl rfl) ?_
    clear hs a; intro a hs
    refine hK6 _ _ ?_
    refine wp_seq_k fun K7 hK7 => ?_
    refine wp_region_lit ?_
    obtain ⟨t20, w1, ha, hw, h⟩ := h
    refine t_eff hs rfl rfl (by decide) (e_buildSlice (z := #[]) (cs := #[]) rfl sl_22 zt_5 (by decide) rfl rz_5_0 (by rfl) ha hw) ?_
    clear hs a ha hw; intro a hs
    refine t_pure hs rfl rfl (by decide) (p_move rfl rfl) ?_
    clear hs a; intro a hs
    obtain ⟨t22, w1, hd, h⟩ := h
    refine t_eff hs rfl rfl (by decide) (e_append rfl rfl rfl rfl hd) ?_
    clear hs a hd; intro a hs
    refine t_pure hs rfl rfl (by decide) (p_move rfl rfl) ?_
    clear hs a; intro a hs
    obtain ⟨t24, w1, hd, h⟩ := h
    refine t_eff hs rfl rfl (by decide) (e_append rfl rfl rfl rfl hd) ?_
    clear hs a hd; intro a hs
    refine t_call hs rfl rfl (by decide) (e_call rfl rfl rfl cb_101) h ?_
    clear hs a h
    intro v a w hk hs
    obtain ⟨t25, rfl, h⟩ := hk
    refine t_pure hs rfl rfl (by decide) (p_assign rfl rfl) ?_
    clear hs a; intro a hs
    refine hK7 _ _ ?_
    refine wp_seq_k fun K8 hK8 => ?_
    refine wp_seq_k fun K9 hK9 => ?_
    refine wp_region_lit ?_
    refine t_pure hs rfl rfl (by decide) (p_assign rfl rfl) ?_
    clear hs a; intro a hs
    refine hK9 _ _ ?_
    refine wp_block ?_
    obtain ⟨I1, μ1, h0, hr⟩ := h
    refine c_loop (α := Sl × Int) I1 μ1 (fun x a => Slots a 42 [(0, (Sl.val body0)), (5, (Sl.val x.1)), (6, (.int .u32 t25)), (7, (.int .i64 x.2))]) ((Sl.mk (some t19) 2 2), 0) h0 (hs.to ⟨rfl, rfl, rfl, rfl, trivial⟩) ?_
    clear h0 hs a
    rintro ⟨head5_1, k7_1⟩ a w hI hs
    have h : ref01_Frame.b1 Q (fun head5_1n k7_1n w' => I1 (head5_1n, k7_1n) w' ∧ μ1 (head5_1n, k7_1n) w' < μ1 (head5_1, k7_1) w) body0 t25 head5_1 k7_1 w := hr (head5_1, k7_1) w hI
    clear hr hI
    generalize hX1 : (fun head5_1n k7_1n w' => I1 (head5_1n, k7_1n) w' ∧ μ1 (head5_1n, k7_1n) w' < μ1 (head5_1, k7_1) w) = X1 at h
    unfold ref01_Frame.b1 at h
    replace hs : Slots a 42 [(0, (Sl.val body0)), (5, (Sl.val head5_1)), (6, (.int .u32 t25)), (7, (.int .i64 k7_1))] := hs
    refine wp_seq_k fun K10 hK10 => ?_
    refine wp_seq_k fun K11 hK11 => ?_
    refine wp_region_lit ?_
    refine t_pure hs rfl rfl (by decide) (p_move rfl rfl) ?_
    clear hs a; intro a hs
    refine t_pure hs rfl rfl (by decide) (p_lt rfl rfl rfl) ?_
    clear hs a; intro a hs
    refine hK11 _ _ ?_
    refine c_cond hs rfl (fun hb => ?_) (fun hb => ?_)
    · replace h := h.1 hb
      clear hb
      refine wp_skip ?_
      refine hK10 _ _ ?_
      refine wp_seq_k fun K12 hK12 => ?_
      refine wp_block ?_
      refine wp_region_lit ?_
      refine t_pure hs rfl rfl (by decide) (p_move rfl rfl) ?_
      clear hs a; intro a hs
      refine t_pure hs rfl rfl (by decide) (p_move rfl rfl) ?_
      clear hs a; intro a hs
      refine t_pure hs rfl rfl (by decide) (p_move rfl rfl) ?_
      clear hs a; intro a hs
      obtain ⟨t33, he, h⟩ := h
      refine t_pure hs rfl rfl (by decide) (Pure.int he (p_mul rfl rfl rfl)) ?_
      clear hs a he; intro a hs
      obtain ⟨t34, he, h⟩ := h
      refine t_pure hs rfl rfl (by decide) (Pure.int he (p_conv_int rfl rfl in_3 in_120)) ?_
      clear hs a he; intro a hs
      obtain ⟨h0, t35, he, h⟩ := h
      refine t_pure hs rfl rfl (by decide) (Pure.int he (p_shr rfl rfl rfl h0)) ?_
      clear hs a h0 he; intro a hs
      obtain ⟨t36, he, h⟩ := h
      refine t_pure hs rfl rfl (by decide) (Pure.int he (p_conv_int rfl rfl in_216 in_5)) ?_
      clear hs a he; intro a hs
      obtain ⟨t37, w1, ha, hw, h⟩ := h
      refine t_eff hs rfl rfl (by decide) (e_buildSlice (z := #[(.int .u8 0)]) (cs := #[(.int .u8 t36)]) rfl sl_22 zt_5 (by decide) rfl rz_5_1 (by rfl) ha hw) ?_
      clear hs a ha hw; intro a hs
      replace hs := hs.to (τ := [(0, (Sl.val body0)), (6, (.int .u32 t25)), (7, (.int .i64 k7_1)), (30, (Sl.val head5_1)), (37, (Sl.val (Sl.mk (some t37) 1 1)))]) ⟨rfl, rfl, rfl, rfl, rfl, trivial⟩
      obtain ⟨t38, w1, hd, h⟩ := h
      refine t_eff hs rfl rfl (by decide) (e_append rfl rfl rfl rfl hd) ?_
      clear hs a hd; intro a hs
      refine t_pure hs rfl rfl (by decide) (p_assign rfl rfl) ?_
      clear hs a; intro a hs
      refine hK12 _ _ ?_
      refine wp_region_lit ?_
      refine t_pure hs rfl rfl (by decide) (p_move rfl rfl) ?_
      clear hs a; intro a hs
      obtain ⟨t29, he, h⟩ := h
      refine t_pure hs rfl rfl (by decide) (Pure.int he (p_add rfl rfl rfl)) ?_
      clear hs a he; intro a hs
      refine t_pure hs rfl rfl (by decide) (p_assign rfl rfl) ?_
      clear hs a; intro a hs
      rw [← hX1] at h
      exact ⟨(t38, t29), hs.to ⟨rfl, rfl, rfl, rfl, trivial⟩, h⟩
    · replace h := h.2 hb
      clear hb
      refine wp_exit ?_
      refine hK8 _ _ ?_
      refine wp_seq_k fun K13 hK13 => ?_
      refine wp_region_lit ?_
      refine t_pure hs rfl rfl (by decide) (p_move rfl rfl) ?_
      clear hs a; intro a hs
      refine t_pure hs rfl rfl (by decide) (p_move rfl rfl) ?_
      clear hs a; intro a hs
      obtain ⟨t41, w1, hd, h⟩ := h
      refine t_eff hs rfl rfl (by decide) (e_append rfl rfl rfl rfl hd) ?_
      clear hs a hd; intro a hs
      refine t_pure hs rfl rfl (by decide) (p_assign rfl rfl) ?_
      clear hs a; intro a hs
      refine t_pure hs rfl rfl (by decide) (p_assign rfl rfl) ?_
      clear hs a; intro a hs
      refine hK13 _ _ ?_
      refine wp_ret ?_
      refine f_ret (fn := Try.f74) hs (fun a hs => r_many hs (rs := [ResultVar.tmp 2, ResultVar.tmp 3]) (vs := [(Sl.val t41), (.int .i64 0)]) rfl (by decide) ⟨rfl, rfl, trivial⟩) ⟨t41, 0, rfl, h⟩
def ref01_Sum.b2 (Q : Int → K) (X1 : Sl → Int → K) (X2 : Sl → Int → K) (b0_2 : Sl) (i4_2 : Int) (bits3_2 : Sl) (k5_2 : Int) : K :=
  Ite (decide (k5_2 < 8))
    (Idx b0_2 i4_2 1 fun t27 =>
    Ld t27 (Value.int .u8) fun t28 =>
    Ar (IntKind.wrap .u64 k5_2) fun t30 =>
    Cd (0 ≤ t30) <|
    Ar (shrOf .u8 t28 t30) fun t31 =>
    Ar (IntKind.wrap .i64 t31) fun t32 =>
    Ar (bitsOf .and .i64 t32 1) fun t33 =>
    New 3 #[(.int .i64 t33)] fun t34 =>
    Do Try.prog (Builtin.append_ #[29, 29] 29 #[(Sl.val bits3_2), (Sl.val (Sl.mk (some t34) 1 1))]) Sl.val fun t35 =>
    Ar (IntKind.wrap .i64 (k5_2 + 1)) fun t23 =>
    X2 t35 t23)
    (Ar (IntKind.wrap .i64 (i4_2 + 1)) fun t19 =>
    X1 bits3_2 t19)
def ref01_Sum.s6 (Q : Int → K) (X1 : Sl → Int → K) (X3 : Sl → Int → K) (X4 : Int → K) (X5 : Int → K) (bits3_6 : Sl) (powers8_6 : Addr) (i9_6 : Int) : K :=
  Ar (IntKind.wrap .i64 (i9_6 + 1)) fun t62 =>
  X5 t62
def ref01_Sum.b7 (Q : Int → K) (X1 : Sl → Int → K) (X3 : Sl → Int → K) (X4 : Int → K) (X5 : Int → K) (X7 : Int → K) (bits3_7 : Sl) (powers8_7 : Addr) (i9_7 : Int) (k10_7 : Int) : K :=
  Ite (decide (k10_7 < 18))
    (Dr <|
    Ar (IntKind.wrap .i64 (i9_7 + 32)) fun t74 =>
    IdxA powers8_7 18 k10_7 1 fun t76 =>
    Ar (IntKind.wrap .i64 (i9_7 + 32)) fun t81 =>
    IdxA powers8_7 18 k10_7 1 fun t83 =>
    Ld t76 (Value.int .i64) fun t77 =>
    Ar (IntKind.wrap .i64 (t74 - t77)) fun t78 =>
    Ld t83 (Value.int .i64) fun t84 =>
    Ar (IntKind.wrap .i64 (t81 - t84)) fun t85 =>
    Idx bits3_7 t85 1 fun t86 =>
    Ld t86 (Value.int .i64) fun t87 =>
    Ar (IntKind.wrap .i64 (1 - t87)) fun t88 =>
    Idx bits3_7 t78 1 fun t89 =>
    St t89 (.int .i64 t88) <|
    Ar (IntKind.wrap .i64 (k10_7 + 1)) fun t71 =>
    X7 t71)
    (ref01_Sum.s6 Q X1 X3 X4 X5 bits3_7 powers8_7 i9_7)
def ref01_Sum.s9 (Q : Int → K) (X1 : Sl → Int → K) (X3 : Sl → Int → K) (X4 : Int → K) (X5 : Int → K) (X8 : Int → Int → K) (bits3_9 : Sl) (out11_9 : Int) (k12_9 : Int) : K :=
  Ar (IntKind.wrap .i64 (k12_9 + 1)) fun t93 =>
  X8 out11_9 t93
def ref01_Sum.b8 (Q : Int → K) (X1 : Sl → Int → K) (X3 : Sl → Int → K) (X4 : Int → K) (X5 : Int → K) (X8 : Int → Int → K) (bits3_8 : Sl) (out11_8 : Int) (k12_8 : Int) : K :=
  Ite (decide (k12_8 < 32))
    (Ar (IntKind.wrap .i64 ((bits3_8.n : Int) - 32)) fun t97 =>
    Ar (IntKind.wrap .i64 (t97 + k12_8)) fun t99 =>
    Idx bits3_8 t99 1 fun t100 =>
    Ld t100 (Value.int .i64) fun t101 =>
    Ite (decide (t101 = 0))
      (Ar (IntKind.wrap .u64 k12_8) fun t105 =>
      Cd (0 ≤ t105) <|
      Ar (shlOf .u32 1 t105) fun t106 =>
      Ar (IntKind.wrap .u32 (out11_8 + t106)) fun t107 =>
      ref01_Sum.s9 Q X1 X3 X4 X5 X8 bits3_8 t107 k12_8)
      (ref01_Sum.s9 Q X1 X3 X4 X5 X8 bits3_8 out11_8 k12_8))
    (Q out11_8)
def ref01_Sum.b5 (Q : Int → K) (X1 : Sl → Int → K) (X3 : Sl → Int → K) (X4 : Int → K) (X5 : Int → K) (bits3_5 : Sl) (powers8_5 : Addr) (i9_5 : Int) : K :=
  Ar (IntKind.wrap .i64 (i9_5 + 32)) fun t57 =>
  Ite (decide (t57 < (bits3_5.n : Int)))
    (Idx bits3_5 i9_5 1 fun t65 =>
    Ld t65 (Value.int .i64) fun t66 =>
    Ite (decide (t66 = 1))
      (LoopK (α := Int) (fun X x => ref01_Sum.b7 Q X1 X3 X4 X5 X bits3_5 powers8_5 i9_5 x) 0)
      (ref01_Sum.s6 Q X1 X3 X4 X5 bits3_5 powers8_5 i9_5))
    (LoopK (α := Int × Int) (fun X x => ref01_Sum.b8 Q X1 X3 X4 X5 (fun out11_8 k12_8 => X (out11_8, k12_8)) bits3_5 x.1 x.2) (0, 0))
def ref01_Sum.b4 (Q : Int → K) (X1 : Sl → Int → K) (X3 : Sl → Int → K) (X4 : Int → K) (bits3_4 : Sl) (k7_4 : Int) : K :=
  Ite (decide (k7_4 < 32))
    (Idx bits3_4 k7_4 1 fun t51 =>
    Ld t51 (Value.int .i64) fun t52 =>
    Ar (IntKind.wrap .i64 (1 - t52)) fun t53 =>
    Idx bits3_4 k7_4 1 fun t54 =>
    St t54 (.int .i64 t53) <|
    Ar (IntKind.wrap .i64 (k7_4 + 1)) fun t46 =>
    X4 t46)
    (Pu Try.prog (Instr.build 243 [(0, (.int .i64 32)), (1, (.int .i64 28)), (2, (.int .i64 27)), (3, (.int .i64 26)), (4, (.int .i64 25)), (5, (.int .i64 23)), (6, (.int .i64 22)), (7, (.int .i64 20)), (8, (.int .i64 19)), (9, (.int .i64 18)), (10, (.int .i64 14)), (11, (.int .i64 13)), (12, (.int .i64 11)), (13, (.int .i64 10)), (14, (.int .i64 9)), (15, (.int .i64 8)), (16, (.int .i64 6)), (17, (.int .i64 0))].toArray) Value.agg fun t55 =>
    New 243 #[(.int .i64 0), (.int .i64 0), (.int .i64 0), (.int .i64 0), (.int .i64 0), (.int .i64 0), (.int .i64 0), (.int .i64 0), (.int .i64 0), (.int .i64 0), (.int .i64 0), (.int .i64 0), (.int .i64 0), (.int .i64 0), (.int .i64 0), (.int .i64 0), (.int .i64 0), (.int .i64 0)] fun powers8 =>
    StN powers8 18 t55 <|
    LoopK (α := Int) (fun X x => ref01_Sum.b5 Q X1 X3 X4 X bits3_4 powers8 x) 0)
def ref01_Sum.b3 (Q : Int → K) (X1 : Sl → Int → K) (X3 : Sl → Int → K)  (bits3_3 : Sl) (k6_3 : Int) : K :=
  Ite (decide (k6_3 < 32))
    (New 3 #[(.int .i64 0)] fun t41 =>
    Do Try.prog (Builtin.append_ #[29, 29] 29 #[(Sl.val bits3_3), (Sl.val (Sl.mk (some t41) 1 1))]) Sl.val fun t42 =>
    Ar (IntKind.wrap .i64 (k6_3 + 1)) fun t39 =>
    X3 t42 t39)
    (LoopK (α := Int) (fun X x => ref01_Sum.b4 Q X1 X3 X bits3_3 x) 0)
def ref01_Sum.b1 (Q : Int → K)  (X1 : Sl → Int → K) (b0_1 : Sl) (bits3_1 : Sl) (i4_1 : Int) : K :=
  Ite (decide (i4_1 < (b0_1.n : Int)))
    (LoopK (α := Sl × Int) (fun X x => ref01_Sum.b2 Q X1 (fun bits3_2 k5_2 => X (bits3_2, k5_2)) b0_1 i4_1 x.1 x.2) (bits3_1, 0))
    (LoopK (α := Sl × Int) (fun X x => ref01_Sum.b3 Q X1 (fun bits3_3 k6_3 => X (bits3_3, k6_3)) x.1 x.2) (bits3_1, 0))
def ref01_Sum (b0 : Sl) (Q : Int → K) : K :=
  New 3 #[] fun t13 =>
  LoopK (α := Sl × Int) (fun X x => ref01_Sum.b1 Q (fun bits3_1 i4_1 => X (bits3_1, i4_1)) b0 x.1 x.2) ((Sl.mk (some t13) 0 0), 0)
theorem ref01_Sum_ok (b0 : Sl) (Q : Int → K) (w : World) (h : ref01_Sum b0 Q w) : ref01_Sum.call b0 Q w := by
  unfold ref01_Sum.call CallF
  refine f_start (args := [(Sl.val b0)]) Try.func101 rfl (Nat.le_of_ble_eq_true rfl) ?_
  intro a hs
  unfold ref01_Sum at h
  refine wp_seq_k fun K1 hK1 => ?_
  refine wp_region_lit ?_
  refine t_pure hs rfl rfl (by decide) (p_assign rfl rfl) ?_
  clear hs a; intro a hs
  refine hK1 _ _ ?_
  refine wp_seq_k fun K2 hK2 => ?_
  refine wp_region_lit ?_
  obtain ⟨t13, w1, ha, hw, h⟩ := h
  refine t_eff hs rfl rfl (by decide) (e_buildSlice (z := #[]) (cs := #[]) rfl sl_29 zt_3 (by decide) rfl rz_3_0 (by rfl) ha hw) ?_
  clear hs a ha hw; intro a hs
  refine t_pure hs rfl rfl (by decide) (p_assign rfl rfl) ?_
  clear hs a; intro a hs
  refine hK2 _ _ ?_
  refine wp_seq_k fun K3 hK3 => ?_
  refine wp_seq_k fun K4 hK4 => ?_
  refine wp_region_lit ?_
  refine t_pure hs rfl rfl (by decide) (p_assign rfl rfl) ?_
  clear hs a; intro a hs
  refine hK4 _ _ ?_
  refine wp_block ?_
  obtain ⟨I1, μ1, h0, hr⟩ := h
  refine c_loop (α := Sl × Int) I1 μ1 (fun x a => Slots a 109 [(0, (Sl.val b0)), (3, (Sl.val x.1)), (4, (.int .i64 x.2))]) ((Sl.mk (some t13) 0 0), 0) h0 (hs.to ⟨rfl, rfl, rfl, trivial⟩) ?_
  clear h0 hs a
  rintro ⟨bits3_1, i4_1⟩ a w hI hs
  have h : ref01_Sum.b1 Q (fun bits3_1n i4_1n w' => I1 (bits3_1n, i4_1n) w' ∧ μ1 (bits3_1n, i4_1n) w' < μ1 (bits3_1, i4_1) w) b0 bits3_1 i4_1 w := hr (bits3_1, i4_1) w hI
  clear hr hI
  generalize hX1 : (fun bits3_1n i4_1n w' => I1 (bits3_1n, i4_1n) w' ∧ μ1 (bits3_1n, i4_1n) w' < μ1 (bits3_1, i4_1) w) = X1 at h
  unfold ref01_Sum.b1 at h
  replace hs : Slots a 109 [(0, (Sl.val b0)), (3, (Sl.val bits3_1)), (4, (.int .i64 i4_1))] := hs
  refine wp_seq_k fun K5 hK5 => ?_
  refine wp_seq_k fun K6 hK6 => ?_
  refine wp_region_lit ?_
  refine t_pure hs rfl rfl (by decide) (p_move rfl rfl) ?_
  clear hs a; intro a hs
  refine t_pure hs rfl rfl (by decide) (p_move rfl rfl) ?_
  clear hs a; intro a hs
  refine t_pure hs rfl rfl (by decide) (p_len rfl rfl sl_22) ?_
  clear hs a; intro a hs
  refine t_pure hs rfl rfl (by decide) (p_lt rfl rfl rfl) ?_
  clear hs a; intro a hs
  refine hK6 _ _ ?_
  refine c_cond hs rfl (fun hb => ?_) (fun hb => ?_)
  · replace h := h.1 hb
    clear hb
    refine wp_skip ?_
    refine hK5 _ _ ?_
    refine wp_seq_k fun K7 hK7 => ?_
    refine wp_block ?_
    refine wp_seq_k fun K8 hK8 => ?_
    refine wp_region_lit ?_
    refine t_pure hs rfl rfl (by decide) (p_assign rfl rfl) ?_
    clear hs a; intro a hs
    refine hK8 _ _ ?_
    refine wp_block ?_
    obtain ⟨I2, μ2, h0, hr⟩ := h
    refine c_loop (α := Sl × Int) I2 μ2 (fun x a => Slots a 109 [(0, (Sl.val b0)), (3, (Sl.val x.1)), (4, (.int .i64 i4_1)), (5, (.int .i64 x.2))]) (bits3_1, 0) h0 (hs.to ⟨rfl, rfl, rfl, rfl, trivial⟩) ?_
    clear h0 hs a
    rintro ⟨bits3_2, k5_2⟩ a w hI hs
    have h : ref01_Sum.b2 Q X1 (fun bits3_2n k5_2n w' => I2 (bits3_2n, k5_2n) w' ∧ μ2 (bits3_2n, k5_2n) w' < μ2 (bits3_2, k5_2) w) b0 i4_1 bits3_2 k5_2 w := hr (bits3_2, k5_2) w hI
    clear hr hI
    generalize hX2 : (fun bits3_2n k5_2n w' => I2 (bits3_2n, k5_2n) w' ∧ μ2 (bits3_2n, k5_2n) w' < μ2 (bits3_2, k5_2) w) = X2 at h
    unfold ref01_Sum.b2 at h
    replace hs : Slots a 109 [(0, (Sl.val b0)), (3, (Sl.val bits3_2)), (4, (.int .i64 i4_1)), (5, (.int .i64 k5_2))] := hs
    refine wp_seq_k fun K9 hK9 => ?_
    refine wp_seq_k fun K10 hK10 => ?_
    refine wp_region_lit ?_
    refine t_pure hs rfl rfl (by decide) (p_move rfl rfl) ?_
    clear hs a; intro a hs
    refine t_pure hs rfl rfl (by decide) (p_lt rfl rfl rfl) ?_
    clear hs a; intro a hs
    refine hK10 _ _ ?_
    refine c_cond hs rfl (fun hb => ?_) (fun hb => ?_)
    · replace h := h.1 hb
      clear hb
      refine wp_skip ?_
      refine hK9 _ _ ?_
      refine wp_seq_k fun K11 hK11 => ?_
      refine wp_block ?_
      refine wp_region_lit ?_
      refine t_pure hs rfl rfl (by decide) (p_move rfl rfl) ?_
      clear hs a; intro a hs
      refine t_pure hs rfl rfl (by decide) (p_move rfl rfl) ?_
      clear hs a; intro a hs
      refine t_pure hs rfl rfl (by decide) (p_move rfl rfl) ?_
      clear hs a; intro a hs
      obtain ⟨qt27, t27, ha, h0, h1, he, h⟩ := h
      refine t_pure hs rfl rfl (by decide) (Pure.adr he (p_idx rfl rfl rfl sl_22 ha h0 h1)) ?_
      clear hs a ha h0 h1 he; intro a hs
      obtain ⟨t28, hv, h⟩ := h
      refine t_eff hs rfl rfl (by decide) (e_load rfl rfl ct_5 hv) ?_
      clear hs a hv; intro a hs
      refine t_pure hs rfl rfl (by decide) (p_move rfl rfl) ?_
      clear hs a; intro a hs
      obtain ⟨t30, he, h⟩ := h
      refine t_pure hs rfl rfl (by decide) (Pure.int he (p_conv_int rfl rfl in_3 in_120)) ?_
      clear hs a he; intro a hs
      obtain ⟨h0, t31, he, h⟩ := h
      refine t_pure hs rfl rfl (by decide) (Pure.int he (p_shr rfl rfl rfl h0)) ?_
      clear hs a h0 he; intro a hs
      replace hs := hs.to (τ := [(0, (Sl.val b0)), (4, (.int .i64 i4_1)), (5, (.int .i64 k5_2)), (24, (Sl.val bits3_2)), (31, (.int .u8 t31))]) ⟨rfl, rfl, rfl, rfl, rfl, trivial⟩
      obtain ⟨t32, he, h⟩ := h
      refine t_pure hs rfl rfl (by decide) (Pure.int he (p_conv_int rfl rfl in_5 in_3)) ?_
      clear hs a he; intro a hs
      obtain ⟨t33, he, h⟩ := h
      refine t_pure hs rfl rfl (by decide) (Pure.int he (p_and rfl rfl rfl)) ?_
      clear hs a he; intro a hs
      obtain ⟨t34, w1, ha, hw, h⟩ := h
      refine t_eff hs rfl rfl (by decide) (e_buildSlice (z := #[(.int .i64 0)]) (cs := #[(.int .i64 t33)]) rfl sl_29 zt_3 (by decide) rfl rz_3_1 (by rfl) ha hw) ?_
      clear hs a ha hw; intro a hs
      obtain ⟨t35, w1, hd, h⟩ := h
      refine t_eff hs rfl rfl (by decide) (e_append rfl rfl rfl rfl hd) ?_
      clear hs a hd; intro a hs
      refine t_pure hs rfl rfl (by decide) (p_assign rfl rfl) ?_
      clear hs a; intro a hs
      refine hK11 _ _ ?_
      refine wp_region_lit ?_
      refine t_pure hs rfl rfl (by decide) (p_move rfl rfl) ?_
      clear hs a; intro a hs
      obtain ⟨t23, he, h⟩ := h
      refine t_pure hs rfl rfl (by decide) (Pure.int he (p_add rfl rfl rfl)) ?_
      clear hs a he; intro a hs
      refine t_pure hs rfl rfl (by decide) (p_assign rfl rfl) ?_
      clear hs a; intro a hs
      rw [← hX2] at h
      exact ⟨(t35, t23), hs.to ⟨rfl, rfl, rfl, rfl, trivial⟩, h⟩
    · replace h := h.2 hb
      clear hb
      refine wp_exit ?_
      refine hK7 _ _ ?_
      refine wp_region_lit ?_
      refine t_pure hs rfl rfl (by decide) (p_move rfl rfl) ?_
      clear hs a; intro a hs
      obtain ⟨t19, he, h⟩ := h
      refine t_pure hs rfl rfl (by decide) (Pure.int he (p_add rfl rfl rfl)) ?_
      clear hs a he; intro a hs
      refine t_pure hs rfl rfl (by decide) (p_assign rfl rfl) ?_
      clear hs a; intro a hs
      rw [← hX1] at h
      exact ⟨(bits3_2, t19), hs.to ⟨rfl, rfl, rfl, trivial⟩, h⟩
  · replace h := h.2 hb
    clear hb
    refine wp_exit ?_
    refine hK3 _ _ ?_
    refine wp_seq_k fun K12 hK12 => ?_
    refine wp_seq_k fun K13 hK13 => ?_
    refine wp_region_lit ?_
    refine t_pure hs rfl rfl (by decide) (p_assign rfl rfl) ?_
    clear hs a; intro a hs
    refine hK13 _ _ ?_
    refine wp_block ?_
    obtain ⟨I3, μ3, h0, hr⟩ := h
    refine c_loop (α := Sl × Int) I3 μ3 (fun x a => Slots a 109 [(3, (Sl.val x.1)), (6, (.int .i64 x.2))]) (bits3_1, 0) h0 (hs.to ⟨rfl, rfl, trivial⟩) ?_
    clear h0 hs a
    rintro ⟨bits3_3, k6_3⟩ a w hI hs
    have h : ref01_Sum.b3 Q X1 (fun bits3_3n k6_3n w' => I3 (bits3_3n, k6_3n) w' ∧ μ3 (bits3_3n, k6_3n) w' < μ3 (bits3_3, k6_3) w) bits3_3 k6_3 w := hr (bits3_3, k6_3) w hI
    clear hr hI
    generalize hX3 : (fun bits3_3n k6_3n w' => I3 (bits3_3n, k6_3n) w' ∧ μ3 (bits3_3n, k6_3n) w' < μ3 (bits3_3, k6_3) w) = X3 at h
    unfold ref01_Sum.b3 at h
    replace hs : Slots a 109 [(3, (Sl.val bits3_3)), (6, (.int .i64 k6_3))] := hs
    refine wp_seq_k fun K14 hK14 => ?_
    refine wp_seq_k fun K15 hK15 => ?_
    refine wp_region_lit ?_
    refine t_pure hs rfl rfl (by decide) (p_move rfl rfl) ?_
    clear hs a; intro a hs
    refine t_pure hs rfl rfl (by decide) (p_lt rfl rfl rfl) ?_
    clear hs a; intro a hs
    refine hK15 _ _ ?_
    refine c_cond hs rfl (fun hb => ?_) (fun hb => ?_)
    · replace h := h.1 hb
      clear hb
      refine wp_skip ?_
      refine hK14 _ _ ?_
      refine wp_seq_k fun K16 hK16 => ?_
      refine wp_block ?_
      refine wp_region_lit ?_
      refine t_pure hs rfl rfl (by decide) (p_move rfl rfl) ?_
      clear hs a; intro a hs
      obtain ⟨t41, w1, ha, hw, h⟩ := h
      refine t_eff hs rfl rfl (by decide) (e_buildSlice (z := #[(.int .i64 0)]) (cs := #[(.int .i64 0)]) rfl sl_29 zt_3 (by decide) rfl rz_3_1 (by rfl) ha hw) ?_
      clear hs a ha hw; intro a hs
      obtain ⟨t42, w1, hd, h⟩ := h
      refine t_eff hs rfl rfl (by decide) (e_append rfl rfl rfl rfl hd) ?_
      clear hs a hd; intro a hs
      refine t_pure hs rfl rfl (by decide) (p_assign rfl rfl) ?_
      clear hs a; intro a hs
      refine hK16 _ _ ?_
      refine wp_region_lit ?_
      refine t_pure hs rfl rfl (by decide) (p_move rfl rfl) ?_
      clear hs a; intro a hs
      obtain ⟨t39, he, h⟩ := h
      refine t_pure hs rfl rfl (by decide) (Pure.int he (p_add rfl rfl rfl)) ?_
      clear hs a he; intro a hs
      refine t_pure hs rfl rfl (by decide) (p_assign rfl rfl) ?_
      clear hs a; intro a hs
      rw [← hX3] at h
      exact ⟨(t42, t39), hs.to ⟨rfl, rfl, trivial⟩, h⟩
    · replace h := h.2 hb
      clear hb
      refine wp_exit ?_
      refine hK12 _ _ ?_
      refine wp_seq_k fun K17 hK17 => ?_
      refine wp_seq_k fun K18 hK18 => ?_
      refine wp_region_lit ?_
      refine t_pure hs rfl rfl (by decide) (p_assign rfl rfl) ?_
      clear hs a; intro a hs
      refine hK18 _ _ ?_
      refine wp_block ?_
      obtain ⟨I4, μ4, h0, hr⟩ := h
      refine c_loop (α := Int) I4 μ4 (fun x a => Slots a 109 [(3, (Sl.val bits3_3)), (7, (.int .i64 x))]) 0 h0 (hs.to ⟨rfl, rfl, trivial⟩) ?_
      clear h0 hs a
      intro k7_4 a w hI hs
      have h : ref01_Sum.b4 Q X1 X3 (fun k7_4n w' => I4 k7_4n w' ∧ μ4 k7_4n w' < μ4 k7_4 w) bits3_3 k7_4 w := hr k7_4 w hI
      clear hr hI
      generalize hX4 : (fun k7_4n w' => I4 k7_4n w' ∧ μ4 k7_4n w' < μ4 k7_4 w) = X4 at h
      unfold ref01_Sum.b4 at h
      replace hs : Slots a 109 [(3, (Sl.val bits3_3)), (7, (.int .i64 k7_4))] := hs
      refine wp_seq_k fun K19 hK19 => ?_
      refine wp_seq_k fun K20 hK20 => ?_
      refine wp_region_lit ?_
      refine t_pure hs rfl rfl (by decide) (p_move rfl rfl) ?_
      clear hs a; intro a hs
      refine t_pure hs rfl rfl (by decide) (p_lt rfl rfl rfl) ?_
      clear hs a; intro a hs
      refine hK20 _ _ ?_
      refine c_cond hs rfl (fun hb => ?_) (fun hb => ?_)
      · replace h := h.1 hb
        clear hb
        refine wp_skip ?_
        refine hK19 _ _ ?_
        refine wp_seq_k fun K21 hK21 => ?_
        refine wp_block ?_
        refine wp_region_lit ?_
        refine t_pure hs rfl rfl (by decide) (p_move rfl rfl) ?_
        clear hs a; intro a hs
        refine t_pure hs rfl rfl (by decide) (p_move rfl rfl) ?_
        clear hs a; intro a hs
        refine t_pure hs rfl rfl (by decide) (p_move rfl rfl) ?_
        clear hs a; intro a hs
        refine t_pure hs rfl rfl (by decide) (p_move rfl rfl) ?_
        clear hs a; intro a hs
        obtain ⟨qt51, t51, ha, h0, h1, he, h⟩ := h
        refine t_pure hs rfl rfl (by decide) (Pure.adr he (p_idx rfl rfl rfl sl_29 ha h0 h1)) ?_
        clear hs a ha h0 h1 he; intro a hs
        obtain ⟨t52, hv, h⟩ := h
        refine t_eff hs rfl rfl (by decide) (e_load rfl rfl ct_3 hv) ?_
        clear hs a hv; intro a hs
        obtain ⟨t53, he, h⟩ := h
        refine t_pure hs rfl rfl (by decide) (Pure.int he (p_sub rfl rfl rfl)) ?_
        clear hs a he; intro a hs
        obtain ⟨qt54, t54, ha, h0, h1, he, h⟩ := h
        refine t_pure hs rfl rfl (by decide) (Pure.adr he (p_idx rfl rfl rfl sl_29 ha h0 h1)) ?_
        clear hs a ha h0 h1 he; intro a hs
        replace hs := hs.to (τ := [(3, (Sl.val bits3_3)), (7, (.int .i64 k7_4)), (53, (.int .i64 t53)), (54, (.pointer (some t54)))]) ⟨rfl, rfl, rfl, rfl, trivial⟩
        obtain ⟨w1, hw, hc, hf, hv, h⟩ := h
        refine t_skip hs rfl rfl (e_store rfl rfl rfl sz_3 hw hc hf hv) ?_
        clear hs a hw hc hf hv; intro a hs
        refine hK21 _ _ ?_
        refine wp_region_lit ?_
        refine t_pure hs rfl rfl (by decide) (p_move rfl rfl) ?_
        clear hs a; intro a hs
        obtain ⟨t46, he, h⟩ := h
        refine t_pure hs rfl rfl (by decide) (Pure.int he (p_add rfl rfl rfl)) ?_
        clear hs a he; intro a hs
        refine t_pure hs rfl rfl (by decide) (p_assign rfl rfl) ?_
        clear hs a; intro a hs
        rw [← hX4] at h
        exact ⟨t46, hs.to ⟨rfl, rfl, trivial⟩, h⟩
      · replace h := h.2 hb
        clear hb
        refine wp_exit ?_
        refine hK17 _ _ ?_
        refine wp_seq_k fun K22 hK22 => ?_
        refine wp_region_lit ?_
        obtain ⟨t55, hd, h⟩ := h
        refine t_pure hs rfl rfl (by decide) (p_sem (fun w => e_buildg rfl rfl (hd w))) ?_
        clear hs a hd; intro a hs
        obtain ⟨powers8, w1, ha, hw, h⟩ := h
        refine t_eff hs rfl rfl (by decide) (e_alloc rfl zt_243 rfl ha hw) ?_
        clear hs a ha hw; intro a hs
        obtain ⟨w1, hw, hn, hc, hv, h⟩ := h
        refine t_skip hs rfl rfl (e_storeN rfl rfl rfl sz_243 hw hn hc hv) ?_
        clear hs a hw hn hc hv; intro a hs
        refine hK22 _ _ ?_
        refine wp_seq_k fun K23 hK23 => ?_
        refine wp_seq_k fun K24 hK24 => ?_
        refine wp_region_lit ?_
        refine t_pure hs rfl rfl (by decide) (p_assign rfl rfl) ?_
        clear hs a; intro a hs
        refine hK24 _ _ ?_
        refine wp_block ?_
        obtain ⟨I5, μ5, h0, hr⟩ := h
        refine c_loop (α := Int) I5 μ5 (fun x a => Slots a 109 [(3, (Sl.val bits3_3)), (8, (.pointer (some powers8))), (9, (.int .i64 x))]) 0 h0 (hs.to ⟨rfl, rfl, rfl, trivial⟩) ?_
        clear h0 hs a
        intro i9_5 a w hI hs
        have h : ref01_Sum.b5 Q X1 X3 X4 (fun i9_5n w' => I5 i9_5n w' ∧ μ5 i9_5n w' < μ5 i9_5 w) bits3_3 powers8 i9_5 w := hr i9_5 w hI
        clear hr hI
        generalize hX5 : (fun i9_5n w' => I5 i9_5n w' ∧ μ5 i9_5n w' < μ5 i9_5 w) = X5 at h
        unfold ref01_Sum.b5 at h
        replace hs : Slots a 109 [(3, (Sl.val bits3_3)), (8, (.pointer (some powers8))), (9, (.int .i64 i9_5))] := hs
        refine wp_seq_k fun K25 hK25 => ?_
        refine wp_seq_k fun K26 hK26 => ?_
        refine wp_region_lit ?_
        refine t_pure hs rfl rfl (by decide) (p_move rfl rfl) ?_
        clear hs a; intro a hs
        obtain ⟨t57, he, h⟩ := h
        refine t_pure hs rfl rfl (by decide) (Pure.int he (p_add rfl rfl rfl)) ?_
        clear hs a he; intro a hs
        refine t_pure hs rfl rfl (by decide) (p_move rfl rfl) ?_
        clear hs a; intro a hs
        refine t_pure hs rfl rfl (by decide) (p_len rfl rfl sl_29) ?_
        clear hs a; intro a hs
        refine t_pure hs rfl rfl (by decide) (p_lt rfl rfl rfl) ?_
        clear hs a; intro a hs
        refine hK26 _ _ ?_
        refine c_cond hs rfl (fun hb => ?_) (fun hb => ?_)
        · replace h := h.1 hb
          clear hb
          refine wp_skip ?_
          refine hK25 _ _ ?_
          refine wp_seq_k fun K27 hK27 => ?_
          have J6 : ∀ (a : Act) (w : World), Slots a 109 [(3, (Sl.val bits3_3)), (8, (.pointer (some powers8))), (9, (.int .i64 i9_5))] → ref01_Sum.s6 Q X1 X3 X4 X5 bits3_3 powers8 i9_5 w → K27 a w := by
            clear h hs
            intro a w hs h
            refine hK27 _ _ ?_
            unfold ref01_Sum.s6 at h
            refine wp_region_lit ?_
            refine t_pure hs rfl rfl (by decide) (p_move rfl rfl) ?_
            clear hs a; intro a hs
            obtain ⟨t62, he, h⟩ := h
            refine t_pure hs rfl rfl (by decide) (Pure.int he (p_add rfl rfl rfl)) ?_
            clear hs a he; intro a hs
            refine t_pure hs rfl rfl (by decide) (p_assign rfl rfl) ?_
            clear hs a; intro a hs
            rw [← hX5] at h
            exact ⟨t62, hs.to ⟨rfl, rfl, rfl, trivial⟩, h⟩
          clear hK27
          refine wp_block ?_
          refine wp_seq_k fun K28 hK28 => ?_
          refine wp_region_lit ?_
          refine t_pure hs rfl rfl (by decide) (p_move rfl rfl) ?_
          clear hs a; intro a hs
          refine t_pure hs rfl rfl (by decide) (p_move rfl rfl) ?_
          clear hs a; intro a hs
          obtain ⟨qt65, t65, ha, h0, h1, he, h⟩ := h
          refine t_pure hs rfl rfl (by decide) (Pure.adr he (p_idx rfl rfl rfl sl_29 ha h0 h1)) ?_
          clear hs a ha h0 h1 he; intro a hs
          obtain ⟨t66, hv, h⟩ := h
          refine t_eff hs rfl rfl (by decide) (e_load rfl rfl ct_3 hv) ?_
          clear hs a hv; intro a hs
          refine t_pure hs rfl rfl (by decide) (p_eq rfl rfl rfl) ?_
          clear hs a; intro a hs
          refine hK28 _ _ ?_
          refine c_cond hs rfl (fun hb => ?_) (fun hb => ?_)
          · replace h := h.1 hb
            clear hb
            refine wp_seq_k fun K29 hK29 => ?_
            refine wp_region_lit ?_
            refine t_pure hs rfl rfl (by decide) (p_assign rfl rfl) ?_
            clear hs a; intro a hs
            refine hK29 _ _ ?_
            refine wp_block ?_
            obtain ⟨I7, μ7, h0, hr⟩ := h
            refine c_loop (α := Int) I7 μ7 (fun x a => Slots a 109 [(3, (Sl.val bits3_3)), (8, (.pointer (some powers8))), (9, (.int .i64 i9_5)), (10, (.int .i64 x))]) 0 h0 (hs.to ⟨rfl, rfl, rfl, rfl, trivial⟩) ?_
            clear h0 hs a
            intro k10_7 a w hI hs
            have h : ref01_Sum.b7 Q X1 X3 X4 X5 (fun k10_7n w' => I7 k10_7n w' ∧ μ7 k10_7n w' < μ7 k10_7 w) bits3_3 powers8 i9_5 k10_7 w := hr k10_7 w hI
            clear hr hI
            generalize hX7 : (fun k10_7n w' => I7 k10_7n w' ∧ μ7 k10_7n w' < μ7 k10_7 w) = X7 at h
            unfold ref01_Sum.b7 at h
            replace hs : Slots a 109 [(3, (Sl.val bits3_3)), (8, (.pointer (some powers8))), (9, (.int .i64 i9_5)), (10, (.int .i64 k10_7))] := hs
            refine wp_seq_k fun K30 hK30 => ?_
            refine wp_seq_k fun K31 hK31 => ?_
            refine wp_region_lit ?_
            refine t_pure hs rfl rfl (by decide) (p_move rfl rfl) ?_
            clear hs a; intro a hs
            refine t_pure hs rfl rfl (by decide) (p_lt rfl rfl rfl) ?_
            clear hs a; intro a hs
            refine hK31 _ _ ?_
            refine c_cond hs rfl (fun hb => ?_) (fun hb => ?_)
            · replace h := h.1 hb
              clear hb
              refine wp_skip ?_
              refine hK30 _ _ ?_
              refine wp_seq_k fun K32 hK32 => ?_
              refine wp_block ?_
              obtain ⟨w1, hw1, h⟩ := h
              refine d_start (S := Is w1) (ds := [18]) #[false, false, false, false, false, false, false, false, false, false, false, false, false, false, false, false, false, false, false] mixed rfl rfl ?_
              rw [← hw1]
              have hS := Is.intro w1
              clear hw1
              refine d_pure hs #[true, false, false, false, false, false, false, false, false, false, false, false, false, false, false, false, false, false, false] (i := 0) rfl rfl rfl (by decide) (by kernel_rfl) (tight_body (P := Try.prog) (fn := Try.f101)) (p_move rfl rfl) ?_
              clear hs a; intro a hs
              refine d_pure hs #[true, true, false, false, false, false, false, false, false, false, false, false, false, false, false, false, false, false, false] (i := 1) rfl rfl rfl (by decide) (by kernel_rfl) (tight_body (P := Try.prog) (fn := Try.f101)) (p_move rfl rfl) ?_
              clear hs a; intro a hs
              obtain ⟨t74, he, h⟩ := h
              refine d_pure hs #[true, true, true, false, false, false, false, false, false, false, false, false, false, false, false, false, false, false, false] (i := 2) rfl rfl rfl (by decide) (by kernel_rfl) (tight_body (P := Try.prog) (fn := Try.f101)) (Pure.int he (p_add rfl rfl rfl)) ?_
              clear hs a he; intro a hs
              refine d_pure hs #[true, true, true, true, false, false, false, false, false, false, false, false, false, false, false, false, false, false, false] (i := 3) rfl rfl rfl (by decide) (by kernel_rfl) (tight_body (P := Try.prog) (fn := Try.f101)) (p_move rfl rfl) ?_
              clear hs a; intro a hs
              obtain ⟨t76, h0, h1, he, h⟩ := h
              refine d_pure hs #[true, true, true, true, true, false, false, false, false, false, false, false, false, false, false, false, false, false, false] (i := 4) rfl rfl rfl (by decide) (by kernel_rfl) (tight_body (P := Try.prog) (fn := Try.f101)) (Pure.adr he (p_idxA rfl rfl rfl ar_243 h0 h1)) ?_
              clear hs a h0 h1 he; intro a hs
              refine d_pure hs #[true, true, true, true, true, false, false, true, false, false, false, false, false, false, false, false, false, false, false] (i := 7) rfl rfl rfl (by decide) (by kernel_rfl) (tight_body (P := Try.prog) (fn := Try.f101)) (p_move rfl rfl) ?_
              clear hs a; intro a hs
              refine d_pure hs #[true, true, true, true, true, false, false, true, true, false, false, false, false, false, false, false, false, false, false] (i := 8) rfl rfl rfl (by decide) (by kernel_rfl) (tight_body (P := Try.prog) (fn := Try.f101)) (p_move rfl rfl) ?_
              clear hs a; intro a hs
              obtain ⟨t81, he, h⟩ := h
              refine d_pure hs #[true, true, true, true, true, false, false, true, true, true, false, false, false, false, false, false, false, false, false] (i := 9) rfl rfl rfl (by decide) (by kernel_rfl) (tight_body (P := Try.prog) (fn := Try.f101)) (Pure.int he (p_add rfl rfl rfl)) ?_
              clear hs a he; intro a hs
              replace hs := hs.to (τ := [(3, (Sl.val bits3_3)), (8, (.pointer (some powers8))), (9, (.int .i64 i9_5)), (10, (.int .i64 k10_7)), (72, (Sl.val bits3_3)), (74, (.int .i64 t74)), (76, (.pointer (some t76))), (79, (Sl.val bits3_3)), (81, (.int .i64 t81))]) ⟨rfl, rfl, rfl, rfl, rfl, rfl, rfl, rfl, rfl, trivial⟩
              refine d_pure hs #[true, true, true, true, true, false, false, true, true, true, true, false, false, false, false, false, false, false, false] (i := 10) rfl rfl rfl (by decide) (by kernel_rfl) (tight_body (P := Try.prog) (fn := Try.f101)) (p_move rfl rfl) ?_
              clear hs a; intro a hs
              obtain ⟨t83, h0, h1, he, h⟩ := h
              refine d_pure hs #[true, true, true, true, true, false, false, true, true, true, true, true, false, false, false, false, false, false, false] (i := 11) rfl rfl rfl (by decide) (by kernel_rfl) (tight_body (P := Try.prog) (fn := Try.f101)) (Pure.adr he (p_idxA rfl rfl rfl ar_243 h0 h1)) ?_
              clear hs a h0 h1 he; intro a hs
              obtain ⟨t77, hv, h⟩ := h
              refine d_read hs #[true, true, true, true, true, true, false, true, true, true, true, true, false, false, false, false, false, false, false] (i := 5) rfl rfl rfl (by decide) (by kernel_rfl) (by kernel_rfl) (tight_body (P := Try.prog) (fn := Try.f101)) hS (fun w h' => by have h1 := h'.out; subst h1; exact e_load rfl rfl ct_3 hv) ?_
              clear hs a hv; intro a hs
              obtain ⟨t78, he, h⟩ := h
              refine d_pure hs #[true, true, true, true, true, true, true, true, true, true, true, true, false, false, false, false, false, false, false] (i := 6) rfl rfl rfl (by decide) (by kernel_rfl) (tight_body (P := Try.prog) (fn := Try.f101)) (Pure.int he (p_sub rfl rfl rfl)) ?_
              clear hs a he; intro a hs
              obtain ⟨t84, hv, h⟩ := h
              refine d_read hs #[true, true, true, true, true, true, true, true, true, true, true, true, true, false, false, false, false, false, false] (i := 12) rfl rfl rfl (by decide) (by kernel_rfl) (by kernel_rfl) (tight_body (P := Try.prog) (fn := Try.f101)) hS (fun w h' => by have h1 := h'.out; subst h1; exact e_load rfl rfl ct_3 hv) ?_
              clear hs a hv; intro a hs
              obtain ⟨t85, he, h⟩ := h
              refine d_pure hs #[true, true, true, true, true, true, true, true, true, true, true, true, true, true, false, false, false, false, false] (i := 13) rfl rfl rfl (by decide) (by kernel_rfl) (tight_body (P := Try.prog) (fn := Try.f101)) (Pure.int he (p_sub rfl rfl rfl)) ?_
              clear hs a he; intro a hs
              obtain ⟨qt86, t86, ha, h0, h1, he, h⟩ := h
              refine d_pure hs #[true, true, true, true, true, true, true, true, true, true, true, true, true, true, true, false, false, false, false] (i := 14) rfl rfl rfl (by decide) (by kernel_rfl) (tight_body (P := Try.prog) (fn := Try.f101)) (Pure.adr he (p_idx rfl rfl rfl sl_29 ha h0 h1)) ?_
              clear hs a ha h0 h1 he; intro a hs
              obtain ⟨t87, hv, h⟩ := h
              refine d_read hs #[true, true, true, true, true, true, true, true, true, true, true, true, true, true, true, true, false, false, false] (i := 15) rfl rfl rfl (by decide) (by kernel_rfl) (by kernel_rfl) (tight_body (P := Try.prog) (fn := Try.f101)) hS (fun w h' => by have h1 := h'.out; subst h1; exact e_load rfl rfl ct_3 hv) ?_
              clear hs a hv; intro a hs
              replace hs := hs.to (τ := [(3, (Sl.val bits3_3)), (8, (.pointer (some powers8))), (9, (.int .i64 i9_5)), (10, (.int .i64 k10_7)), (72, (Sl.val bits3_3)), (78, (.int .i64 t78)), (87, (.int .i64 t87))]) ⟨rfl, rfl, rfl, rfl, rfl, rfl, rfl, trivial⟩
              obtain ⟨t88, he, h⟩ := h
              refine d_pure hs #[true, true, true, true, true, true, true, true, true, true, true, true, true, true, true, true, true, false, false] (i := 16) rfl rfl rfl (by decide) (by kernel_rfl) (tight_body (P := Try.prog) (fn := Try.f101)) (Pure.int he (p_sub rfl rfl rfl)) ?_
              clear hs a he; intro a hs
              obtain ⟨qt89, t89, ha, h0, h1, he, h⟩ := h
              refine d_pure hs #[true, true, true, true, true, true, true, true, true, true, true, true, true, true, true, true, true, true, false] (i := 17) rfl rfl rfl (by decide) (by kernel_rfl) (tight_body (P := Try.prog) (fn := Try.f101)) (Pure.adr he (p_idx rfl rfl rfl sl_29 ha h0 h1)) ?_
              clear hs a ha h0 h1 he; intro a hs
              refine d_all [18] (by kernel_rfl) (by decide) ?_
              refine AllS.cons ?_ AllS.nil
              obtain ⟨w1, hw, hc, hf, hv, h⟩ := h
              refine d_skip hs #[true, true, true, true, true, true, true, true, true, true, true, true, true, true, true, true, true, true, true] (i := 18) rfl rfl rfl rfl (e_store rfl rfl rfl sz_3 hw hc hf hv) (fun hn => (hn (by decide)).elim) ?_
              clear hs a hw hc hf hv; intro a hs
              refine d_done (by kernel_rfl) ?_ _
              clear hS
              refine hK32 _ _ ?_
              refine wp_region_lit ?_
              refine t_pure hs rfl rfl (by decide) (p_move rfl rfl) ?_
              clear hs a; intro a hs
              obtain ⟨t71, he, h⟩ := h
              refine t_pure hs rfl rfl (by decide) (Pure.int he (p_add rfl rfl rfl)) ?_
              clear hs a he; intro a hs
              refine t_pure hs rfl rfl (by decide) (p_assign rfl rfl) ?_
              clear hs a; intro a hs
              rw [← hX7] at h
              exact ⟨t71, hs.to ⟨rfl, rfl, rfl, rfl, trivial⟩, h⟩
            · replace h := h.2 hb
              clear hb
              refine wp_exit ?_
              exact J6 _ _ (hs.to ⟨rfl, rfl, rfl, trivial⟩) h
          · replace h := h.2 hb
            clear hb
            refine wp_skip ?_
            exact J6 _ _ (hs.to ⟨rfl, rfl, rfl, trivial⟩) h
        · replace h := h.2 hb
          clear hb
          refine wp_exit ?_
          refine hK23 _ _ ?_
          refine wp_seq_k fun K33 hK33 => ?_
          refine wp_region_lit ?_
          refine t_pure hs rfl rfl (by decide) (p_assign rfl rfl) ?_
          clear hs a; intro a hs
          refine hK33 _ _ ?_
          refine wp_seq_k fun K34 hK34 => ?_
          refine wp_seq_k fun K35 hK35 => ?_
          refine wp_region_lit ?_
          refine t_pure hs rfl rfl (by decide) (p_assign rfl rfl) ?_
          clear hs a; intro a hs
          refine hK35 _ _ ?_
          refine wp_block ?_
          obtain ⟨I8, μ8, h0, hr⟩ := h
          refine c_loop (α := Int × Int) I8 μ8 (fun x a => Slots a 109 [(3, (Sl.val bits3_3)), (11, (.int .u32 x.1)), (12, (.int .i64 x.2))]) (0, 0) h0 (hs.to ⟨rfl, rfl, rfl, trivial⟩) ?_
          clear h0 hs a
          rintro ⟨out11_8, k12_8⟩ a w hI hs
          have h : ref01_Sum.b8 Q X1 X3 X4 X5 (fun out11_8n k12_8n w' => I8 (out11_8n, k12_8n) w' ∧ μ8 (out11_8n, k12_8n) w' < μ8 (out11_8, k12_8) w) bits3_3 out11_8 k12_8 w := hr (out11_8, k12_8) w hI
          clear hr hI
          generalize hX8 : (fun out11_8n k12_8n w' => I8 (out11_8n, k12_8n) w' ∧ μ8 (out11_8n, k12_8n) w' < μ8 (out11_8, k12_8) w) = X8 at h
          unfold ref01_Sum.b8 at h
          replace hs : Slots a 109 [(3, (Sl.val bits3_3)), (11, (.int .u32 out11_8)), (12, (.int .i64 k12_8))] := hs
          refine wp_seq_k fun K36 hK36 => ?_
          refine wp_seq_k fun K37 hK37 => ?_
          refine wp_region_lit ?_
          refine t_pure hs rfl rfl (by decide) (p_move rfl rfl) ?_
          clear hs a; intro a hs
          refine t_pure hs rfl rfl (by decide) (p_lt rfl rfl rfl) ?_
          clear hs a; intro a hs
          refine hK37 _ _ ?_
          refine c_cond hs rfl (fun hb => ?_) (fun hb => ?_)
          · replace h := h.1 hb
            clear hb
            refine wp_skip ?_
            refine hK36 _ _ ?_
            refine wp_seq_k fun K38 hK38 => ?_
            have J9 : ∀ (out11_9 : Int) (a : Act) (w : World), Slots a 109 [(3, (Sl.val bits3_3)), (11, (.int .u32 out11_9)), (12, (.int .i64 k12_8))] → ref01_Sum.s9 Q X1 X3 X4 X5 X8 bits3_3 out11_9 k12_8 w → K38 a w := by
              clear h hs
              intro out11_9 a w hs h
              refine hK38 _ _ ?_
              unfold ref01_Sum.s9 at h
              refine wp_region_lit ?_
              refine t_pure hs rfl rfl (by decide) (p_move rfl rfl) ?_
              clear hs a; intro a hs
              obtain ⟨t93, he, h⟩ := h
              refine t_pure hs rfl rfl (by decide) (Pure.int he (p_add rfl rfl rfl)) ?_
              clear hs a he; intro a hs
              refine t_pure hs rfl rfl (by decide) (p_assign rfl rfl) ?_
              clear hs a; intro a hs
              rw [← hX8] at h
              exact ⟨(out11_9, t93), hs.to ⟨rfl, rfl, rfl, trivial⟩, h⟩
            clear hK38
            refine wp_block ?_
            refine wp_seq_k fun K39 hK39 => ?_
            refine wp_region_lit ?_
            refine t_pure hs rfl rfl (by decide) (p_move rfl rfl) ?_
            clear hs a; intro a hs
            refine t_pure hs rfl rfl (by decide) (p_move rfl rfl) ?_
            clear hs a; intro a hs
            refine t_pure hs rfl rfl (by decide) (p_len rfl rfl sl_29) ?_
            clear hs a; intro a hs
            obtain ⟨t97, he, h⟩ := h
            refine t_pure hs rfl rfl (by decide) (Pure.int he (p_sub rfl rfl rfl)) ?_
            clear hs a he; intro a hs
            refine t_pure hs rfl rfl (by decide) (p_move rfl rfl) ?_
            clear hs a; intro a hs
            obtain ⟨t99, he, h⟩ := h
            refine t_pure hs rfl rfl (by decide) (Pure.int he (p_add rfl rfl rfl)) ?_
            clear hs a he; intro a hs
            obtain ⟨qt100, t100, ha, h0, h1, he, h⟩ := h
            refine t_pure hs rfl rfl (by decide) (Pure.adr he (p_idx rfl rfl rfl sl_29 ha h0 h1)) ?_
            clear hs a ha h0 h1 he; intro a hs
            obtain ⟨t101, hv, h⟩ := h
            refine t_eff hs rfl rfl (by decide) (e_load rfl rfl ct_3 hv) ?_
            clear hs a hv; intro a hs
            replace hs := hs.to (τ := [(3, (Sl.val bits3_3)), (11, (.int .u32 out11_8)), (12, (.int .i64 k12_8)), (101, (.int .i64 t101))]) ⟨rfl, rfl, rfl, rfl, trivial⟩
            refine t_pure hs rfl rfl (by decide) (p_eq rfl rfl rfl) ?_
            clear hs a; intro a hs
            refine hK39 _ _ ?_
            refine c_cond hs rfl (fun hb => ?_) (fun hb => ?_)
            · replace h := h.1 hb
              clear hb
              refine wp_region_lit ?_
              refine t_pure hs rfl rfl (by decide) (p_move rfl rfl) ?_
              clear hs a; intro a hs
              refine t_pure hs rfl rfl (by decide) (p_move rfl rfl) ?_
              clear hs a; intro a hs
              obtain ⟨t105, he, h⟩ := h
              refine t_pure hs rfl rfl (by decide) (Pure.int he (p_conv_int rfl rfl in_3 in_120)) ?_
              clear hs a he; intro a hs
              obtain ⟨h0, t106, he, h⟩ := h
              refine t_pure hs rfl rfl (by decide) (Pure.int he (p_shl rfl rfl rfl h0)) ?_
              clear hs a h0 he; intro a hs
              obtain ⟨t107, he, h⟩ := h
              refine t_pure hs rfl rfl (by decide) (Pure.int he (p_add rfl rfl rfl)) ?_
              clear hs a he; intro a hs
              refine t_pure hs rfl rfl (by decide) (p_assign rfl rfl) ?_
              clear hs a; intro a hs
              exact J9 t107 _ _ (hs.to ⟨rfl, rfl, rfl, trivial⟩) h
            · replace h := h.2 hb
              clear hb
              refine wp_skip ?_
              exact J9 out11_8 _ _ (hs.to ⟨rfl, rfl, rfl, trivial⟩) h
          · replace h := h.2 hb
            clear hb
            refine wp_exit ?_
            refine hK34 _ _ ?_
            refine wp_seq_k fun K40 hK40 => ?_
            refine wp_region_lit ?_
            refine t_pure hs rfl rfl (by decide) (p_move rfl rfl) ?_
            clear hs a; intro a hs
            refine t_pure hs rfl rfl (by decide) (p_assign rfl rfl) ?_
            clear hs a; intro a hs
            refine hK40 _ _ ?_
            refine wp_ret ?_
            refine f_ret (fn := Try.f101) hs (fun a hs => r_one hs rfl (rfl)) ⟨out11_8, rfl, h⟩
end Go.Proofs.Ytdpepgjbambinaa
