/- Plain forms of functions, and that their code comes to them (package law04_WalAny). -/
import Derived.Test.YtdpepgjbambinaaCalls
namespace Go.Proofs.Ytdpepgjbambinaa
open Go Go.Sep
set_option linter.unusedVariables false
set_option linter.unusedSimpArgs false
set_option maxRecDepth 100000
set_option maxHeartbeats 4000000
def law04_WalAny.s2 (Q : Bool → K) (X1 : Sl → Bool → Int → K) (d3_2 : (Option Addr)) (all5_2 : Sl) (whole6_2 : Bool) (t29_2 : Sl) (t30_2 : Int) (t31_2 : Int) : K :=
  Ar (IntKind.wrap .i64 (t31_2 + 1)) fun t72 =>
  X1 all5_2 whole6_2 t72
def law04_WalAny.s4 (Q : Bool → K) (X1 : Sl → Bool → Int → K) (X3 : Sl → Bool → Int → K) (d3_4 : (Option Addr)) (all5_4 : Sl) (whole6_4 : Bool) (p8_4 : Sl) (at9_4 : Int) (t29_4 : Sl) (t30_4 : Int) (t31_4 : Int) (t54_4 : Bool) : K :=
  Ite t54_4
    (Slc p8_4 at9_4 (p8_4.n : Int) (p8_4.c : Int) 1 fun t58 =>
    ref01_Unframe.call t58 fun t59x0 t59x1 t59x2 =>
    Ite (decide (t59x2 ≠ 0))
      (law04_WalAny.s2 Q X1 d3_4 all5_4 false t29_4 t30_4 t31_4)
      (New 22 #[(Sl.val t59x0)] fun t67 =>
      Do Try.prog (Builtin.append_ #[54, 54] 54 #[(Sl.val all5_4), (Sl.val (Sl.mk (some t67) 1 1))]) Sl.val fun t68 =>
      Ar (IntKind.wrap .i64 (at9_4 + t59x1)) fun t71 =>
      X3 t68 whole6_4 t71))
    (law04_WalAny.s2 Q X1 d3_4 all5_4 whole6_4 t29_4 t30_4 t31_4)
def law04_WalAny.b3 (Q : Bool → K) (X1 : Sl → Bool → Int → K) (X3 : Sl → Bool → Int → K) (d3_3 : (Option Addr)) (p8_3 : Sl) (t29_3 : Sl) (t30_3 : Int) (t31_3 : Int) (all5_3 : Sl) (whole6_3 : Bool) (at9_3 : Int) : K :=
  Ite (decide (at9_3 < (p8_3.n : Int)))
    (law04_WalAny.s4 Q X1 X3 d3_3 all5_3 whole6_3 p8_3 at9_3 t29_3 t30_3 t31_3 whole6_3)
    (law04_WalAny.s4 Q X1 X3 d3_3 all5_3 whole6_3 p8_3 at9_3 t29_3 t30_3 t31_3 false)
def law04_WalAny.s6 (Q : Bool → K) (X1 : Sl → Bool → Int → K) (t2_6 : Bool) : K :=
  Q t2_6
def law04_WalAny.s5 (Q : Bool → K) (X1 : Sl → Bool → Int → K) (d3_5 : (Option Addr)) (all5_5 : Sl) (l13_5 : (Option Addr)) (t90_5 : Bool) : K :=
  Ite t90_5
    (Q false)
    (wal_Open.call d3_5 ⟨#[108, 111, 103]⟩ 100 fun t93x0 t93x1 =>
    Ite (!(t93x0).isNone)
      (Ite (decide (t93x1 = 0))
        (wal_Log_Records.call t93x0 fun t104 =>
        ref04_Same.call t104 all5_5 fun t106 =>
        Ite t106
          (wal_Log_Parts.call t93x0 fun t110 =>
          wal_Log_Parts.call l13_5 fun t112 =>
          law04_WalAny.s6 Q X1 (decide (t110 = t112)))
          (law04_WalAny.s6 Q X1 false))
        (law04_WalAny.s6 Q X1 false))
      (law04_WalAny.s6 Q X1 false))
def law04_WalAny.b1 (Q : Bool → K)  (X1 : Sl → Bool → Int → K) (d3_1 : (Option Addr)) (t29_1 : Sl) (t30_1 : Int) (all5_1 : Sl) (whole6_1 : Bool) (t31_1 : Int) : K :=
  Ite (decide (t31_1 < t30_1))
    (Idx t29_1 t31_1 1 fun t34 =>
    Ld t34 Sl.val fun t35 =>
    Ite (decide ((5000 : Int) < (t35.n : Int)))
      (Q true)
      (Ar (IntKind.wrap .i64 (48 + t31_1)) fun t41 =>
      Ar (IntKind.wrap .u8 t41) fun t42 =>
      New 5 #[(.int .u8 t42)] fun t43 =>
      Rd Try.prog (convert 22 9 (Sl.val (Sl.mk (some t43) 1 1))) Value.string fun t44 =>
      Cat (⟨#[108, 111, 103]⟩ : ByteArray) t44 fun t45 =>
      disk_Disk_Append.call d3_1 t45 t35 fun t47 =>
      LoopK (α := Sl × Bool × Int) (fun X x => law04_WalAny.b3 Q X1 (fun all5_3 whole6_3 at9_3 => X (all5_3, whole6_3, at9_3)) d3_1 t35 t29_1 t30_1 t31_1 x.1 x.2.1 x.2.2) (all5_1, whole6_1, 0)))
    (wal_Open.call d3_1 ⟨#[108, 111, 103]⟩ 100 fun t75x0 t75x1 =>
    Ite ((t75x0).isNone)
      (law04_WalAny.s5 Q X1 d3_1 all5_1 t75x0 true)
      (Ite (decide (t75x1 ≠ 0))
        (law04_WalAny.s5 Q X1 d3_1 all5_1 t75x0 true)
        (wal_Log_Records.call t75x0 fun t86 =>
        ref04_Same.call t86 all5_1 fun t88 =>
        law04_WalAny.s5 Q X1 d3_1 all5_1 t75x0 (!t88))))
def law04_WalAny (parts0 : Sl) (Q : Bool → K) : K :=
  law04_speaks.call  fun t17 =>
  Ite (!t17)
    (Q false)
    (Ite (decide ((10 : Int) < (parts0.n : Int)))
      (Q true)
      (disk_New.call 1048576 fun t23x0 t23x1 =>
      Ite ((t23x0).isNone)
        (Q false)
        (New 22 #[] fun t28 =>
        LoopK (α := Sl × Bool × Int) (fun X x => law04_WalAny.b1 Q (fun all5_1 whole6_1 t31_1 => X (all5_1, whole6_1, t31_1)) t23x0 parts0 (parts0.n : Int) x.1 x.2.1 x.2.2) ((Sl.mk (some t28) 0 0), true, 0))))
theorem law04_WalAny_ok (parts0 : Sl) (Q : Bool → K) (w : World) (h : law04_WalAny parts0 Q w) : law04_WalAny.call parts0 Q w := by
  unfold law04_WalAny.call CallF
  refine f_start (args := [(Sl.val parts0)]) Try.func7 rfl (Nat.le_of_ble_eq_true rfl) ?_
  intro a hs
  unfold law04_WalAny at h
  refine wp_seq_k fun K1 hK1 => ?_
  refine wp_region_lit ?_
  refine t_pure hs rfl rfl (by decide) (p_assign rfl rfl) ?_
  clear hs a; intro a hs
  refine hK1 _ _ ?_
  refine wp_seq_k fun K2 hK2 => ?_
  refine wp_seq_k fun K3 hK3 => ?_
  refine wp_region_lit ?_
  refine t_call hs rfl rfl (by decide) (e_call rfl rfl rfl cb_26) h ?_
  clear hs a h
  intro v a w hk hs
  obtain ⟨t17, rfl, h⟩ := hk
  refine t_pure hs rfl rfl (by decide) (p_not rfl rfl) ?_
  clear hs a; intro a hs
  refine hK3 _ _ ?_
  refine c_cond hs rfl (fun hb => ?_) (fun hb => ?_)
  · replace h := h.1 hb
    clear hb
    refine wp_seq_k fun K4 hK4 => ?_
    refine wp_region_lit ?_
    refine t_pure hs rfl rfl (by decide) (p_assign rfl rfl) ?_
    clear hs a; intro a hs
    refine hK4 _ _ ?_
    refine wp_ret ?_
    refine f_ret (fn := Try.f7) hs (fun a hs => r_one hs rfl (rfl)) ⟨false, rfl, h⟩
  · replace h := h.2 hb
    clear hb
    refine wp_skip ?_
    refine hK2 _ _ ?_
    refine wp_seq_k fun K5 hK5 => ?_
    refine wp_seq_k fun K6 hK6 => ?_
    refine wp_region_lit ?_
    refine t_pure hs rfl rfl (by decide) (p_move rfl rfl) ?_
    clear hs a; intro a hs
    refine t_pure hs rfl rfl (by decide) (p_len rfl rfl sl_54) ?_
    clear hs a; intro a hs
    refine t_pure hs rfl rfl (by decide) (p_gt rfl rfl rfl) ?_
    clear hs a; intro a hs
    refine hK6 _ _ ?_
    refine c_cond hs rfl (fun hb => ?_) (fun hb => ?_)
    · replace h := h.1 hb
      clear hb
      refine wp_seq_k fun K7 hK7 => ?_
      refine wp_region_lit ?_
      refine t_pure hs rfl rfl (by decide) (p_assign rfl rfl) ?_
      clear hs a; intro a hs
      refine hK7 _ _ ?_
      refine wp_ret ?_
      refine f_ret (fn := Try.f7) hs (fun a hs => r_one hs rfl (rfl)) ⟨true, rfl, h⟩
    · replace h := h.2 hb
      clear hb
      refine wp_skip ?_
      refine hK5 _ _ ?_
      refine wp_seq_k fun K8 hK8 => ?_
      refine wp_region_lit ?_
      refine t_call hs rfl rfl (by decide) (e_call rfl rfl rfl cb_27) h ?_
      clear hs a h
      intro v a w hk hs
      obtain ⟨t23x0, t23x1, rfl, h⟩ := hk
      refine t_pure hs rfl rfl (by decide) (p_move rfl rfl) ?_
      clear hs a; intro a hs
      refine t_pure hs rfl rfl (by decide) (p_extract rfl rfl rfl) ?_
      clear hs a; intro a hs
      refine t_pure hs rfl rfl (by decide) (p_extract rfl rfl rfl) ?_
      clear hs a; intro a hs
      refine t_pure hs rfl rfl (by decide) (p_assign rfl rfl) ?_
      clear hs a; intro a hs
      refine t_pure hs rfl rfl (by decide) (p_assign rfl rfl) ?_
      clear hs a; intro a hs
      refine hK8 _ _ ?_
      refine wp_seq_k fun K9 hK9 => ?_
      refine wp_seq_k fun K10 hK10 => ?_
      refine wp_region_lit ?_
      refine t_pure hs rfl rfl (by decide) (p_move rfl rfl) ?_
      clear hs a; intro a hs
      refine t_pure hs rfl rfl (by decide) (p_eq_nil rfl rfl rfl Try.underlying57) ?_
      clear hs a; intro a hs
      refine hK10 _ _ ?_
      refine c_cond hs rfl (fun hb => ?_) (fun hb => ?_)
      · replace h := h.1 hb
        clear hb
        refine wp_seq_k fun K11 hK11 => ?_
        refine wp_region_lit ?_
        refine t_pure hs rfl rfl (by decide) (p_assign rfl rfl) ?_
        clear hs a; intro a hs
        refine hK11 _ _ ?_
        refine wp_ret ?_
        refine f_ret (fn := Try.f7) hs (fun a hs => r_one hs rfl (rfl)) ⟨false, rfl, h⟩
      · replace h := h.2 hb
        clear hb
        refine wp_skip ?_
        refine hK9 _ _ ?_
        refine wp_seq_k fun K12 hK12 => ?_
        refine wp_region_lit ?_
        obtain ⟨t28, w1, ha, hw, h⟩ := h
        refine t_eff hs rfl rfl (by decide) (e_buildSlice (z := #[]) (cs := #[]) rfl sl_54 zt_22 (by decide) rfl rz_22_0 (by rfl) ha hw) ?_
        clear hs a ha hw; intro a hs
        refine t_pure hs rfl rfl (by decide) (p_assign rfl rfl) ?_
        clear hs a; intro a hs
        refine t_pure hs rfl rfl (by decide) (p_assign rfl rfl) ?_
        clear hs a; intro a hs
        refine hK12 _ _ ?_
        refine wp_seq_k fun K13 hK13 => ?_
        refine wp_seq_k fun K14 hK14 => ?_
        refine wp_region_lit ?_
        refine t_pure hs rfl rfl (by decide) (p_move rfl rfl) ?_
        clear hs a; intro a hs
        refine t_pure hs rfl rfl (by decide) (p_len rfl rfl sl_54) ?_
        clear hs a; intro a hs
        refine t_pure hs rfl rfl (by decide) (p_move rfl rfl) ?_
        clear hs a; intro a hs
        refine hK14 _ _ ?_
        refine wp_block ?_
        obtain ⟨I1, μ1, h0, hr⟩ := h
        refine c_loop (α := Sl × Bool × Int) I1 μ1 (fun x a => Slots a 115 [(3, (.pointer t23x0)), (5, (Sl.val x.1)), (6, (.bool x.2.1)), (29, (Sl.val parts0)), (30, (.int .i64 (parts0.n : Int))), (31, (.int .i64 x.2.2))]) ((Sl.mk (some t28) 0 0), true, 0) h0 (hs.to ⟨rfl, rfl, rfl, rfl, rfl, rfl, trivial⟩) ?_
        clear h0 hs a
        rintro ⟨all5_1, whole6_1, t31_1⟩ a w hI hs
        have h : law04_WalAny.b1 Q (fun all5_1n whole6_1n t31_1n w' => I1 (all5_1n, whole6_1n, t31_1n) w' ∧ μ1 (all5_1n, whole6_1n, t31_1n) w' < μ1 (all5_1, whole6_1, t31_1) w) t23x0 parts0 (parts0.n : Int) all5_1 whole6_1 t31_1 w := hr (all5_1, whole6_1, t31_1) w hI
        clear hr hI
        generalize hX1 : (fun all5_1n whole6_1n t31_1n w' => I1 (all5_1n, whole6_1n, t31_1n) w' ∧ μ1 (all5_1n, whole6_1n, t31_1n) w' < μ1 (all5_1, whole6_1, t31_1) w) = X1 at h
        unfold law04_WalAny.b1 at h
        replace hs : Slots a 115 [(3, (.pointer t23x0)), (5, (Sl.val all5_1)), (6, (.bool whole6_1)), (29, (Sl.val parts0)), (30, (.int .i64 (parts0.n : Int))), (31, (.int .i64 t31_1))] := hs
        refine wp_seq_k fun K15 hK15 => ?_
        refine wp_region_lit ?_
        refine t_pure hs rfl rfl (by decide) (p_lt rfl rfl rfl) ?_
        clear hs a; intro a hs
        refine hK15 _ _ ?_
        refine wp_seq_k fun K16 hK16 => ?_
        refine c_cond hs rfl (fun hb => ?_) (fun hb => ?_)
        · replace h := h.1 hb
          clear hb
          refine wp_skip ?_
          refine hK16 _ _ ?_
          refine wp_seq_k fun K17 hK17 => ?_
          have J2 : ∀ (all5_2 : Sl) (whole6_2 : Bool) (a : Act) (w : World), Slots a 115 [(3, (.pointer t23x0)), (5, (Sl.val all5_2)), (6, (.bool whole6_2)), (29, (Sl.val parts0)), (30, (.int .i64 (parts0.n : Int))), (31, (.int .i64 t31_1))] → law04_WalAny.s2 Q X1 t23x0 all5_2 whole6_2 parts0 (parts0.n : Int) t31_1 w → K17 a w := by
            clear h hs
            intro all5_2 whole6_2 a w hs h
            refine hK17 _ _ ?_
            unfold law04_WalAny.s2 at h
            refine wp_region_lit ?_
            obtain ⟨t72, he, h⟩ := h
            refine t_pure hs rfl rfl (by decide) (Pure.int he (p_add rfl rfl rfl)) ?_
            clear hs a he; intro a hs
            refine t_pure hs rfl rfl (by decide) (p_move rfl rfl) ?_
            clear hs a; intro a hs
            rw [← hX1] at h
            exact ⟨(all5_2, whole6_2, t72), hs.to ⟨rfl, rfl, rfl, rfl, rfl, rfl, trivial⟩, h⟩
          clear hK17
          refine wp_block ?_
          refine wp_seq_k fun K18 hK18 => ?_
          refine wp_region_lit ?_
          refine t_pure hs rfl rfl (by decide) (p_move rfl rfl) ?_
          clear hs a; intro a hs
          obtain ⟨qt34, t34, ha, h0, h1, he, h⟩ := h
          refine t_pure hs rfl rfl (by decide) (Pure.adr he (p_idx rfl rfl rfl sl_54 ha h0 h1)) ?_
          clear hs a ha h0 h1 he; intro a hs
          obtain ⟨t35, hv, h⟩ := h
          refine t_eff hs rfl rfl (by decide) (e_load rfl rfl ct_22 hv) ?_
          clear hs a hv; intro a hs
          refine t_pure hs rfl rfl (by decide) (p_assign rfl rfl) ?_
          clear hs a; intro a hs
          refine t_pure hs rfl rfl (by decide) (p_assign rfl rfl) ?_
          clear hs a; intro a hs
          refine hK18 _ _ ?_
          refine wp_seq_k fun K19 hK19 => ?_
          refine wp_seq_k fun K20 hK20 => ?_
          refine wp_region_lit ?_
          refine t_pure hs rfl rfl (by decide) (p_move rfl rfl) ?_
          clear hs a; intro a hs
          refine t_pure hs rfl rfl (by decide) (p_len rfl rfl sl_22) ?_
          clear hs a; intro a hs
          refine t_pure hs rfl rfl (by decide) (p_gt rfl rfl rfl) ?_
          clear hs a; intro a hs
          refine hK20 _ _ ?_
          refine c_cond hs rfl (fun hb => ?_) (fun hb => ?_)
          · replace h := h.1 hb
            clear hb
            refine wp_seq_k fun K21 hK21 => ?_
            refine wp_region_lit ?_
            refine t_pure hs rfl rfl (by decide) (p_assign rfl rfl) ?_
            clear hs a; intro a hs
            refine hK21 _ _ ?_
            refine wp_ret ?_
            refine f_ret (fn := Try.f7) hs (fun a hs => r_one hs rfl (rfl)) ⟨true, rfl, h⟩
          · replace h := h.2 hb
            clear hb
            refine wp_skip ?_
            refine hK19 _ _ ?_
            refine wp_seq_k fun K22 hK22 => ?_
            refine wp_region_lit ?_
            refine t_pure hs rfl rfl (by decide) (p_move rfl rfl) ?_
            clear hs a; intro a hs
            refine t_pure hs rfl rfl (by decide) (p_move rfl rfl) ?_
            clear hs a; intro a hs
            obtain ⟨t41, he, h⟩ := h
            refine t_pure hs rfl rfl (by decide) (Pure.int he (p_add rfl rfl rfl)) ?_
            clear hs a he; intro a hs
            obtain ⟨t42, he, h⟩ := h
            refine t_pure hs rfl rfl (by decide) (Pure.int he (p_conv_int rfl rfl in_3 in_5)) ?_
            clear hs a he; intro a hs
            obtain ⟨t43, w1, ha, hw, h⟩ := h
            refine t_eff hs rfl rfl (by decide) (e_buildSlice (z := #[(.int .u8 0)]) (cs := #[(.int .u8 t42)]) rfl sl_22 zt_5 (by decide) rfl rz_5_1 (by rfl) ha hw) ?_
            clear hs a ha hw; intro a hs
            obtain ⟨t44, hd, h⟩ := h
            refine t_eff hs rfl rfl (by decide) (e_convert rfl rfl hd) ?_
            clear hs a hd; intro a hs
            obtain ⟨t45, h0, he, h⟩ := h
            refine t_pure hs rfl rfl (by decide) (Pure.str he (p_cats rfl rfl rfl h0)) ?_
            clear hs a h0 he; intro a hs
            refine t_pure hs rfl rfl (by decide) (p_move rfl rfl) ?_
            clear hs a; intro a hs
            replace hs := hs.to (τ := [(3, (.pointer t23x0)), (5, (Sl.val all5_1)), (6, (.bool whole6_1)), (8, (Sl.val t35)), (29, (Sl.val parts0)), (30, (.int .i64 (parts0.n : Int))), (31, (.int .i64 t31_1)), (39, (.pointer t23x0)), (45, (.string t45)), (46, (Sl.val t35))]) ⟨rfl, rfl, rfl, rfl, rfl, rfl, rfl, rfl, rfl, rfl, trivial⟩
            refine t_call hs rfl rfl (by decide) (e_call rfl rfl rfl cb_34) h ?_
            clear hs a h
            intro v a w hk hs
            obtain ⟨t47, rfl, h⟩ := hk
            refine hK22 _ _ ?_
            refine wp_seq_k fun K23 hK23 => ?_
            refine wp_region_lit ?_
            refine t_pure hs rfl rfl (by decide) (p_assign rfl rfl) ?_
            clear hs a; intro a hs
            refine hK23 _ _ ?_
            refine wp_block ?_
            obtain ⟨I3, μ3, h0, hr⟩ := h
            refine c_loop (α := Sl × Bool × Int) I3 μ3 (fun x a => Slots a 115 [(3, (.pointer t23x0)), (5, (Sl.val x.1)), (6, (.bool x.2.1)), (8, (Sl.val t35)), (9, (.int .i64 x.2.2)), (29, (Sl.val parts0)), (30, (.int .i64 (parts0.n : Int))), (31, (.int .i64 t31_1))]) (all5_1, whole6_1, 0) h0 (hs.to ⟨rfl, rfl, rfl, rfl, rfl, rfl, rfl, rfl, trivial⟩) ?_
            clear h0 hs a
            rintro ⟨all5_3, whole6_3, at9_3⟩ a w hI hs
            have h : law04_WalAny.b3 Q X1 (fun all5_3n whole6_3n at9_3n w' => I3 (all5_3n, whole6_3n, at9_3n) w' ∧ μ3 (all5_3n, whole6_3n, at9_3n) w' < μ3 (all5_3, whole6_3, at9_3) w) t23x0 t35 parts0 (parts0.n : Int) t31_1 all5_3 whole6_3 at9_3 w := hr (all5_3, whole6_3, at9_3) w hI
            clear hr hI
            generalize hX3 : (fun all5_3n whole6_3n at9_3n w' => I3 (all5_3n, whole6_3n, at9_3n) w' ∧ μ3 (all5_3n, whole6_3n, at9_3n) w' < μ3 (all5_3, whole6_3, at9_3) w) = X3 at h
            unfold law04_WalAny.b3 at h
            replace hs : Slots a 115 [(3, (.pointer t23x0)), (5, (Sl.val all5_3)), (6, (.bool whole6_3)), (8, (Sl.val t35)), (9, (.int .i64 at9_3)), (29, (Sl.val parts0)), (30, (.int .i64 (parts0.n : Int))), (31, (.int .i64 t31_1))] := hs
            refine wp_seq_k fun K24 hK24 => ?_
            refine wp_seq_k fun K25 hK25 => ?_
            have J4 : ∀ (whole6_4 : Bool) (t54_4 : Bool) (a : Act) (w : World), Slots a 115 [(3, (.pointer t23x0)), (5, (Sl.val all5_3)), (6, (.bool whole6_4)), (8, (Sl.val t35)), (9, (.int .i64 at9_3)), (29, (Sl.val parts0)), (30, (.int .i64 (parts0.n : Int))), (31, (.int .i64 t31_1)), (54, (.bool t54_4))] → law04_WalAny.s4 Q X1 X3 t23x0 all5_3 whole6_4 t35 at9_3 parts0 (parts0.n : Int) t31_1 t54_4 w → K25 a w := by
              clear h hs
              intro whole6_4 t54_4 a w hs h
              refine hK25 _ _ ?_
              unfold law04_WalAny.s4 at h
              refine c_cond hs rfl (fun hb => ?_) (fun hb => ?_)
              · replace h := h.1 hb
                clear hb
                refine wp_skip ?_
                refine hK24 _ _ ?_
                refine wp_block ?_
                refine wp_seq_k fun K26 hK26 => ?_
                refine wp_region_lit ?_
                refine t_pure hs rfl rfl (by decide) (p_move rfl rfl) ?_
                clear hs a; intro a hs
                refine t_pure hs rfl rfl (by decide) (p_move rfl rfl) ?_
                clear hs a; intro a hs
                obtain ⟨t58, h0, h1, h2, h3, he, h⟩ := h
                refine t_pure hs rfl rfl (by decide) (Pure.sl he (p_slc rfl rfl sl_22 ⟨_, rfl⟩ rfl rfl (by decide) h0 h1 h2 h3)) ?_
                clear hs a h0 h1 h2 h3 he; intro a hs
                refine t_call hs rfl rfl (by decide) (e_call rfl rfl rfl cb_37) h ?_
                clear hs a h
                intro v a w hk hs
                obtain ⟨t59x0, t59x1, t59x2, rfl, h⟩ := hk
                refine t_pure hs rfl rfl (by decide) (p_move rfl rfl) ?_
                clear hs a; intro a hs
                refine t_pure hs rfl rfl (by decide) (p_extract rfl rfl rfl) ?_
                clear hs a; intro a hs
                refine t_pure hs rfl rfl (by decide) (p_extract rfl rfl rfl) ?_
                clear hs a; intro a hs
                refine t_pure hs rfl rfl (by decide) (p_extract rfl rfl rfl) ?_
                clear hs a; intro a hs
                replace hs := hs.to (τ := [(3, (.pointer t23x0)), (5, (Sl.val all5_3)), (6, (.bool whole6_4)), (8, (Sl.val t35)), (9, (.int .i64 at9_3)), (29, (Sl.val parts0)), (30, (.int .i64 (parts0.n : Int))), (31, (.int .i64 t31_1)), (60, (Sl.val t59x0)), (61, (.int .i64 t59x1)), (62, (.int .i64 t59x2))]) ⟨rfl, rfl, rfl, rfl, rfl, rfl, rfl, rfl, rfl, rfl, rfl, trivial⟩
                refine t_pure hs rfl rfl (by decide) (p_assign rfl rfl) ?_
                clear hs a; intro a hs
                refine t_pure hs rfl rfl (by decide) (p_assign rfl rfl) ?_
                clear hs a; intro a hs
                refine t_pure hs rfl rfl (by decide) (p_assign rfl rfl) ?_
                clear hs a; intro a hs
                refine hK26 _ _ ?_
                refine wp_seq_k fun K27 hK27 => ?_
                refine wp_seq_k fun K28 hK28 => ?_
                refine wp_region_lit ?_
                refine t_pure hs rfl rfl (by decide) (p_move rfl rfl) ?_
                clear hs a; intro a hs
                refine t_pure hs rfl rfl (by decide) (p_ne rfl rfl rfl) ?_
                clear hs a; intro a hs
                refine hK28 _ _ ?_
                refine c_cond hs rfl (fun hb => ?_) (fun hb => ?_)
                · replace h := h.1 hb
                  clear hb
                  refine wp_seq_k fun K29 hK29 => ?_
                  refine wp_region_lit ?_
                  refine t_pure hs rfl rfl (by decide) (p_assign rfl rfl) ?_
                  clear hs a; intro a hs
                  refine hK29 _ _ ?_
                  refine wp_exit ?_
                  exact J2 all5_3 false _ _ (hs.to ⟨rfl, rfl, rfl, rfl, rfl, rfl, trivial⟩) h
                · replace h := h.2 hb
                  clear hb
                  refine wp_skip ?_
                  refine hK27 _ _ ?_
                  refine wp_seq_k fun K30 hK30 => ?_
                  refine wp_region_lit ?_
                  refine t_pure hs rfl rfl (by decide) (p_move rfl rfl) ?_
                  clear hs a; intro a hs
                  refine t_pure hs rfl rfl (by decide) (p_move rfl rfl) ?_
                  clear hs a; intro a hs
                  obtain ⟨t67, w1, ha, hw, h⟩ := h
                  refine t_eff hs rfl rfl (by decide) (e_buildSlice (z := #[(Sl.val ⟨none, 0, 0⟩)]) (cs := #[(Sl.val t59x0)]) rfl sl_54 zt_22 (by decide) rfl rz_22_1 (by rfl) ha hw) ?_
                  clear hs a ha hw; intro a hs
                  obtain ⟨t68, w1, hd, h⟩ := h
                  refine t_eff hs rfl rfl (by decide) (e_append rfl rfl rfl rfl hd) ?_
                  clear hs a hd; intro a hs
                  refine t_pure hs rfl rfl (by decide) (p_assign rfl rfl) ?_
                  clear hs a; intro a hs
                  refine hK30 _ _ ?_
                  refine wp_region_lit ?_
                  refine t_pure hs rfl rfl (by decide) (p_move rfl rfl) ?_
                  clear hs a; intro a hs
                  refine t_pure hs rfl rfl (by decide) (p_move rfl rfl) ?_
                  clear hs a; intro a hs
                  obtain ⟨t71, he, h⟩ := h
                  refine t_pure hs rfl rfl (by decide) (Pure.int he (p_add rfl rfl rfl)) ?_
                  clear hs a he; intro a hs
                  refine t_pure hs rfl rfl (by decide) (p_assign rfl rfl) ?_
                  clear hs a; intro a hs
                  rw [← hX3] at h
                  exact ⟨(t68, whole6_4, t71), hs.to ⟨rfl, rfl, rfl, rfl, rfl, rfl, rfl, rfl, trivial⟩, h⟩
              · replace h := h.2 hb
                clear hb
                refine wp_exit ?_
                exact J2 all5_3 whole6_4 _ _ (hs.to ⟨rfl, rfl, rfl, rfl, rfl, rfl, trivial⟩) h
            clear hK25
            refine wp_region_lit ?_
            refine t_pure hs rfl rfl (by decide) (p_move rfl rfl) ?_
            clear hs a; intro a hs
            refine t_pure hs rfl rfl (by decide) (p_move rfl rfl) ?_
            clear hs a; intro a hs
            refine t_pure hs rfl rfl (by decide) (p_len rfl rfl sl_22) ?_
            clear hs a; intro a hs
            refine t_pure hs rfl rfl (by decide) (p_lt rfl rfl rfl) ?_
            clear hs a; intro a hs
            refine t_pure hs rfl rfl (by decide) (p_move rfl rfl) ?_
            clear hs a; intro a hs
            refine split_bool (decide (at9_3 < (t35.n : Int))) (fun hb => ?_) (fun hb => ?_)
            · replace h := h.1 hb
              rw [hb] at hs
              clear hb
              refine t_yes hs rfl ?_
              refine t_pure hs rfl rfl (by decide) (p_move rfl rfl) ?_
              clear hs a; intro a hs
              refine t_pure hs rfl rfl (by decide) (p_pick_t rfl rfl rfl) ?_
              clear hs a; intro a hs
              exact J4 whole6_3 whole6_3 _ _ (hs.to ⟨rfl, rfl, rfl, rfl, rfl, rfl, rfl, rfl, rfl, trivial⟩) h
            · replace h := h.2 hb
              rw [hb] at hs
              clear hb
              refine t_no hs rfl rfl (by decide) ?_
              clear hs a; intro a hs
              refine t_pure hs rfl rfl (by decide) (p_pick_f rfl rfl rfl) ?_
              clear hs a; intro a hs
              exact J4 whole6_3 false _ _ (hs.to ⟨rfl, rfl, rfl, rfl, rfl, rfl, rfl, rfl, rfl, trivial⟩) h
        · replace h := h.2 hb
          clear hb
          refine wp_exit ?_
          refine hK13 _ _ ?_
          refine wp_seq_k fun K31 hK31 => ?_
          refine wp_region_lit ?_
          refine t_pure hs rfl rfl (by decide) (p_move rfl rfl) ?_
          clear hs a; intro a hs
          refine t_call hs rfl rfl (by decide) (e_call rfl rfl rfl cb_28) h ?_
          clear hs a h
          intro v a w hk hs
          obtain ⟨t75x0, t75x1, rfl, h⟩ := hk
          refine t_pure hs rfl rfl (by decide) (p_move rfl rfl) ?_
          clear hs a; intro a hs
          refine t_pure hs rfl rfl (by decide) (p_extract rfl rfl rfl) ?_
          clear hs a; intro a hs
          refine t_pure hs rfl rfl (by decide) (p_extract rfl rfl rfl) ?_
          clear hs a; intro a hs
          refine t_pure hs rfl rfl (by decide) (p_assign rfl rfl) ?_
          clear hs a; intro a hs
          refine t_pure hs rfl rfl (by decide) (p_assign rfl rfl) ?_
          clear hs a; intro a hs
          refine hK31 _ _ ?_
          refine wp_seq_k fun K32 hK32 => ?_
          refine wp_seq_k fun K33 hK33 => ?_
          have J5 : ∀ (t90_5 : Bool) (a : Act) (w : World), Slots a 115 [(3, (.pointer t23x0)), (5, (Sl.val all5_1)), (13, (.pointer t75x0)), (90, (.bool t90_5))] → law04_WalAny.s5 Q X1 t23x0 all5_1 t75x0 t90_5 w → K33 a w := by
            clear h hs
            intro t90_5 a w hs h
            refine hK33 _ _ ?_
            unfold law04_WalAny.s5 at h
            refine c_cond hs rfl (fun hb => ?_) (fun hb => ?_)
            · replace h := h.1 hb
              clear hb
              refine wp_seq_k fun K34 hK34 => ?_
              refine wp_region_lit ?_
              refine t_pure hs rfl rfl (by decide) (p_assign rfl rfl) ?_
              clear hs a; intro a hs
              refine hK34 _ _ ?_
              refine wp_ret ?_
              refine f_ret (fn := Try.f7) hs (fun a hs => r_one hs rfl (rfl)) ⟨false, rfl, h⟩
            · replace h := h.2 hb
              clear hb
              refine wp_skip ?_
              refine hK32 _ _ ?_
              refine wp_seq_k fun K35 hK35 => ?_
              refine wp_region_lit ?_
              refine t_pure hs rfl rfl (by decide) (p_move rfl rfl) ?_
              clear hs a; intro a hs
              refine t_call hs rfl rfl (by decide) (e_call rfl rfl rfl cb_28) h ?_
              clear hs a h
              intro v a w hk hs
              obtain ⟨t93x0, t93x1, rfl, h⟩ := hk
              refine t_pure hs rfl rfl (by decide) (p_move rfl rfl) ?_
              clear hs a; intro a hs
              refine t_pure hs rfl rfl (by decide) (p_extract rfl rfl rfl) ?_
              clear hs a; intro a hs
              refine t_pure hs rfl rfl (by decide) (p_extract rfl rfl rfl) ?_
              clear hs a; intro a hs
              refine t_pure hs rfl rfl (by decide) (p_assign rfl rfl) ?_
              clear hs a; intro a hs
              refine t_pure hs rfl rfl (by decide) (p_assign rfl rfl) ?_
              clear hs a; intro a hs
              refine hK35 _ _ ?_
              refine wp_seq_k fun K36 hK36 => ?_
              have J6 : ∀ (t2_6 : Bool) (a : Act) (w : World), Slots a 115 [(2, (.bool t2_6))] → law04_WalAny.s6 Q X1 t2_6 w → K36 a w := by
                clear h hs
                intro t2_6 a w hs h
                refine hK36 _ _ ?_
                unfold law04_WalAny.s6 at h
                refine wp_ret ?_
                refine f_ret (fn := Try.f7) hs (fun a hs => r_one hs rfl (rfl)) ⟨t2_6, rfl, h⟩
              clear hK36
              refine wp_region_lit ?_
              refine t_pure hs rfl rfl (by decide) (p_move rfl rfl) ?_
              clear hs a; intro a hs
              refine t_pure hs rfl rfl (by decide) (p_ne_nil rfl rfl rfl Try.underlying60) ?_
              clear hs a; intro a hs
              refine t_pure hs rfl rfl (by decide) (p_move rfl rfl) ?_
              clear hs a; intro a hs
              refine split_bool (!(t93x0).isNone) (fun hb => ?_) (fun hb => ?_)
              · replace h := h.1 hb
                rw [hb] at hs
                clear hb
                refine t_yes hs rfl ?_
                refine t_pure hs rfl rfl (by decide) (p_move rfl rfl) ?_
                clear hs a; intro a hs
                refine t_yes hs rfl ?_
                refine t_pure hs rfl rfl (by decide) (p_eq rfl rfl rfl) ?_
                clear hs a; intro a hs
                refine t_pure hs rfl rfl (by decide) (p_pick_t rfl rfl rfl) ?_
                clear hs a; intro a hs
                refine t_pure hs rfl rfl (by decide) (p_move rfl rfl) ?_
                clear hs a; intro a hs
                refine split_bool (decide (t93x1 = 0)) (fun hb => ?_) (fun hb => ?_)
                · replace h := h.1 hb
                  rw [hb] at hs
                  clear hb
                  refine t_yes hs rfl ?_
                  refine t_pure hs rfl rfl (by decide) (p_move rfl rfl) ?_
                  clear hs a; intro a hs
                  replace hs := hs.to (τ := [(5, (Sl.val all5_1)), (13, (.pointer t75x0)), (15, (.pointer t93x0)), (102, (.bool true)), (103, (.pointer t93x0))]) ⟨rfl, rfl, rfl, rfl, rfl, trivial⟩
                  refine t_yes hs rfl ?_
                  refine t_call hs rfl rfl (by decide) (e_call rfl rfl rfl cb_30) h ?_
                  clear hs a h
                  intro v a w hk hs
                  obtain ⟨t104, rfl, h⟩ := hk
                  refine t_yes hs rfl ?_
                  refine t_pure hs rfl rfl (by decide) (p_move rfl rfl) ?_
                  clear hs a; intro a hs
                  refine t_yes hs rfl ?_
                  refine t_call hs rfl rfl (by decide) (e_call rfl rfl rfl cb_33) h ?_
                  clear hs a h
                  intro v a w hk hs
                  obtain ⟨t106, rfl, h⟩ := hk
                  refine t_pure hs rfl rfl (by decide) (p_pick_t rfl rfl rfl) ?_
                  clear hs a; intro a hs
                  refine t_pure hs rfl rfl (by decide) (p_move rfl rfl) ?_
                  clear hs a; intro a hs
                  refine split_bool t106 (fun hb => ?_) (fun hb => ?_)
                  · replace h := h.1 hb
                    rw [hb] at hs
                    clear hb
                    refine t_yes hs rfl ?_
                    refine t_pure hs rfl rfl (by decide) (p_move rfl rfl) ?_
                    clear hs a; intro a hs
                    refine t_yes hs rfl ?_
                    refine t_call hs rfl rfl (by decide) (e_call rfl rfl rfl cb_38) h ?_
                    clear hs a h
                    intro v a w hk hs
                    obtain ⟨t110, rfl, h⟩ := hk
                    refine t_yes hs rfl ?_
                    refine t_pure hs rfl rfl (by decide) (p_move rfl rfl) ?_
                    clear hs a; intro a hs
                    replace hs := hs.to (τ := [(108, (.bool true)), (110, (.int .i64 t110)), (111, (.pointer t75x0))]) ⟨rfl, rfl, rfl, trivial⟩
                    refine t_yes hs rfl ?_
                    refine t_call hs rfl rfl (by decide) (e_call rfl rfl rfl cb_38) h ?_
                    clear hs a h
                    intro v a w hk hs
                    obtain ⟨t112, rfl, h⟩ := hk
                    refine t_yes hs rfl ?_
                    refine t_pure hs rfl rfl (by decide) (p_eq rfl rfl rfl) ?_
                    clear hs a; intro a hs
                    refine t_pure hs rfl rfl (by decide) (p_pick_t rfl rfl rfl) ?_
                    clear hs a; intro a hs
                    refine t_pure hs rfl rfl (by decide) (p_assign rfl rfl) ?_
                    clear hs a; intro a hs
                    exact J6 (decide (t110 = t112)) _ _ (hs.to ⟨rfl, trivial⟩) h
                  · replace h := h.2 hb
                    rw [hb] at hs
                    clear hb
                    refine t_no hs rfl rfl (by decide) ?_
                    clear hs a; intro a hs
                    refine t_no hs rfl rfl (by decide) ?_
                    clear hs a; intro a hs
                    refine t_no hs rfl rfl (by decide) ?_
                    clear hs a; intro a hs
                    replace hs := hs.to (τ := [(108, (.bool false)), (110, undef), (111, undef)]) ⟨rfl, rfl, rfl, trivial⟩
                    refine t_no hs rfl rfl (by decide) ?_
                    clear hs a; intro a hs
                    refine t_no hs rfl rfl (by decide) ?_
                    clear hs a; intro a hs
                    refine t_pure hs rfl rfl (by decide) (p_pick_f rfl rfl rfl) ?_
                    clear hs a; intro a hs
                    refine t_pure hs rfl rfl (by decide) (p_assign rfl rfl) ?_
                    clear hs a; intro a hs
                    exact J6 false _ _ (hs.to ⟨rfl, trivial⟩) h
                · replace h := h.2 hb
                  rw [hb] at hs
                  clear hb
                  refine t_no hs rfl rfl (by decide) ?_
                  clear hs a; intro a hs
                  replace hs := hs.to (τ := [(5, (Sl.val all5_1)), (13, (.pointer t75x0)), (15, (.pointer t93x0)), (102, (.bool false)), (103, undef)]) ⟨rfl, rfl, rfl, rfl, rfl, trivial⟩
                  refine t_no hs rfl rfl (by decide) ?_
                  clear hs a; intro a hs
                  refine t_no hs rfl rfl (by decide) ?_
                  clear hs a; intro a hs
                  refine t_no hs rfl rfl (by decide) ?_
                  clear hs a; intro a hs
                  refine t_pure hs rfl rfl (by decide) (p_pick_f rfl rfl rfl) ?_
                  clear hs a; intro a hs
                  refine t_pure hs rfl rfl (by decide) (p_move rfl rfl) ?_
                  clear hs a; intro a hs
                  refine t_no hs rfl rfl (by decide) ?_
                  clear hs a; intro a hs
                  refine t_no hs rfl rfl (by decide) ?_
                  clear hs a; intro a hs
                  refine t_no hs rfl rfl (by decide) ?_
                  clear hs a; intro a hs
                  replace hs := hs.to (τ := [(108, (.bool false)), (110, undef), (111, undef)]) ⟨rfl, rfl, rfl, trivial⟩
                  refine t_no hs rfl rfl (by decide) ?_
                  clear hs a; intro a hs
                  refine t_no hs rfl rfl (by decide) ?_
                  clear hs a; intro a hs
                  refine t_pure hs rfl rfl (by decide) (p_pick_f rfl rfl rfl) ?_
                  clear hs a; intro a hs
                  refine t_pure hs rfl rfl (by decide) (p_assign rfl rfl) ?_
                  clear hs a; intro a hs
                  exact J6 false _ _ (hs.to ⟨rfl, trivial⟩) h
              · replace h := h.2 hb
                rw [hb] at hs
                clear hb
                refine t_no hs rfl rfl (by decide) ?_
                clear hs a; intro a hs
                refine t_no hs rfl rfl (by decide) ?_
                clear hs a; intro a hs
                refine t_pure hs rfl rfl (by decide) (p_pick_f rfl rfl rfl) ?_
                clear hs a; intro a hs
                refine t_pure hs rfl rfl (by decide) (p_move rfl rfl) ?_
                clear hs a; intro a hs
                refine t_no hs rfl rfl (by decide) ?_
                clear hs a; intro a hs
                replace hs := hs.to (τ := [(5, (Sl.val all5_1)), (13, (.pointer t75x0)), (15, (.pointer t93x0)), (102, (.bool false)), (103, undef)]) ⟨rfl, rfl, rfl, rfl, rfl, trivial⟩
                refine t_no hs rfl rfl (by decide) ?_
                clear hs a; intro a hs
                refine t_no hs rfl rfl (by decide) ?_
                clear hs a; intro a hs
                refine t_no hs rfl rfl (by decide) ?_
                clear hs a; intro a hs
                refine t_pure hs rfl rfl (by decide) (p_pick_f rfl rfl rfl) ?_
                clear hs a; intro a hs
                refine t_pure hs rfl rfl (by decide) (p_move rfl rfl) ?_
                clear hs a; intro a hs
                refine t_no hs rfl rfl (by decide) ?_
                clear hs a; intro a hs
                refine t_no hs rfl rfl (by decide) ?_
                clear hs a; intro a hs
                refine t_no hs rfl rfl (by decide) ?_
                clear hs a; intro a hs
                replace hs := hs.to (τ := [(108, (.bool false)), (110, undef), (111, undef)]) ⟨rfl, rfl, rfl, trivial⟩
                refine t_no hs rfl rfl (by decide) ?_
                clear hs a; intro a hs
                refine t_no hs rfl rfl (by decide) ?_
                clear hs a; intro a hs
                refine t_pure hs rfl rfl (by decide) (p_pick_f rfl rfl rfl) ?_
                clear hs a; intro a hs
                refine t_pure hs rfl rfl (by decide) (p_assign rfl rfl) ?_
                clear hs a; intro a hs
                exact J6 false _ _ (hs.to ⟨rfl, trivial⟩) h
          clear hK33
          refine wp_region_lit ?_
          refine t_pure hs rfl rfl (by decide) (p_move rfl rfl) ?_
          clear hs a; intro a hs
          refine t_pure hs rfl rfl (by decide) (p_eq_nil rfl rfl rfl Try.underlying60) ?_
          clear hs a; intro a hs
          refine t_pure hs rfl rfl (by decide) (p_move rfl rfl) ?_
          clear hs a; intro a hs
          refine split_bool ((t75x0).isNone) (fun hb => ?_) (fun hb => ?_)
          · replace h := h.1 hb
            rw [hb] at hs
            clear hb
            refine t_no hs rfl rfl (by decide) ?_
            clear hs a; intro a hs
            refine t_no hs rfl rfl (by decide) ?_
            clear hs a; intro a hs
            refine t_pure hs rfl rfl (by decide) (p_pick_t rfl rfl rfl) ?_
            clear hs a; intro a hs
            refine t_pure hs rfl rfl (by decide) (p_move rfl rfl) ?_
            clear hs a; intro a hs
            refine t_no hs rfl rfl (by decide) ?_
            clear hs a; intro a hs
            replace hs := hs.to (τ := [(3, (.pointer t23x0)), (5, (Sl.val all5_1)), (13, (.pointer t75x0)), (84, (.bool true)), (85, undef)]) ⟨rfl, rfl, rfl, rfl, rfl, trivial⟩
            refine t_no hs rfl rfl (by decide) ?_
            clear hs a; intro a hs
            refine t_no hs rfl rfl (by decide) ?_
            clear hs a; intro a hs
            refine t_no hs rfl rfl (by decide) ?_
            clear hs a; intro a hs
            refine t_no hs rfl rfl (by decide) ?_
            clear hs a; intro a hs
            refine t_pure hs rfl rfl (by decide) (p_pick_t rfl rfl rfl) ?_
            clear hs a; intro a hs
            exact J5 true _ _ (hs.to ⟨rfl, rfl, rfl, rfl, trivial⟩) h
          · replace h := h.2 hb
            rw [hb] at hs
            clear hb
            refine t_yes hs rfl ?_
            refine t_pure hs rfl rfl (by decide) (p_move rfl rfl) ?_
            clear hs a; intro a hs
            refine t_yes hs rfl ?_
            refine t_pure hs rfl rfl (by decide) (p_ne rfl rfl rfl) ?_
            clear hs a; intro a hs
            refine t_pure hs rfl rfl (by decide) (p_pick_f rfl rfl rfl) ?_
            clear hs a; intro a hs
            refine t_pure hs rfl rfl (by decide) (p_move rfl rfl) ?_
            clear hs a; intro a hs
            refine split_bool (decide (t75x1 ≠ 0)) (fun hb => ?_) (fun hb => ?_)
            · replace h := h.1 hb
              rw [hb] at hs
              clear hb
              refine t_no hs rfl rfl (by decide) ?_
              clear hs a; intro a hs
              replace hs := hs.to (τ := [(3, (.pointer t23x0)), (5, (Sl.val all5_1)), (13, (.pointer t75x0)), (84, (.bool true)), (85, undef)]) ⟨rfl, rfl, rfl, rfl, rfl, trivial⟩
              refine t_no hs rfl rfl (by decide) ?_
              clear hs a; intro a hs
              refine t_no hs rfl rfl (by decide) ?_
              clear hs a; intro a hs
              refine t_no hs rfl rfl (by decide) ?_
              clear hs a; intro a hs
              refine t_no hs rfl rfl (by decide) ?_
              clear hs a; intro a hs
              refine t_pure hs rfl rfl (by decide) (p_pick_t rfl rfl rfl) ?_
              clear hs a; intro a hs
              exact J5 true _ _ (hs.to ⟨rfl, rfl, rfl, rfl, trivial⟩) h
            · replace h := h.2 hb
              rw [hb] at hs
              clear hb
              refine t_yes hs rfl ?_
              refine t_pure hs rfl rfl (by decide) (p_move rfl rfl) ?_
              clear hs a; intro a hs
              replace hs := hs.to (τ := [(3, (.pointer t23x0)), (5, (Sl.val all5_1)), (13, (.pointer t75x0)), (84, (.bool false)), (85, (.pointer t75x0))]) ⟨rfl, rfl, rfl, rfl, rfl, trivial⟩
              refine t_yes hs rfl ?_
              refine t_call hs rfl rfl (by decide) (e_call rfl rfl rfl cb_30) h ?_
              clear hs a h
              intro v a w hk hs
              obtain ⟨t86, rfl, h⟩ := hk
              refine t_yes hs rfl ?_
              refine t_pure hs rfl rfl (by decide) (p_move rfl rfl) ?_
              clear hs a; intro a hs
              refine t_yes hs rfl ?_
              refine t_call hs rfl rfl (by decide) (e_call rfl rfl rfl cb_33) h ?_
              clear hs a h
              intro v a w hk hs
              obtain ⟨t88, rfl, h⟩ := hk
              refine t_yes hs rfl ?_
              refine t_pure hs rfl rfl (by decide) (p_not rfl rfl) ?_
              clear hs a; intro a hs
              refine t_pure hs rfl rfl (by decide) (p_pick_f rfl rfl rfl) ?_
              clear hs a; intro a hs
              exact J5 (!t88) _ _ (hs.to ⟨rfl, rfl, rfl, rfl, trivial⟩) h
end Go.Proofs.Ytdpepgjbambinaa
