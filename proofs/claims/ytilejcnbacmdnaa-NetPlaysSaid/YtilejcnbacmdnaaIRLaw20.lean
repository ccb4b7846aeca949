/- Plain forms of functions, and that their code comes to them (package law20). -/
import Derived.Test.YtilejcnbacmdnaaCalls
namespace Go.Proofs.Ytilejcnbacmdnaa
open Go Go.Sep
set_option linter.unusedVariables false
set_option linter.unusedSimpArgs false
set_option maxRecDepth 100000
set_option maxHeartbeats 4000000
def law20_NetWhole.s4 (Q : Bool → K) (X2 : Int → K) (X3 : Int → Int → K) (list0_4 : Sl) (n5_4 : (Option Addr)) (count8_4 : Int) (t48_4 : Sl) (t49_4 : Int) (t50_4 : Int) : K :=
  Ar (IntKind.wrap .i64 (t50_4 + 1)) fun t59 =>
  X3 count8_4 t59
def law20_NetWhole.s8 (Q : Bool → K) (X2 : Int → K) (X3 : Int → Int → K) (X5 : Int → K) (X7 : Bool → Int → K) (list0_8 : Sl) (n5_8 : (Option Addr)) (count8_8 : Int) (met11_8 : Int) (p12_8 : Addr) (found14_8 : Bool) (t87_8 : Sl) (t88_8 : Int) (t89_8 : Int) : K :=
  Ar (IntKind.wrap .i64 (t89_8 + 1)) fun t99 =>
  X7 found14_8 t99
def law20_NetWhole.b7 (Q : Bool → K) (X2 : Int → K) (X3 : Int → Int → K) (X5 : Int → K) (X7 : Bool → Int → K) (list0_7 : Sl) (n5_7 : (Option Addr)) (count8_7 : Int) (met11_7 : Int) (p12_7 : Addr) (t87_7 : Sl) (t88_7 : Int) (found14_7 : Bool) (t89_7 : Int) : K :=
  Ite (decide (t89_7 < t88_7))
    (Idx t87_7 t89_7 7 fun t91 =>
    LdN t91 7 fun t92 =>
    New 38 #[(.int .i64 0), (.int .i64 0), (.int .u64 0), (.int .u64 0), (.int .u64 0), (.int .u64 0), (Sl.val ⟨none, 0, 0⟩)] fun x16 =>
    StN x16 7 t92 <|
    Ite found14_7
      (law20_NetWhole.s8 Q X2 X3 X5 X7 list0_7 n5_7 count8_7 met11_7 p12_7 true t87_7 t88_7 t89_7)
      (LdN p12_7 7 fun t95 =>
      LdN x16 7 fun t96 =>
      ref20_Same.call t95 t96 fun t97 =>
      law20_NetWhole.s8 Q X2 X3 X5 X7 list0_7 n5_7 count8_7 met11_7 p12_7 t97 t87_7 t88_7 t89_7))
    (Ite (!found14_7)
      (Q false)
      (Ar (IntKind.wrap .i64 (met11_7 + 1)) fun t64 =>
      X5 t64))
def law20_NetWhole.s6 (Q : Bool → K) (X2 : Int → K) (X3 : Int → Int → K) (X5 : Int → K) (list0_6 : Sl) (n5_6 : (Option Addr)) (count8_6 : Int) (met11_6 : Int) (p12_6 : Addr) (t86_6 : Bool) : K :=
  Ite t86_6
    (Q false)
    (LoopK (α := Bool × Int) (fun X x => law20_NetWhole.b7 Q X2 X3 X5 (fun found14_7 t89_7 => X (found14_7, t89_7)) list0_6 n5_6 count8_6 met11_6 p12_6 list0_6 (list0_6.n : Int) x.1 x.2) (false, 0))
def law20_NetWhole.b5 (Q : Bool → K) (X2 : Int → K) (X3 : Int → Int → K) (X5 : Int → K) (list0_5 : Sl) (n5_5 : (Option Addr)) (count8_5 : Int) (met11_5 : Int) : K :=
  net_Net_Len.call n5_5 fun t61 =>
  Ite (decide ((0 : Int) < t61))
    (net_Net_Take.call n5_5 0 fun t67x0 t67x1 =>
    New 38 #[(.int .i64 0), (.int .i64 0), (.int .u64 0), (.int .u64 0), (.int .u64 0), (.int .u64 0), (Sl.val ⟨none, 0, 0⟩)] fun p12 =>
    StN p12 7 t67x0 <|
    Dr <|
    Ite (!t67x1)
      (law20_NetWhole.s6 Q X2 X3 X5 list0_5 n5_5 count8_5 met11_5 p12 true)
      (Ite (decide (met11_5 < (list0_5.n : Int)))
        (Idx list0_5 met11_5 7 fun t81 =>
        LdN p12 7 fun t78 =>
        LdN t81 7 fun t82 =>
        ref20_Same.call t78 t82 fun t83 =>
        law20_NetWhole.s6 Q X2 X3 X5 list0_5 n5_5 count8_5 met11_5 p12 (!t83))
        (law20_NetWhole.s6 Q X2 X3 X5 list0_5 n5_5 count8_5 met11_5 p12 false)))
    (Q (decide (met11_5 = count8_5)))
def law20_NetWhole.b3 (Q : Bool → K) (X2 : Int → K) (X3 : Int → Int → K) (list0_3 : Sl) (n5_3 : (Option Addr)) (t48_3 : Sl) (t49_3 : Int) (count8_3 : Int) (t50_3 : Int) : K :=
  Ite (decide (t50_3 < t49_3))
    (Idx t48_3 t50_3 1 fun t52 =>
    Ld t52 (Value.int .i64) fun t53 =>
    net_Net_Copy.call n5_3 t53 fun t56 =>
    Ite t56
      (Ar (IntKind.wrap .i64 (count8_3 + 1)) fun t58 =>
      law20_NetWhole.s4 Q X2 X3 list0_3 n5_3 t58 t48_3 t49_3 t50_3)
      (law20_NetWhole.s4 Q X2 X3 list0_3 n5_3 count8_3 t48_3 t49_3 t50_3))
    (LoopK (α := Int) (fun X x => law20_NetWhole.b5 Q X2 X3 X list0_3 n5_3 count8_3 x) 0)
def law20_NetWhole.b2 (Q : Bool → K)  (X2 : Int → K) (list0_2 : Sl) (copies1_2 : Sl) (n5_2 : (Option Addr)) (t30_2 : Sl) (t31_2 : Int) (t32_2 : Int) : K :=
  Ite (decide (t32_2 < t31_2))
    (Idx t30_2 t32_2 7 fun t34 =>
    LdN t34 7 fun t35 =>
    New 38 #[(.int .i64 0), (.int .i64 0), (.int .u64 0), (.int .u64 0), (.int .u64 0), (.int .u64 0), (Sl.val ⟨none, 0, 0⟩)] fun p7 =>
    StN p7 7 t35 <|
    Ld ((p7.add 2).add 4) Sl.val fun t38 =>
    Ite (decide ((500 : Int) < (t38.n : Int)))
      (Q true)
      (LdN p7 7 fun t42 =>
      net_Net_Send.call n5_2 t42 fun t43 =>
      Ite (decide (t43 ≠ 0))
        (Q false)
        (Ar (IntKind.wrap .i64 (t32_2 + 1)) fun t45 =>
        X2 t45)))
    (LoopK (α := Int × Int) (fun X x => law20_NetWhole.b3 Q X2 (fun count8_3 t50_3 => X (count8_3, t50_3)) list0_2 n5_2 copies1_2 (copies1_2.n : Int) x.1 x.2) ((list0_2.n : Int), 0))
def law20_NetWhole.s1 (Q : Bool → K)  (list0_1 : Sl) (copies1_1 : Sl) (t26_1 : Bool) : K :=
  Ite t26_1
    (Q true)
    (net_New.call  fun t27 =>
    Ite ((t27).isNone)
      (Q false)
      (LoopK (α := Int) (fun X x => law20_NetWhole.b2 Q X list0_1 copies1_1 t27 list0_1 (list0_1.n : Int) x) 0))
def law20_NetWhole (list0 : Sl) (copies1 : Sl) (Q : Bool → K) : K :=
  law20_speaks.call  fun t17 =>
  Ite (!t17)
    (Q false)
    (Ite (decide ((50 : Int) < (list0.n : Int)))
      (law20_NetWhole.s1 Q list0 copies1 true)
      (law20_NetWhole.s1 Q list0 copies1 (decide ((50 : Int) < (copies1.n : Int)))))
theorem law20_NetWhole_ok (list0 : Sl) (copies1 : Sl) (Q : Bool → K) (w : World) (h : law20_NetWhole list0 copies1 Q w) : law20_NetWhole.call list0 copies1 Q w := by
  unfold law20_NetWhole.call CallF
  refine f_start (args := [(Sl.val list0), (Sl.val copies1)]) Try.func4 rfl (Nat.le_of_ble_eq_true rfl) ?_
  intro a hs
  unfold law20_NetWhole at h
  refine wp_seq_k fun K1 hK1 => ?_
  refine wp_region_lit ?_
  refine t_pure hs rfl rfl (by decide) (p_assign rfl rfl) ?_
  clear hs a
  intro a hs
  refine hK1 _ _ ?_
  refine wp_seq_k fun K2 hK2 => ?_
  refine wp_seq_k fun K3 hK3 => ?_
  refine wp_region_lit ?_
  refine t_call hs rfl rfl (by decide) (e_call rfl rfl rfl cb_17) h ?_
  clear hs a h
  intro v a w hk hs
  obtain ⟨t17, rfl, h⟩ := hk
  refine t_pure hs rfl rfl (by decide) (p_not rfl rfl) ?_
  clear hs a
  intro a hs
  refine hK3 _ _ ?_
  refine c_cond hs rfl (fun hb => ?_) (fun hb => ?_)
  · replace h := h.1 hb
    clear hb
    refine wp_seq_k fun K4 hK4 => ?_
    refine wp_region_lit ?_
    refine t_pure hs rfl rfl (by decide) (p_assign rfl rfl) ?_
    clear hs a
    intro a hs
    refine hK4 _ _ ?_
    refine wp_ret ?_
    refine f_ret (fn := Try.f4) hs (fun a hs => r_one hs rfl (rfl)) ⟨false, rfl, h⟩
  · replace h := h.2 hb
    clear hb
    refine wp_skip ?_
    refine hK2 _ _ ?_
    refine wp_seq_k fun K5 hK5 => ?_
    refine wp_seq_k fun K6 hK6 => ?_
    have J1 : ∀ (t26_1 : Bool) (a : Act) (w : World), Slots a 105 [(0, (Sl.val list0)), (1, (Sl.val copies1)), (26, (.bool t26_1))] → law20_NetWhole.s1 Q list0 copies1 t26_1 w → K6 a w := by
      clear h hs
      intro t26_1 a w hs h
      refine hK6 _ _ ?_
      unfold law20_NetWhole.s1 at h
      refine c_cond hs rfl (fun hb => ?_) (fun hb => ?_)
      · replace h := h.1 hb
        clear hb
        refine wp_seq_k fun K7 hK7 => ?_
        refine wp_region_lit ?_
        refine t_pure hs rfl rfl (by decide) (p_assign rfl rfl) ?_
        clear hs a
        intro a hs
        refine hK7 _ _ ?_
        refine wp_ret ?_
        refine f_ret (fn := Try.f4) hs (fun a hs => r_one hs rfl (rfl)) ⟨true, rfl, h⟩
      · replace h := h.2 hb
        clear hb
        refine wp_skip ?_
        refine hK5 _ _ ?_
        refine wp_seq_k fun K8 hK8 => ?_
        refine wp_region_lit ?_
        refine t_call hs rfl rfl (by decide) (e_call rfl rfl rfl cb_18) h ?_
        clear hs a h
        intro v a w hk hs
        obtain ⟨t27, rfl, h⟩ := hk
        refine t_pure hs rfl rfl (by decide) (p_assign rfl rfl) ?_
        clear hs a
        intro a hs
        refine hK8 _ _ ?_
        refine wp_seq_k fun K9 hK9 => ?_
        refine wp_seq_k fun K10 hK10 => ?_
        refine wp_region_lit ?_
        refine t_pure hs rfl rfl (by decide) (p_move rfl rfl) ?_
        clear hs a
        intro a hs
        refine t_pure hs rfl rfl (by decide) (p_eq_nil rfl rfl rfl Try.underlying33) ?_
        clear hs a
        intro a hs
        refine hK10 _ _ ?_
        refine c_cond hs rfl (fun hb => ?_) (fun hb => ?_)
        · replace h := h.1 hb
          clear hb
          refine wp_seq_k fun K11 hK11 => ?_
          refine wp_region_lit ?_
          refine t_pure hs rfl rfl (by decide) (p_assign rfl rfl) ?_
          clear hs a
          intro a hs
          refine hK11 _ _ ?_
          refine wp_ret ?_
          refine f_ret (fn := Try.f4) hs (fun a hs => r_one hs rfl (rfl)) ⟨false, rfl, h⟩
        · replace h := h.2 hb
          clear hb
          refine wp_skip ?_
          refine hK9 _ _ ?_
          refine wp_seq_k fun K12 hK12 => ?_
          refine wp_seq_k fun K13 hK13 => ?_
          refine wp_region_lit ?_
          refine t_pure hs rfl rfl (by decide) (p_move rfl rfl) ?_
          clear hs a
          intro a hs
          refine t_pure hs rfl rfl (by decide) (p_len rfl rfl sl_31) ?_
          clear hs a
          intro a hs
          refine t_pure hs rfl rfl (by decide) (p_move rfl rfl) ?_
          clear hs a
          intro a hs
          refine hK13 _ _ ?_
          refine wp_block ?_
          obtain ⟨I2, μ2, h0, hr⟩ := h
          refine c_loop (α := Int) I2 μ2 (fun x a => Slots a 105 [(0, (Sl.val list0)), (1, (Sl.val copies1)), (5, (.pointer t27)), (30, (Sl.val list0)), (31, (.int .i64 (list0.n : Int))), (32, (.int .i64 x))]) 0 h0 (hs.to ⟨rfl, rfl, rfl, rfl, rfl, rfl, trivial⟩) ?_
          clear h0 hs a
          intro t32_2 a w hI hs
          have h : law20_NetWhole.b2 Q (fun t32_2n w' => I2 t32_2n w' ∧ μ2 t32_2n w' < μ2 t32_2 w) list0 copies1 t27 list0 (list0.n : Int) t32_2 w := hr t32_2 w hI
          clear hr hI
          generalize hX2 : (fun t32_2n w' => I2 t32_2n w' ∧ μ2 t32_2n w' < μ2 t32_2 w) = X2 at h
          unfold law20_NetWhole.b2 at h
          replace hs : Slots a 105 [(0, (Sl.val list0)), (1, (Sl.val copies1)), (5, (.pointer t27)), (30, (Sl.val list0)), (31, (.int .i64 (list0.n : Int))), (32, (.int .i64 t32_2))] := hs
          refine wp_seq_k fun K14 hK14 => ?_
          refine wp_region_lit ?_
          refine t_pure hs rfl rfl (by decide) (p_lt rfl rfl rfl) ?_
          clear hs a
          intro a hs
          refine hK14 _ _ ?_
          refine wp_seq_k fun K15 hK15 => ?_
          refine c_cond hs rfl (fun hb => ?_) (fun hb => ?_)
          · replace h := h.1 hb
            clear hb
            refine wp_skip ?_
            refine hK15 _ _ ?_
            refine wp_seq_k fun K16 hK16 => ?_
            refine wp_block ?_
            refine wp_seq_k fun K17 hK17 => ?_
            refine wp_region_lit ?_
            obtain ⟨qt34, t34, ha, h0, h1, he, h⟩ := h
            refine t_pure hs rfl rfl (by decide) (Pure.adr he (p_idx rfl rfl rfl sl_31 ha h0 h1)) ?_
            clear hs a ha h0 h1 he
            intro a hs
            obtain ⟨t35, hn, hv, h⟩ := h
            refine t_eff hs rfl rfl (by decide) (e_loadN rfl rfl at_38 hn hv) ?_
            clear hs a hn hv
            intro a hs
            obtain ⟨p7, w1, ha, hw, h⟩ := h
            refine t_eff hs rfl rfl (by decide) (e_alloc rfl zt_38 rfl ha hw) ?_
            clear hs a ha hw
            intro a hs
            obtain ⟨w1, hw, hn, hc, hv, h⟩ := h
            refine t_skip hs rfl rfl (e_storeN rfl rfl rfl sz_38 hw hn hc hv) ?_
            clear hs a hw hn hc hv
            intro a hs
            refine hK17 _ _ ?_
            refine wp_seq_k fun K18 hK18 => ?_
            refine wp_seq_k fun K19 hK19 => ?_
            refine wp_region_lit ?_
            refine t_pure hs rfl rfl (by decide) (p_fieldAddr rfl rfl ft_38_2) ?_
            clear hs a
            intro a hs
            refine t_pure hs rfl rfl (by decide) (p_fieldAddr rfl rfl ft_36_4) ?_
            clear hs a
            intro a hs
            obtain ⟨t38, hv, h⟩ := h
            refine t_eff hs rfl rfl (by decide) (e_load rfl rfl ct_22 hv) ?_
            clear hs a hv
            intro a hs
            refine t_pure hs rfl rfl (by decide) (p_len rfl rfl sl_22) ?_
            clear hs a
            intro a hs
            refine t_pure hs rfl rfl (by decide) (p_gt rfl rfl rfl) ?_
            clear hs a
            intro a hs
            refine hK19 _ _ ?_
            refine c_cond hs rfl (fun hb => ?_) (fun hb => ?_)
            · replace h := h.1 hb
              clear hb
              refine wp_seq_k fun K20 hK20 => ?_
              refine wp_region_lit ?_
              refine t_pure hs rfl rfl (by decide) (p_assign rfl rfl) ?_
              clear hs a
              intro a hs
              refine hK20 _ _ ?_
              refine wp_ret ?_
              refine f_ret (fn := Try.f4) hs (fun a hs => r_one hs rfl (rfl)) ⟨true, rfl, h⟩
            · replace h := h.2 hb
              clear hb
              refine wp_skip ?_
              refine hK18 _ _ ?_
              refine wp_seq_k fun K21 hK21 => ?_
              refine wp_region_lit ?_
              refine t_pure hs rfl rfl (by decide) (p_move rfl rfl) ?_
              clear hs a
              intro a hs
              obtain ⟨t42, hn, hv, h⟩ := h
              refine t_eff hs rfl rfl (by decide) (e_loadN rfl rfl at_38 hn hv) ?_
              clear hs a hn hv
              intro a hs
              refine t_call hs rfl rfl (by decide) (e_call rfl rfl rfl cb_19) h ?_
              clear hs a h
              intro v a w hk hs
              obtain ⟨t43, rfl, h⟩ := hk
              refine t_pure hs rfl rfl (by decide) (p_ne rfl rfl rfl) ?_
              clear hs a
              intro a hs
              refine hK21 _ _ ?_
              refine c_cond hs rfl (fun hb => ?_) (fun hb => ?_)
              · replace h := h.1 hb
                clear hb
                refine wp_seq_k fun K22 hK22 => ?_
                refine wp_region_lit ?_
                refine t_pure hs rfl rfl (by decide) (p_assign rfl rfl) ?_
                clear hs a
                intro a hs
                refine hK22 _ _ ?_
                refine wp_ret ?_
                refine f_ret (fn := Try.f4) hs (fun a hs => r_one hs rfl (rfl)) ⟨false, rfl, h⟩
              · replace h := h.2 hb
                clear hb
                refine wp_skip ?_
                refine hK16 _ _ ?_
                refine wp_region_lit ?_
                obtain ⟨t45, he, h⟩ := h
                refine t_pure hs rfl rfl (by decide) (Pure.int he (p_add rfl rfl rfl)) ?_
                clear hs a he
                intro a hs
                refine t_pure hs rfl rfl (by decide) (p_move rfl rfl) ?_
                clear hs a
                intro a hs
                rw [← hX2] at h
                exact ⟨t45, hs.to ⟨rfl, rfl, rfl, rfl, rfl, rfl, trivial⟩, h⟩
          · replace h := h.2 hb
            clear hb
            refine wp_exit ?_
            refine hK12 _ _ ?_
            refine wp_seq_k fun K23 hK23 => ?_
            refine wp_region_lit ?_
            refine t_pure hs rfl rfl (by decide) (p_move rfl rfl) ?_
            clear hs a
            intro a hs
            refine t_pure hs rfl rfl (by decide) (p_len rfl rfl sl_31) ?_
            clear hs a
            intro a hs
            refine t_pure hs rfl rfl (by decide) (p_assign rfl rfl) ?_
            clear hs a
            intro a hs
            refine hK23 _ _ ?_
            refine wp_seq_k fun K24 hK24 => ?_
            refine wp_seq_k fun K25 hK25 => ?_
            refine wp_region_lit ?_
            refine t_pure hs rfl rfl (by decide) (p_move rfl rfl) ?_
            clear hs a
            intro a hs
            refine t_pure hs rfl rfl (by decide) (p_len rfl rfl sl_32) ?_
            clear hs a
            intro a hs
            refine t_pure hs rfl rfl (by decide) (p_move rfl rfl) ?_
            clear hs a
            intro a hs
            refine hK25 _ _ ?_
            refine wp_block ?_
            obtain ⟨I3, μ3, h0, hr⟩ := h
            refine c_loop (α := Int × Int) I3 μ3 (fun x a => Slots a 105 [(0, (Sl.val list0)), (5, (.pointer t27)), (8, (.int .i64 x.1)), (48, (Sl.val copies1)), (49, (.int .i64 (copies1.n : Int))), (50, (.int .i64 x.2))]) ((list0.n : Int), 0) h0 (hs.to ⟨rfl, rfl, rfl, rfl, rfl, rfl, trivial⟩) ?_
            clear h0 hs a
            rintro ⟨count8_3, t50_3⟩ a w hI hs
            have h : law20_NetWhole.b3 Q X2 (fun count8_3n t50_3n w' => I3 (count8_3n, t50_3n) w' ∧ μ3 (count8_3n, t50_3n) w' < μ3 (count8_3, t50_3) w) list0 t27 copies1 (copies1.n : Int) count8_3 t50_3 w := hr (count8_3, t50_3) w hI
            clear hr hI
            generalize hX3 : (fun count8_3n t50_3n w' => I3 (count8_3n, t50_3n) w' ∧ μ3 (count8_3n, t50_3n) w' < μ3 (count8_3, t50_3) w) = X3 at h
            unfold law20_NetWhole.b3 at h
            replace hs : Slots a 105 [(0, (Sl.val list0)), (5, (.pointer t27)), (8, (.int .i64 count8_3)), (48, (Sl.val copies1)), (49, (.int .i64 (copies1.n : Int))), (50, (.int .i64 t50_3))] := hs
            refine wp_seq_k fun K26 hK26 => ?_
            refine wp_region_lit ?_
            refine t_pure hs rfl rfl (by decide) (p_lt rfl rfl rfl) ?_
            clear hs a
            intro a hs
            refine hK26 _ _ ?_
            refine wp_seq_k fun K27 hK27 => ?_
            refine c_cond hs rfl (fun hb => ?_) (fun hb => ?_)
            · replace h := h.1 hb
              clear hb
              refine wp_skip ?_
              refine hK27 _ _ ?_
              refine wp_seq_k fun K28 hK28 => ?_
              have J4 : ∀ (count8_4 : Int) (a : Act) (w : World), Slots a 105 [(0, (Sl.val list0)), (5, (.pointer t27)), (8, (.int .i64 count8_4)), (48, (Sl.val copies1)), (49, (.int .i64 (copies1.n : Int))), (50, (.int .i64 t50_3))] → law20_NetWhole.s4 Q X2 X3 list0 t27 count8_4 copies1 (copies1.n : Int) t50_3 w → K28 a w := by
                clear h hs
                intro count8_4 a w hs h
                refine hK28 _ _ ?_
                unfold law20_NetWhole.s4 at h
                refine wp_region_lit ?_
                obtain ⟨t59, he, h⟩ := h
                refine t_pure hs rfl rfl (by decide) (Pure.int he (p_add rfl rfl rfl)) ?_
                clear hs a he
                intro a hs
                refine t_pure hs rfl rfl (by decide) (p_move rfl rfl) ?_
                clear hs a
                intro a hs
                rw [← hX3] at h
                exact ⟨(count8_4, t59), hs.to ⟨rfl, rfl, rfl, rfl, rfl, rfl, trivial⟩, h⟩
              clear hK28
              refine wp_block ?_
              refine wp_seq_k fun K29 hK29 => ?_
              refine wp_region_lit ?_
              obtain ⟨qt52, t52, ha, h0, h1, he, h⟩ := h
              refine t_pure hs rfl rfl (by decide) (Pure.adr he (p_idx rfl rfl rfl sl_32 ha h0 h1)) ?_
              clear hs a ha h0 h1 he
              intro a hs
              obtain ⟨t53, hv, h⟩ := h
              refine t_eff hs rfl rfl (by decide) (e_load rfl rfl ct_3 hv) ?_
              clear hs a hv
              intro a hs
              refine t_pure hs rfl rfl (by decide) (p_assign rfl rfl) ?_
              clear hs a
              intro a hs
              refine hK29 _ _ ?_
              refine wp_seq_k fun K30 hK30 => ?_
              refine wp_region_lit ?_
              refine t_pure hs rfl rfl (by decide) (p_move rfl rfl) ?_
              clear hs a
              intro a hs
              refine t_pure hs rfl rfl (by decide) (p_move rfl rfl) ?_
              clear hs a
              intro a hs
              refine t_call hs rfl rfl (by decide) (e_call rfl rfl rfl cb_20) h ?_
              clear hs a h
              intro v a w hk hs
              obtain ⟨t56, rfl, h⟩ := hk
              refine hK30 _ _ ?_
              refine c_cond hs rfl (fun hb => ?_) (fun hb => ?_)
              · replace h := h.1 hb
                clear hb
                refine wp_region_lit ?_
                refine t_pure hs rfl rfl (by decide) (p_move rfl rfl) ?_
                clear hs a
                intro a hs
                obtain ⟨t58, he, h⟩ := h
                refine t_pure hs rfl rfl (by decide) (Pure.int he (p_add rfl rfl rfl)) ?_
                clear hs a he
                intro a hs
                refine t_pure hs rfl rfl (by decide) (p_assign rfl rfl) ?_
                clear hs a
                intro a hs
                exact J4 t58 _ _ (hs.to ⟨rfl, rfl, rfl, rfl, rfl, rfl, trivial⟩) h
              · replace h := h.2 hb
                clear hb
                refine wp_skip ?_
                exact J4 count8_3 _ _ (hs.to ⟨rfl, rfl, rfl, rfl, rfl, rfl, trivial⟩) h
            · replace h := h.2 hb
              clear hb
              refine wp_exit ?_
              refine hK24 _ _ ?_
              refine wp_seq_k fun K31 hK31 => ?_
              refine wp_region_lit ?_
              refine t_pure hs rfl rfl (by decide) (p_assign rfl rfl) ?_
              clear hs a
              intro a hs
              refine hK31 _ _ ?_
              refine wp_seq_k fun K32 hK32 => ?_
              refine wp_block ?_
              obtain ⟨I5, μ5, h0, hr⟩ := h
              refine c_loop (α := Int) I5 μ5 (fun x a => Slots a 105 [(0, (Sl.val list0)), (5, (.pointer t27)), (8, (.int .i64 count8_3)), (11, (.int .i64 x))]) 0 h0 (hs.to ⟨rfl, rfl, rfl, rfl, trivial⟩) ?_
              clear h0 hs a
              intro met11_5 a w hI hs
              have h : law20_NetWhole.b5 Q X2 X3 (fun met11_5n w' => I5 met11_5n w' ∧ μ5 met11_5n w' < μ5 met11_5 w) list0 t27 count8_3 met11_5 w := hr met11_5 w hI
              clear hr hI
              generalize hX5 : (fun met11_5n w' => I5 met11_5n w' ∧ μ5 met11_5n w' < μ5 met11_5 w) = X5 at h
              unfold law20_NetWhole.b5 at h
              replace hs : Slots a 105 [(0, (Sl.val list0)), (5, (.pointer t27)), (8, (.int .i64 count8_3)), (11, (.int .i64 met11_5))] := hs
              refine wp_seq_k fun K33 hK33 => ?_
              refine wp_seq_k fun K34 hK34 => ?_
              refine wp_region_lit ?_
              refine t_pure hs rfl rfl (by decide) (p_move rfl rfl) ?_
              clear hs a
              intro a hs
              refine t_call hs rfl rfl (by decide) (e_call rfl rfl rfl cb_21) h ?_
              clear hs a h
              intro v a w hk hs
              obtain ⟨t61, rfl, h⟩ := hk
              refine t_pure hs rfl rfl (by decide) (p_gt rfl rfl rfl) ?_
              clear hs a
              intro a hs
              refine hK34 _ _ ?_
              refine c_cond hs rfl (fun hb => ?_) (fun hb => ?_)
              · replace h := h.1 hb
                clear hb
                refine wp_skip ?_
                refine hK33 _ _ ?_
                refine wp_seq_k fun K35 hK35 => ?_
                refine wp_block ?_
                refine wp_seq_k fun K36 hK36 => ?_
                refine wp_region_lit ?_
                refine t_pure hs rfl rfl (by decide) (p_move rfl rfl) ?_
                clear hs a
                intro a hs
                refine t_call hs rfl rfl (by decide) (e_call rfl rfl rfl cb_22) h ?_
                clear hs a h
                intro v a w hk hs
                obtain ⟨t67x0, t67x1, rfl, h⟩ := hk
                refine t_pure hs rfl rfl (by decide) (p_move rfl rfl) ?_
                clear hs a
                intro a hs
                refine t_pure hs rfl rfl (by decide) (p_extract rfl rfl rfl) ?_
                clear hs a
                intro a hs
                refine t_pure hs rfl rfl (by decide) (p_extract rfl rfl rfl) ?_
                clear hs a
                intro a hs
                obtain ⟨p12, w1, ha, hw, h⟩ := h
                refine t_eff hs rfl rfl (by decide) (e_alloc rfl zt_38 rfl ha hw) ?_
                clear hs a ha hw
                intro a hs
                obtain ⟨w1, hw, hn, hc, hv, h⟩ := h
                refine t_skip hs rfl rfl (e_storeN rfl rfl rfl sz_38 hw hn hc hv) ?_
                clear hs a hw hn hc hv
                intro a hs
                refine t_pure hs rfl rfl (by decide) (p_assign rfl rfl) ?_
                clear hs a
                intro a hs
                refine hK36 _ _ ?_
                refine wp_seq_k fun K37 hK37 => ?_
                refine wp_seq_k fun K38 hK38 => ?_
                have J6 : ∀ (t86_6 : Bool) (a : Act) (w : World), Slots a 105 [(0, (Sl.val list0)), (5, (.pointer t27)), (8, (.int .i64 count8_3)), (11, (.int .i64 met11_5)), (12, (.pointer (some p12))), (86, (.bool t86_6))] → law20_NetWhole.s6 Q X2 X3 X5 list0 t27 count8_3 met11_5 p12 t86_6 w → K38 a w := by
                  clear h hs
                  intro t86_6 a w hs h
                  refine hK38 _ _ ?_
                  unfold law20_NetWhole.s6 at h
                  refine c_cond hs rfl (fun hb => ?_) (fun hb => ?_)
                  · replace h := h.1 hb
                    clear hb
                    refine wp_seq_k fun K39 hK39 => ?_
                    refine wp_region_lit ?_
                    refine t_pure hs rfl rfl (by decide) (p_assign rfl rfl) ?_
                    clear hs a
                    intro a hs
                    refine hK39 _ _ ?_
                    refine wp_ret ?_
                    refine f_ret (fn := Try.f4) hs (fun a hs => r_one hs rfl (rfl)) ⟨false, rfl, h⟩
                  · replace h := h.2 hb
                    clear hb
                    refine wp_skip ?_
                    refine hK37 _ _ ?_
                    refine wp_seq_k fun K40 hK40 => ?_
                    refine wp_region_lit ?_
                    refine t_pure hs rfl rfl (by decide) (p_assign rfl rfl) ?_
                    clear hs a
                    intro a hs
                    refine hK40 _ _ ?_
                    refine wp_seq_k fun K41 hK41 => ?_
                    refine wp_seq_k fun K42 hK42 => ?_
                    refine wp_region_lit ?_
                    refine t_pure hs rfl rfl (by decide) (p_move rfl rfl) ?_
                    clear hs a
                    intro a hs
                    refine t_pure hs rfl rfl (by decide) (p_len rfl rfl sl_31) ?_
                    clear hs a
                    intro a hs
                    refine t_pure hs rfl rfl (by decide) (p_move rfl rfl) ?_
                    clear hs a
                    intro a hs
                    refine hK42 _ _ ?_
                    refine wp_block ?_
                    obtain ⟨I7, μ7, h0, hr⟩ := h
                    refine c_loop (α := Bool × Int) I7 μ7 (fun x a => Slots a 105 [(0, (Sl.val list0)), (5, (.pointer t27)), (8, (.int .i64 count8_3)), (11, (.int .i64 met11_5)), (12, (.pointer (some p12))), (14, (.bool x.1)), (87, (Sl.val list0)), (88, (.int .i64 (list0.n : Int))), (89, (.int .i64 x.2))]) (false, 0) h0 (hs.to ⟨rfl, rfl, rfl, rfl, rfl, rfl, rfl, rfl, rfl, trivial⟩) ?_
                    clear h0 hs a
                    rintro ⟨found14_7, t89_7⟩ a w hI hs
                    have h : law20_NetWhole.b7 Q X2 X3 X5 (fun found14_7n t89_7n w' => I7 (found14_7n, t89_7n) w' ∧ μ7 (found14_7n, t89_7n) w' < μ7 (found14_7, t89_7) w) list0 t27 count8_3 met11_5 p12 list0 (list0.n : Int) found14_7 t89_7 w := hr (found14_7, t89_7) w hI
                    clear hr hI
                    generalize hX7 : (fun found14_7n t89_7n w' => I7 (found14_7n, t89_7n) w' ∧ μ7 (found14_7n, t89_7n) w' < μ7 (found14_7, t89_7) w) = X7 at h
                    unfold law20_NetWhole.b7 at h
                    replace hs : Slots a 105 [(0, (Sl.val list0)), (5, (.pointer t27)), (8, (.int .i64 count8_3)), (11, (.int .i64 met11_5)), (12, (.pointer (some p12))), (14, (.bool found14_7)), (87, (Sl.val list0)), (88, (.int .i64 (list0.n : Int))), (89, (.int .i64 t89_7))] := hs
                    refine wp_seq_k fun K43 hK43 => ?_
                    refine wp_region_lit ?_
                    refine t_pure hs rfl rfl (by decide) (p_lt rfl rfl rfl) ?_
                    clear hs a
                    intro a hs
                    refine hK43 _ _ ?_
                    refine wp_seq_k fun K44 hK44 => ?_
                    refine c_cond hs rfl (fun hb => ?_) (fun hb => ?_)
                    · replace h := h.1 hb
                      clear hb
                      refine wp_skip ?_
                      refine hK44 _ _ ?_
                      refine wp_seq_k fun K45 hK45 => ?_
                      have J8 : ∀ (found14_8 : Bool) (a : Act) (w : World), Slots a 105 [(0, (Sl.val list0)), (5, (.pointer t27)), (8, (.int .i64 count8_3)), (11, (.int .i64 met11_5)), (12, (.pointer (some p12))), (14, (.bool found14_8)), (87, (Sl.val list0)), (88, (.int .i64 (list0.n : Int))), (89, (.int .i64 t89_7))] → law20_NetWhole.s8 Q X2 X3 X5 X7 list0 t27 count8_3 met11_5 p12 found14_8 list0 (list0.n : Int) t89_7 w → K45 a w := by
                        clear h hs
                        intro found14_8 a w hs h
                        refine hK45 _ _ ?_
                        unfold law20_NetWhole.s8 at h
                        refine wp_region_lit ?_
                        obtain ⟨t99, he, h⟩ := h
                        refine t_pure hs rfl rfl (by decide) (Pure.int he (p_add rfl rfl rfl)) ?_
                        clear hs a he
                        intro a hs
                        refine t_pure hs rfl rfl (by decide) (p_move rfl rfl) ?_
                        clear hs a
                        intro a hs
                        rw [← hX7] at h
                        exact ⟨(found14_8, t99), hs.to ⟨rfl, rfl, rfl, rfl, rfl, rfl, rfl, rfl, rfl, trivial⟩, h⟩
                      clear hK45
                      refine wp_block ?_
                      refine wp_seq_k fun K46 hK46 => ?_
                      refine wp_region_lit ?_
                      obtain ⟨qt91, t91, ha, h0, h1, he, h⟩ := h
                      refine t_pure hs rfl rfl (by decide) (Pure.adr he (p_idx rfl rfl rfl sl_31 ha h0 h1)) ?_
                      clear hs a ha h0 h1 he
                      intro a hs
                      obtain ⟨t92, hn, hv, h⟩ := h
                      refine t_eff hs rfl rfl (by decide) (e_loadN rfl rfl at_38 hn hv) ?_
                      clear hs a hn hv
                      intro a hs
                      obtain ⟨x16, w1, ha, hw, h⟩ := h
                      refine t_eff hs rfl rfl (by decide) (e_alloc rfl zt_38 rfl ha hw) ?_
                      clear hs a ha hw
                      intro a hs
                      obtain ⟨w1, hw, hn, hc, hv, h⟩ := h
                      refine t_skip hs rfl rfl (e_storeN rfl rfl rfl sz_38 hw hn hc hv) ?_
                      clear hs a hw hn hc hv
                      intro a hs
                      refine hK46 _ _ ?_
                      refine wp_region_lit ?_
                      refine t_pure hs rfl rfl (by decide) (p_move rfl rfl) ?_
                      clear hs a
                      intro a hs
                      refine t_pure hs rfl rfl (by decide) (p_move rfl rfl) ?_
                      clear hs a
                      intro a hs
                      refine split_bool found14_7 (fun hb => ?_) (fun hb => ?_)
                      · replace h := h.1 hb
                        rw [hb] at hs
                        clear hb
                        refine t_no hs rfl rfl (by decide) ?_
                        clear hs a
                        intro a hs
                        refine t_no hs rfl rfl (by decide) ?_
                        clear hs a
                        intro a hs
                        refine t_no hs rfl rfl (by decide) ?_
                        clear hs a
                        intro a hs
                        refine t_pure hs rfl rfl (by decide) (p_pick_t rfl rfl rfl) ?_
                        clear hs a
                        intro a hs
                        refine t_pure hs rfl rfl (by decide) (p_assign rfl rfl) ?_
                        clear hs a
                        intro a hs
                        exact J8 true _ _ (hs.to ⟨rfl, rfl, rfl, rfl, rfl, rfl, rfl, rfl, rfl, trivial⟩) h
                      · replace h := h.2 hb
                        rw [hb] at hs
                        clear hb
                        refine t_yes hs rfl ?_
                        obtain ⟨t95, hn, hv, h⟩ := h
                        refine t_eff hs rfl rfl (by decide) (e_loadN rfl rfl at_38 hn hv) ?_
                        clear hs a hn hv
                        intro a hs
                        refine t_yes hs rfl ?_
                        obtain ⟨t96, hn, hv, h⟩ := h
                        refine t_eff hs rfl rfl (by decide) (e_loadN rfl rfl at_38 hn hv) ?_
                        clear hs a hn hv
                        intro a hs
                        refine t_yes hs rfl ?_
                        refine t_call hs rfl rfl (by decide) (e_call rfl rfl rfl cb_23) h ?_
                        clear hs a h
                        intro v a w hk hs
                        obtain ⟨t97, rfl, h⟩ := hk
                        refine t_pure hs rfl rfl (by decide) (p_pick_f rfl rfl rfl) ?_
                        clear hs a
                        intro a hs
                        refine t_pure hs rfl rfl (by decide) (p_assign rfl rfl) ?_
                        clear hs a
                        intro a hs
                        exact J8 t97 _ _ (hs.to ⟨rfl, rfl, rfl, rfl, rfl, rfl, rfl, rfl, rfl, trivial⟩) h
                    · replace h := h.2 hb
                      clear hb
                      refine wp_exit ?_
                      refine hK41 _ _ ?_
                      refine wp_seq_k fun K47 hK47 => ?_
                      refine wp_region_lit ?_
                      refine t_pure hs rfl rfl (by decide) (p_move rfl rfl) ?_
                      clear hs a
                      intro a hs
                      refine t_pure hs rfl rfl (by decide) (p_not rfl rfl) ?_
                      clear hs a
                      intro a hs
                      refine hK47 _ _ ?_
                      refine c_cond hs rfl (fun hb => ?_) (fun hb => ?_)
                      · replace h := h.1 hb
                        clear hb
                        refine wp_seq_k fun K48 hK48 => ?_
                        refine wp_region_lit ?_
                        refine t_pure hs rfl rfl (by decide) (p_assign rfl rfl) ?_
                        clear hs a
                        intro a hs
                        refine hK48 _ _ ?_
                        refine wp_ret ?_
                        refine f_ret (fn := Try.f4) hs (fun a hs => r_one hs rfl (rfl)) ⟨false, rfl, h⟩
                      · replace h := h.2 hb
                        clear hb
                        refine wp_skip ?_
                        refine hK35 _ _ ?_
                        refine wp_region_lit ?_
                        refine t_pure hs rfl rfl (by decide) (p_move rfl rfl) ?_
                        clear hs a
                        intro a hs
                        obtain ⟨t64, he, h⟩ := h
                        refine t_pure hs rfl rfl (by decide) (Pure.int he (p_add rfl rfl rfl)) ?_
                        clear hs a he
                        intro a hs
                        refine t_pure hs rfl rfl (by decide) (p_assign rfl rfl) ?_
                        clear hs a
                        intro a hs
                        rw [← hX5] at h
                        exact ⟨t64, hs.to ⟨rfl, rfl, rfl, rfl, trivial⟩, h⟩
                clear hK38
                obtain ⟨w1, hw1, h⟩ := h
                refine d_start (S := Is w1) (ds := [13]) #[false, false, false, false, false, false, false, false, false, false, false, false, false, false, false, false, false] mixed rfl rfl ?_
                rw [← hw1]
                have hS := Is.intro w1
                clear hw1
                refine d_pure hs #[true, false, false, false, false, false, false, false, false, false, false, false, false, false, false, false, false] (i := 0) rfl rfl rfl (by decide) (by kernel_rfl) (tight_body (P := Try.prog) (fn := Try.f4)) (p_move rfl rfl) ?_
                clear hs a
                intro a hs
                refine d_pure hs #[true, true, false, false, false, false, false, false, false, false, false, false, false, false, false, false, false] (i := 1) rfl rfl rfl (by decide) (by kernel_rfl) (tight_body (P := Try.prog) (fn := Try.f4)) (p_not rfl rfl) ?_
                clear hs a
                intro a hs
                refine d_pure hs #[true, true, true, false, false, false, false, false, false, false, false, false, false, false, false, false, false] (i := 2) rfl rfl rfl (by decide) (by kernel_rfl) (tight_body (P := Try.prog) (fn := Try.f4)) (p_move rfl rfl) ?_
                clear hs a
                intro a hs
                refine split_bool (!t67x1) (fun hb => ?_) (fun hb => ?_)
                · replace h := h.1 hb
                  rw [hb] at hs
                  clear hb
                  refine d_no hs #[true, true, true, true, false, false, false, false, false, false, false, false, false, false, false, false, false] (i := 3) rfl rfl rfl (by decide) (by kernel_rfl) (tight_body (P := Try.prog) (fn := Try.f4)) ?_
                  clear hs a
                  intro a hs
                  refine d_no hs #[true, true, true, true, true, false, false, false, false, false, false, false, false, false, false, false, false] (i := 4) rfl rfl rfl (by decide) (by kernel_rfl) (tight_body (P := Try.prog) (fn := Try.f4)) ?_
                  clear hs a
                  intro a hs
                  refine d_no hs #[true, true, true, true, true, true, false, false, false, false, false, false, false, false, false, false, false] (i := 5) rfl rfl rfl (by decide) (by kernel_rfl) (tight_body (P := Try.prog) (fn := Try.f4)) ?_
                  clear hs a
                  intro a hs
                  refine d_no hs #[true, true, true, true, true, true, true, false, false, false, false, false, false, false, false, false, false] (i := 6) rfl rfl rfl (by decide) (by kernel_rfl) (tight_body (P := Try.prog) (fn := Try.f4)) ?_
                  clear hs a
                  intro a hs
                  refine d_no hs #[true, true, true, true, true, true, true, true, false, false, false, false, false, false, false, false, false] (i := 7) rfl rfl rfl (by decide) (by kernel_rfl) (tight_body (P := Try.prog) (fn := Try.f4)) ?_
                  clear hs a
                  intro a hs
                  replace hs := hs.to (τ := [(0, (Sl.val list0)), (5, (.pointer t27)), (8, (.int .i64 count8_3)), (11, (.int .i64 met11_5)), (12, (.pointer (some p12))), (72, (.bool true)), (77, undef)]) ⟨rfl, rfl, rfl, rfl, rfl, rfl, rfl, trivial⟩
                  refine d_no hs #[true, true, true, true, true, true, true, true, true, false, false, false, false, false, false, false, false] (i := 8) rfl rfl rfl (by decide) (by kernel_rfl) (tight_body (P := Try.prog) (fn := Try.f4)) ?_
                  clear hs a
                  intro a hs
                  refine d_no hs #[true, true, true, true, true, true, true, true, true, true, false, false, false, false, false, false, false] (i := 9) rfl rfl rfl (by decide) (by kernel_rfl) (tight_body (P := Try.prog) (fn := Try.f4)) ?_
                  clear hs a
                  intro a hs
                  refine d_no hs #[true, true, true, true, true, true, true, true, true, true, true, false, false, false, false, false, false] (i := 10) rfl rfl rfl (by decide) (by kernel_rfl) (tight_body (P := Try.prog) (fn := Try.f4)) ?_
                  clear hs a
                  intro a hs
                  refine d_no hs #[true, true, true, true, true, true, true, true, true, true, true, true, false, false, false, false, false] (i := 11) rfl rfl rfl (by decide) (by kernel_rfl) (tight_body (P := Try.prog) (fn := Try.f4)) ?_
                  clear hs a
                  intro a hs
                  refine d_no hs #[true, true, true, true, true, true, true, true, true, true, true, true, true, false, false, false, false] (i := 12) rfl rfl rfl (by decide) (by kernel_rfl) (tight_body (P := Try.prog) (fn := Try.f4)) ?_
                  clear hs a
                  intro a hs
                  refine d_no hs #[true, true, true, true, true, true, true, true, true, true, true, true, true, true, false, false, false] (i := 13) rfl rfl rfl (by decide) (by kernel_rfl) (tight_body (P := Try.prog) (fn := Try.f4)) ?_
                  clear hs a
                  intro a hs
                  refine d_no hs #[true, true, true, true, true, true, true, true, true, true, true, true, true, true, true, false, false] (i := 14) rfl rfl rfl (by decide) (by kernel_rfl) (tight_body (P := Try.prog) (fn := Try.f4)) ?_
                  clear hs a
                  intro a hs
                  refine d_no hs #[true, true, true, true, true, true, true, true, true, true, true, true, true, true, true, true, false] (i := 15) rfl rfl rfl (by decide) (by kernel_rfl) (tight_body (P := Try.prog) (fn := Try.f4)) ?_
                  clear hs a
                  intro a hs
                  replace hs := hs.to (τ := [(0, (Sl.val list0)), (5, (.pointer t27)), (8, (.int .i64 count8_3)), (11, (.int .i64 met11_5)), (12, (.pointer (some p12))), (72, (.bool true)), (85, undef)]) ⟨rfl, rfl, rfl, rfl, rfl, rfl, rfl, trivial⟩
                  refine d_pure hs #[true, true, true, true, true, true, true, true, true, true, true, true, true, true, true, true, true] (i := 16) rfl rfl rfl (by decide) (by kernel_rfl) (tight_body (P := Try.prog) (fn := Try.f4)) (p_pick_t rfl rfl rfl) ?_
                  clear hs a
                  intro a hs
                  refine d_done (by kernel_rfl) ?_ _
                  clear hS
                  exact J6 true _ _ (hs.to ⟨rfl, rfl, rfl, rfl, rfl, rfl, trivial⟩) h
                · replace h := h.2 hb
                  rw [hb] at hs
                  clear hb
                  refine d_pure hs #[true, true, true, true, false, false, false, false, false, false, false, false, false, false, false, false, false] (i := 3) rfl rfl rfl (by decide) (by kernel_rfl) (tight_body (P := Try.prog) (fn := Try.f4)) (p_move rfl rfl) ?_
                  clear hs a
                  intro a hs
                  refine d_pure hs #[true, true, true, true, true, false, false, false, false, false, false, false, false, false, false, false, false] (i := 4) rfl rfl rfl (by decide) (by kernel_rfl) (tight_body (P := Try.prog) (fn := Try.f4)) (p_move rfl rfl) ?_
                  clear hs a
                  intro a hs
                  refine d_pure hs #[true, true, true, true, true, true, false, false, false, false, false, false, false, false, false, false, false] (i := 5) rfl rfl rfl (by decide) (by kernel_rfl) (tight_body (P := Try.prog) (fn := Try.f4)) (p_len rfl rfl sl_31) ?_
                  clear hs a
                  intro a hs
                  refine d_pure hs #[true, true, true, true, true, true, true, false, false, false, false, false, false, false, false, false, false] (i := 6) rfl rfl rfl (by decide) (by kernel_rfl) (tight_body (P := Try.prog) (fn := Try.f4)) (p_lt rfl rfl rfl) ?_
                  clear hs a
                  intro a hs
                  refine d_pure hs #[true, true, true, true, true, true, true, true, false, false, false, false, false, false, false, false, false] (i := 7) rfl rfl rfl (by decide) (by kernel_rfl) (tight_body (P := Try.prog) (fn := Try.f4)) (p_move rfl rfl) ?_
                  clear hs a
                  intro a hs
                  replace hs := hs.to (τ := [(0, (Sl.val list0)), (5, (.pointer t27)), (8, (.int .i64 count8_3)), (11, (.int .i64 met11_5)), (12, (.pointer (some p12))), (72, (.bool false)), (77, (.bool (decide (met11_5 < (list0.n : Int)))))]) ⟨rfl, rfl, rfl, rfl, rfl, rfl, rfl, trivial⟩
                  refine split_bool (decide (met11_5 < (list0.n : Int))) (fun hb => ?_) (fun hb => ?_)
                  · replace h := h.1 hb
                    rw [hb] at hs
                    clear hb
                    refine d_pure hs #[true, true, true, true, true, true, true, true, false, true, false, false, false, false, false, false, false] (i := 9) rfl rfl rfl (by decide) (by kernel_rfl) (tight_body (P := Try.prog) (fn := Try.f4)) (p_move rfl rfl) ?_
                    clear hs a
                    intro a hs
                    refine d_pure hs #[true, true, true, true, true, true, true, true, false, true, true, false, false, false, false, false, false] (i := 10) rfl rfl rfl (by decide) (by kernel_rfl) (tight_body (P := Try.prog) (fn := Try.f4)) (p_move rfl rfl) ?_
                    clear hs a
                    intro a hs
                    obtain ⟨qt81, t81, ha, h0, h1, he, h⟩ := h
                    refine d_pure hs #[true, true, true, true, true, true, true, true, false, true, true, true, false, false, false, false, false] (i := 11) rfl rfl rfl (by decide) (by kernel_rfl) (tight_body (P := Try.prog) (fn := Try.f4)) (Pure.adr he (p_idx rfl rfl rfl sl_31 ha h0 h1)) ?_
                    clear hs a ha h0 h1 he
                    intro a hs
                    obtain ⟨t78, hn, hv, h⟩ := h
                    refine d_read hs #[true, true, true, true, true, true, true, true, true, true, true, true, false, false, false, false, false] (i := 8) rfl rfl rfl (by decide) (by kernel_rfl) (by kernel_rfl) (tight_body (P := Try.prog) (fn := Try.f4)) hS (fun w h' => by have h1 := h'.out; subst h1; exact e_loadN rfl rfl at_38 hn hv) ?_
                    clear hs a hn hv
                    intro a hs
                    obtain ⟨t82, hn, hv, h⟩ := h
                    refine d_read hs #[true, true, true, true, true, true, true, true, true, true, true, true, true, false, false, false, false] (i := 12) rfl rfl rfl (by decide) (by kernel_rfl) (by kernel_rfl) (tight_body (P := Try.prog) (fn := Try.f4)) hS (fun w h' => by have h1 := h'.out; subst h1; exact e_loadN rfl rfl at_38 hn hv) ?_
                    clear hs a hn hv
                    intro a hs
                    refine d_all [13] (by kernel_rfl) (by decide) ?_
                    refine AllS.cons ?_ AllS.nil
                    refine d_call hs #[true, true, true, true, true, true, true, true, true, true, true, true, true, true, false, false, false] (i := 13) rfl rfl rfl (by decide) rfl (e_call rfl rfl rfl cb_23) h (fun _ _ _ hn => (hn (by decide)).elim) ?_
                    clear hs a h
                    intro v a w hk hs
                    obtain ⟨t83, rfl, h⟩ := hk
                    refine d_pure hs #[true, true, true, true, true, true, true, true, true, true, true, true, true, true, true, false, false] (i := 14) rfl rfl rfl (by decide) (by kernel_rfl) (tight_body (P := Try.prog) (fn := Try.f4)) (p_not rfl rfl) ?_
                    clear hs a
                    intro a hs
                    refine d_pure hs #[true, true, true, true, true, true, true, true, true, true, true, true, true, true, true, true, false] (i := 15) rfl rfl rfl (by decide) (by kernel_rfl) (tight_body (P := Try.prog) (fn := Try.f4)) (p_pick_t rfl rfl rfl) ?_
                    clear hs a
                    intro a hs
                    replace hs := hs.to (τ := [(0, (Sl.val list0)), (5, (.pointer t27)), (8, (.int .i64 count8_3)), (11, (.int .i64 met11_5)), (12, (.pointer (some p12))), (72, (.bool false)), (85, (.bool (!t83)))]) ⟨rfl, rfl, rfl, rfl, rfl, rfl, rfl, trivial⟩
                    refine d_pure hs #[true, true, true, true, true, true, true, true, true, true, true, true, true, true, true, true, true] (i := 16) rfl rfl rfl (by decide) (by kernel_rfl) (tight_body (P := Try.prog) (fn := Try.f4)) (p_pick_f rfl rfl rfl) ?_
                    clear hs a
                    intro a hs
                    refine d_done (by kernel_rfl) ?_ _
                    clear hS
                    exact J6 (!t83) _ _ (hs.to ⟨rfl, rfl, rfl, rfl, rfl, rfl, trivial⟩) h
                  · replace h := h.2 hb
                    rw [hb] at hs
                    clear hb
                    refine d_no hs #[true, true, true, true, true, true, true, true, true, false, false, false, false, false, false, false, false] (i := 8) rfl rfl rfl (by decide) (by kernel_rfl) (tight_body (P := Try.prog) (fn := Try.f4)) ?_
                    clear hs a
                    intro a hs
                    refine d_no hs #[true, true, true, true, true, true, true, true, true, true, false, false, false, false, false, false, false] (i := 9) rfl rfl rfl (by decide) (by kernel_rfl) (tight_body (P := Try.prog) (fn := Try.f4)) ?_
                    clear hs a
                    intro a hs
                    refine d_no hs #[true, true, true, true, true, true, true, true, true, true, true, false, false, false, false, false, false] (i := 10) rfl rfl rfl (by decide) (by kernel_rfl) (tight_body (P := Try.prog) (fn := Try.f4)) ?_
                    clear hs a
                    intro a hs
                    refine d_no hs #[true, true, true, true, true, true, true, true, true, true, true, true, false, false, false, false, false] (i := 11) rfl rfl rfl (by decide) (by kernel_rfl) (tight_body (P := Try.prog) (fn := Try.f4)) ?_
                    clear hs a
                    intro a hs
                    refine d_no hs #[true, true, true, true, true, true, true, true, true, true, true, true, true, false, false, false, false] (i := 12) rfl rfl rfl (by decide) (by kernel_rfl) (tight_body (P := Try.prog) (fn := Try.f4)) ?_
                    clear hs a
                    intro a hs
                    refine d_no hs #[true, true, true, true, true, true, true, true, true, true, true, true, true, true, false, false, false] (i := 13) rfl rfl rfl (by decide) (by kernel_rfl) (tight_body (P := Try.prog) (fn := Try.f4)) ?_
                    clear hs a
                    intro a hs
                    refine d_no hs #[true, true, true, true, true, true, true, true, true, true, true, true, true, true, true, false, false] (i := 14) rfl rfl rfl (by decide) (by kernel_rfl) (tight_body (P := Try.prog) (fn := Try.f4)) ?_
                    clear hs a
                    intro a hs
                    refine d_pure hs #[true, true, true, true, true, true, true, true, true, true, true, true, true, true, true, true, false] (i := 15) rfl rfl rfl (by decide) (by kernel_rfl) (tight_body (P := Try.prog) (fn := Try.f4)) (p_pick_f rfl rfl rfl) ?_
                    clear hs a
                    intro a hs
                    replace hs := hs.to (τ := [(0, (Sl.val list0)), (5, (.pointer t27)), (8, (.int .i64 count8_3)), (11, (.int .i64 met11_5)), (12, (.pointer (some p12))), (72, (.bool false)), (85, (.bool false))]) ⟨rfl, rfl, rfl, rfl, rfl, rfl, rfl, trivial⟩
                    refine d_pure hs #[true, true, true, true, true, true, true, true, true, true, true, true, true, true, true, true, true] (i := 16) rfl rfl rfl (by decide) (by kernel_rfl) (tight_body (P := Try.prog) (fn := Try.f4)) (p_pick_f rfl rfl rfl) ?_
                    clear hs a
                    intro a hs
                    refine d_done (by kernel_rfl) ?_ _
                    clear hS
                    exact J6 false _ _ (hs.to ⟨rfl, rfl, rfl, rfl, rfl, rfl, trivial⟩) h
              · replace h := h.2 hb
                clear hb
                refine wp_exit ?_
                refine hK32 _ _ ?_
                refine wp_seq_k fun K49 hK49 => ?_
                refine wp_region_lit ?_
                refine t_pure hs rfl rfl (by decide) (p_move rfl rfl) ?_
                clear hs a
                intro a hs
                refine t_pure hs rfl rfl (by decide) (p_move rfl rfl) ?_
                clear hs a
                intro a hs
                refine t_pure hs rfl rfl (by decide) (p_eq rfl rfl rfl) ?_
                clear hs a
                intro a hs
                refine t_pure hs rfl rfl (by decide) (p_assign rfl rfl) ?_
                clear hs a
                intro a hs
                refine hK49 _ _ ?_
                refine wp_ret ?_
                refine f_ret (fn := Try.f4) hs (fun a hs => r_one hs rfl (rfl)) ⟨(decide (met11_5 = count8_3)), rfl, h⟩
    clear hK6
    refine wp_region_lit ?_
    refine t_pure hs rfl rfl (by decide) (p_move rfl rfl) ?_
    clear hs a
    intro a hs
    refine t_pure hs rfl rfl (by decide) (p_len rfl rfl sl_31) ?_
    clear hs a
    intro a hs
    refine t_pure hs rfl rfl (by decide) (p_gt rfl rfl rfl) ?_
    clear hs a
    intro a hs
    refine t_pure hs rfl rfl (by decide) (p_move rfl rfl) ?_
    clear hs a
    intro a hs
    refine split_bool (decide ((50 : Int) < (list0.n : Int))) (fun hb => ?_) (fun hb => ?_)
    · replace h := h.1 hb
      rw [hb] at hs
      clear hb
      refine t_no hs rfl rfl (by decide) ?_
      clear hs a
      intro a hs
      refine t_no hs rfl rfl (by decide) ?_
      clear hs a
      intro a hs
      refine t_no hs rfl rfl (by decide) ?_
      clear hs a
      intro a hs
      refine t_pure hs rfl rfl (by decide) (p_pick_t rfl rfl rfl) ?_
      clear hs a
      intro a hs
      exact J1 true _ _ (hs.to ⟨rfl, rfl, rfl, trivial⟩) h
    · replace h := h.2 hb
      rw [hb] at hs
      clear hb
      refine t_yes hs rfl ?_
      refine t_pure hs rfl rfl (by decide) (p_move rfl rfl) ?_
      clear hs a
      intro a hs
      refine t_yes hs rfl ?_
      refine t_pure hs rfl rfl (by decide) (p_len rfl rfl sl_32) ?_
      clear hs a
      intro a hs
      refine t_yes hs rfl ?_
      refine t_pure hs rfl rfl (by decide) (p_gt rfl rfl rfl) ?_
      clear hs a
      intro a hs
      refine t_pure hs rfl rfl (by decide) (p_pick_f rfl rfl rfl) ?_
      clear hs a
      intro a hs
      exact J1 (decide ((50 : Int) < (copies1.n : Int))) _ _ (hs.to ⟨rfl, rfl, rfl, trivial⟩) h
def law20_NetPlays.s2 (Q : Bool → K) (X1 : Int → K) (n3_2 : (Option Addr)) (m4_2 : Addr) (t26_2 : Sl) (t27_2 : Int) (t28_2 : Int) : K :=
  Dr <| WithS fun S =>
  LdS S m4_2 Sl.val fun t143 =>
  net_Net_Len.call n3_2 fun t139 =>
  Sv S <|
  Ite (decide (t139 ≠ (t143.n : Int)))
    (Q false)
    (Ar (IntKind.wrap .i64 (t28_2 + 1)) fun t146 =>
    X1 t146)
def law20_NetPlays.s4 (Q : Bool → K) (X1 : Int → K) (n3_4 : (Option Addr)) (m4_4 : Addr) (t26_4 : Sl) (t27_4 : Int) (t28_4 : Int) (t98_4 : Bool) : K :=
  Ite t98_4
    (Q false)
    (law20_NetPlays.s2 Q X1 n3_4 m4_4 t26_4 t27_4 t28_4)
def law20_NetPlays.s5 (Q : Bool → K) (X1 : Int → K) (n3_5 : (Option Addr)) (m4_5 : Addr) (o6_5 : Addr) (want13_5 : Bool) (t26_5 : Sl) (t27_5 : Int) (t28_5 : Int) : K :=
  Ld (o6_5.add 1) (Value.int .i64) fun t134 =>
  net_Net_Copy.call n3_5 t134 fun t135 =>
  Ite (!(t135 == want13_5))
    (Q false)
    (law20_NetPlays.s2 Q X1 n3_5 m4_5 t26_5 t27_5 t28_5)
def law20_NetPlays.b6 (Q : Bool → K) (X1 : Int → K) (X6 : Int → K) (n3_6 : (Option Addr)) (m4_6 : Addr) (p14_6 : Addr) (t26_6 : Sl) (t27_6 : Int) (t28_6 : Int) (t63_6 : Int) (t64_6 : Int) : K :=
  Ite (decide (t64_6 < t63_6))
    (Ld ((p14_6.add 2).add 4) Sl.val fun t69 =>
    Idx t69 t64_6 1 fun t71 =>
    St t71 (.int .u8 238) <|
    Ar (IntKind.wrap .i64 (t64_6 + 1)) fun t72 =>
    X6 t72)
    (law20_NetPlays.s2 Q X1 n3_6 m4_6 t26_6 t27_6 t28_6)
def law20_NetPlays.s3 (Q : Bool → K) (X1 : Int → K) (n3_3 : (Option Addr)) (m4_3 : Addr) (o6_3 : Addr) (t26_3 : Sl) (t27_3 : Int) (t28_3 : Int) (t40_3 : Int) (t73_3 : Bool) : K :=
  Ite t73_3
    (Ld (o6_3.add 1) (Value.int .i64) fun t79 =>
    net_Net_Take.call n3_3 t79 fun t80x0 t80x1 =>
    New 38 #[(.int .i64 0), (.int .i64 0), (.int .u64 0), (.int .u64 0), (.int .u64 0), (.int .u64 0), (Sl.val ⟨none, 0, 0⟩)] fun a7 =>
    StN a7 7 t80x0 <|
    Ld (o6_3.add 1) (Value.int .i64) fun t86 =>
    ref20_Net_Take.call (some m4_3) t86 fun t87x0 t87x1 =>
    New 38 #[(.int .i64 0), (.int .i64 0), (.int .u64 0), (.int .u64 0), (.int .u64 0), (.int .u64 0), (Sl.val ⟨none, 0, 0⟩)] fun b9 =>
    StN b9 7 t87x0 <|
    Ite (!(t80x1 == t87x1))
      (law20_NetPlays.s4 Q X1 n3_3 m4_3 t26_3 t27_3 t28_3 true)
      (LdN a7 7 fun t94 =>
      LdN b9 7 fun t95 =>
      ref20_Same.call t94 t95 fun t96 =>
      law20_NetPlays.s4 Q X1 n3_3 m4_3 t26_3 t27_3 t28_3 (!t96)))
    (Ite (decide (t40_3 = 2))
      (Ld (o6_3.add 1) (Value.int .i64) fun t104 =>
      ref20_Net_Take.call (some m4_3) t104 fun t105x0 t105x1 =>
      New 38 #[(.int .i64 0), (.int .i64 0), (.int .u64 0), (.int .u64 0), (.int .u64 0), (.int .u64 0), (Sl.val ⟨none, 0, 0⟩)] fun t11 =>
      StN t11 7 t105x0 <|
      Ld (o6_3.add 1) (Value.int .i64) fun t110 =>
      net_Net_Drop.call n3_3 t110 fun t111 =>
      Ite (!(t111 == t105x1))
        (Q false)
        (law20_NetPlays.s2 Q X1 n3_3 m4_3 t26_3 t27_3 t28_3))
      (Ite (decide (t40_3 = 3))
        (Dr <| WithS fun S =>
        LdS S (o6_3.add 1) (Value.int .i64) fun t118 =>
        ref20_Net_Has.call (some m4_3) t118 fun t119 =>
        Sv S <|
        Ite t119
          (LdS S m4_3 Sl.val fun t125 =>
          LdS S (o6_3.add 1) (Value.int .i64) fun t127 =>
          Idx t125 t127 7 fun t128 =>
          LdNS S t128 7 fun t129 =>
          ref20_Net_Send.call (some m4_3) t129 fun t130 =>
          law20_NetPlays.s5 Q X1 n3_3 m4_3 o6_3 t130 t26_3 t27_3 t28_3)
          (law20_NetPlays.s5 Q X1 n3_3 m4_3 o6_3 false t26_3 t27_3 t28_3))
        (LdN (o6_3.add 2) 7 fun t42 =>
        New 38 #[(.int .i64 0), (.int .i64 0), (.int .u64 0), (.int .u64 0), (.int .u64 0), (.int .u64 0), (Sl.val ⟨none, 0, 0⟩)] fun p14 =>
        StN p14 7 t42 <|
        New 5 #[] fun t43 =>
        Ld (((o6_3.add 2).add 2).add 4) Sl.val fun t47 =>
        Do Try.prog (Builtin.append_ #[22, 22] 22 #[(Sl.val (Sl.mk (some t43) 0 0)), (Sl.val t47)]) Sl.val fun t48 =>
        St ((p14.add 2).add 4) (Sl.val t48) <|
        Dr <| WithS fun S =>
        LdNS S p14 7 fun t52 =>
        LdNS S (o6_3.add 2) 7 fun t57 =>
        net_Net_Send.call n3_3 t52 fun t53 =>
        Sv S <|
        ref20_Net_Send.call (some m4_3) t57 fun t58 =>
        Ite (!((decide (t53 = 0)) == t58))
          (Q false)
          (Ld ((p14.add 2).add 4) Sl.val fun t62 =>
          LoopK (α := Int) (fun X x => law20_NetPlays.b6 Q X1 X n3_3 m4_3 p14 t26_3 t27_3 t28_3 (t62.n : Int) x) 0))))
def law20_NetPlays.b1 (Q : Bool → K)  (X1 : Int → K) (n3_1 : (Option Addr)) (m4_1 : Addr) (t26_1 : Sl) (t27_1 : Int) (t28_1 : Int) : K :=
  Ite (decide (t28_1 < t27_1))
    (Idx t26_1 t28_1 9 fun t30 =>
    LdN t30 9 fun t31 =>
    New 52 #[(.int .i64 0), (.int .i64 0), (.int .i64 0), (.int .i64 0), (.int .u64 0), (.int .u64 0), (.int .u64 0), (.int .u64 0), (Sl.val ⟨none, 0, 0⟩)] fun o6 =>
    StN o6 9 t31 <|
    Ld (((o6.add 2).add 2).add 4) Sl.val fun t35 =>
    Ite (decide ((500 : Int) < (t35.n : Int)))
      (Q true)
      (Ld o6 (Value.int .i64) fun t39 =>
      Ar (bitsOf .and .i64 t39 7) fun t40 =>
      Ite (decide (t40 = 0))
        (law20_NetPlays.s3 Q X1 n3_1 m4_1 o6 t26_1 t27_1 t28_1 t40 (decide (t40 = 0)))
        (law20_NetPlays.s3 Q X1 n3_1 m4_1 o6 t26_1 t27_1 t28_1 t40 (decide (t40 = 1)))))
    (Q true)
def law20_NetPlays (script0 : Sl) (Q : Bool → K) : K :=
  law20_speaks.call  fun t16 =>
  Ite (!t16)
    (Q false)
    (Ite (decide ((200 : Int) < (script0.n : Int)))
      (Q true)
      (net_New.call  fun t21 =>
      New 50 #[(Sl.val ⟨none, 0, 0⟩)] fun t23 =>
      Ite ((t21).isNone)
        (Q false)
        (LoopK (α := Int) (fun X x => law20_NetPlays.b1 Q X t21 t23 script0 (script0.n : Int) x) 0)))
theorem law20_NetPlays_ok (script0 : Sl) (Q : Bool → K) (w : World) (h : law20_NetPlays script0 Q w) : law20_NetPlays.call script0 Q w := by
  unfold law20_NetPlays.call CallF
  refine f_start (args := [(Sl.val script0)]) Try.func5 rfl (Nat.le_of_ble_eq_true rfl) ?_
  intro a hs
  unfold law20_NetPlays at h
  refine wp_seq_k fun K1 hK1 => ?_
  refine wp_region_lit ?_
  refine t_pure hs rfl rfl (by decide) (p_assign rfl rfl) ?_
  clear hs a
  intro a hs
  refine hK1 _ _ ?_
  refine wp_seq_k fun K2 hK2 => ?_
  refine wp_seq_k fun K3 hK3 => ?_
  refine wp_region_lit ?_
  refine t_call hs rfl rfl (by decide) (e_call rfl rfl rfl cb_17) h ?_
  clear hs a h
  intro v a w hk hs
  obtain ⟨t16, rfl, h⟩ := hk
  refine t_pure hs rfl rfl (by decide) (p_not rfl rfl) ?_
  clear hs a
  intro a hs
  refine hK3 _ _ ?_
  refine c_cond hs rfl (fun hb => ?_) (fun hb => ?_)
  · replace h := h.1 hb
    clear hb
    refine wp_seq_k fun K4 hK4 => ?_
    refine wp_region_lit ?_
    refine t_pure hs rfl rfl (by decide) (p_assign rfl rfl) ?_
    clear hs a
    intro a hs
    refine hK4 _ _ ?_
    refine wp_ret ?_
    refine f_ret (fn := Try.f5) hs (fun a hs => r_one hs rfl (rfl)) ⟨false, rfl, h⟩
  · replace h := h.2 hb
    clear hb
    refine wp_skip ?_
    refine hK2 _ _ ?_
    refine wp_seq_k fun K5 hK5 => ?_
    refine wp_seq_k fun K6 hK6 => ?_
    refine wp_region_lit ?_
    refine t_pure hs rfl rfl (by decide) (p_move rfl rfl) ?_
    clear hs a
    intro a hs
    refine t_pure hs rfl rfl (by decide) (p_len rfl rfl sl_47) ?_
    clear hs a
    intro a hs
    refine t_pure hs rfl rfl (by decide) (p_gt rfl rfl rfl) ?_
    clear hs a
    intro a hs
    refine hK6 _ _ ?_
    refine c_cond hs rfl (fun hb => ?_) (fun hb => ?_)
    · replace h := h.1 hb
      clear hb
      refine wp_seq_k fun K7 hK7 => ?_
      refine wp_region_lit ?_
      refine t_pure hs rfl rfl (by decide) (p_assign rfl rfl) ?_
      clear hs a
      intro a hs
      refine hK7 _ _ ?_
      refine wp_ret ?_
      refine f_ret (fn := Try.f5) hs (fun a hs => r_one hs rfl (rfl)) ⟨true, rfl, h⟩
    · replace h := h.2 hb
      clear hb
      refine wp_skip ?_
      refine hK5 _ _ ?_
      refine wp_seq_k fun K8 hK8 => ?_
      refine wp_region_lit ?_
      refine t_call hs rfl rfl (by decide) (e_call rfl rfl rfl cb_18) h ?_
      clear hs a h
      intro v a w hk hs
      obtain ⟨t21, rfl, h⟩ := hk
      refine t_pure hs rfl rfl (by decide) (e_build (cs := #[(Sl.val ⟨none, 0, 0⟩)]) rfl zt_50 pl_50 rfl rfl) ?_
      clear hs a
      intro a hs
      obtain ⟨t23, w1, ha, hw, h⟩ := h
      refine t_eff hs rfl rfl (by decide) (e_box rfl rfl rfl ha hw) ?_
      clear hs a ha hw
      intro a hs
      refine t_pure hs rfl rfl (by decide) (p_assign rfl rfl) ?_
      clear hs a
      intro a hs
      refine t_pure hs rfl rfl (by decide) (p_assign rfl rfl) ?_
      clear hs a
      intro a hs
      refine hK8 _ _ ?_
      refine wp_seq_k fun K9 hK9 => ?_
      refine wp_seq_k fun K10 hK10 => ?_
      refine wp_region_lit ?_
      refine t_pure hs rfl rfl (by decide) (p_move rfl rfl) ?_
      clear hs a
      intro a hs
      refine t_pure hs rfl rfl (by decide) (p_eq_nil rfl rfl rfl Try.underlying33) ?_
      clear hs a
      intro a hs
      refine hK10 _ _ ?_
      refine c_cond hs rfl (fun hb => ?_) (fun hb => ?_)
      · replace h := h.1 hb
        clear hb
        refine wp_seq_k fun K11 hK11 => ?_
        refine wp_region_lit ?_
        refine t_pure hs rfl rfl (by decide) (p_assign rfl rfl) ?_
        clear hs a
        intro a hs
        refine hK11 _ _ ?_
        refine wp_ret ?_
        refine f_ret (fn := Try.f5) hs (fun a hs => r_one hs rfl (rfl)) ⟨false, rfl, h⟩
      · replace h := h.2 hb
        clear hb
        refine wp_skip ?_
        refine hK9 _ _ ?_
        refine wp_seq_k fun K12 hK12 => ?_
        refine wp_seq_k fun K13 hK13 => ?_
        refine wp_region_lit ?_
        refine t_pure hs rfl rfl (by decide) (p_move rfl rfl) ?_
        clear hs a
        intro a hs
        refine t_pure hs rfl rfl (by decide) (p_len rfl rfl sl_47) ?_
        clear hs a
        intro a hs
        refine t_pure hs rfl rfl (by decide) (p_move rfl rfl) ?_
        clear hs a
        intro a hs
        refine hK13 _ _ ?_
        refine wp_block ?_
        obtain ⟨I1, μ1, h0, hr⟩ := h
        refine c_loop (α := Int) I1 μ1 (fun x a => Slots a 147 [(3, (.pointer t21)), (4, (.pointer (some t23))), (26, (Sl.val script0)), (27, (.int .i64 (script0.n : Int))), (28, (.int .i64 x))]) 0 h0 (hs.to ⟨rfl, rfl, rfl, rfl, rfl, trivial⟩) ?_
        clear h0 hs a
        intro t28_1 a w hI hs
        have h : law20_NetPlays.b1 Q (fun t28_1n w' => I1 t28_1n w' ∧ μ1 t28_1n w' < μ1 t28_1 w) t21 t23 script0 (script0.n : Int) t28_1 w := hr t28_1 w hI
        clear hr hI
        generalize hX1 : (fun t28_1n w' => I1 t28_1n w' ∧ μ1 t28_1n w' < μ1 t28_1 w) = X1 at h
        unfold law20_NetPlays.b1 at h
        replace hs : Slots a 147 [(3, (.pointer t21)), (4, (.pointer (some t23))), (26, (Sl.val script0)), (27, (.int .i64 (script0.n : Int))), (28, (.int .i64 t28_1))] := hs
        refine wp_seq_k fun K14 hK14 => ?_
        refine wp_region_lit ?_
        refine t_pure hs rfl rfl (by decide) (p_lt rfl rfl rfl) ?_
        clear hs a
        intro a hs
        refine hK14 _ _ ?_
        refine wp_seq_k fun K15 hK15 => ?_
        refine c_cond hs rfl (fun hb => ?_) (fun hb => ?_)
        · replace h := h.1 hb
          clear hb
          refine wp_skip ?_
          refine hK15 _ _ ?_
          refine wp_seq_k fun K16 hK16 => ?_
          refine wp_block ?_
          refine wp_seq_k fun K17 hK17 => ?_
          refine wp_region_lit ?_
          obtain ⟨qt30, t30, ha, h0, h1, he, h⟩ := h
          refine t_pure hs rfl rfl (by decide) (Pure.adr he (p_idx rfl rfl rfl sl_47 ha h0 h1)) ?_
          clear hs a ha h0 h1 he
          intro a hs
          obtain ⟨t31, hn, hv, h⟩ := h
          refine t_eff hs rfl rfl (by decide) (e_loadN rfl rfl at_52 hn hv) ?_
          clear hs a hn hv
          intro a hs
          obtain ⟨o6, w1, ha, hw, h⟩ := h
          refine t_eff hs rfl rfl (by decide) (e_alloc rfl zt_52 rfl ha hw) ?_
          clear hs a ha hw
          intro a hs
          obtain ⟨w1, hw, hn, hc, hv, h⟩ := h
          refine t_skip hs rfl rfl (e_storeN rfl rfl rfl sz_52 hw hn hc hv) ?_
          clear hs a hw hn hc hv
          intro a hs
          refine hK17 _ _ ?_
          refine wp_seq_k fun K18 hK18 => ?_
          refine wp_seq_k fun K19 hK19 => ?_
          refine wp_region_lit ?_
          refine t_pure hs rfl rfl (by decide) (p_fieldAddr rfl rfl ft_52_2) ?_
          clear hs a
          intro a hs
          refine t_pure hs rfl rfl (by decide) (p_fieldAddr rfl rfl ft_38_2) ?_
          clear hs a
          intro a hs
          refine t_pure hs rfl rfl (by decide) (p_fieldAddr rfl rfl ft_36_4) ?_
          clear hs a
          intro a hs
          obtain ⟨t35, hv, h⟩ := h
          refine t_eff hs rfl rfl (by decide) (e_load rfl rfl ct_22 hv) ?_
          clear hs a hv
          intro a hs
          refine t_pure hs rfl rfl (by decide) (p_len rfl rfl sl_22) ?_
          clear hs a
          intro a hs
          refine t_pure hs rfl rfl (by decide) (p_gt rfl rfl rfl) ?_
          clear hs a
          intro a hs
          refine hK19 _ _ ?_
          refine c_cond hs rfl (fun hb => ?_) (fun hb => ?_)
          · replace h := h.1 hb
            clear hb
            refine wp_seq_k fun K20 hK20 => ?_
            refine wp_region_lit ?_
            refine t_pure hs rfl rfl (by decide) (p_assign rfl rfl) ?_
            clear hs a
            intro a hs
            refine hK20 _ _ ?_
            refine wp_ret ?_
            refine f_ret (fn := Try.f5) hs (fun a hs => r_one hs rfl (rfl)) ⟨true, rfl, h⟩
          · replace h := h.2 hb
            clear hb
            refine wp_skip ?_
            refine hK18 _ _ ?_
            refine wp_seq_k fun K21 hK21 => ?_
            have J2 : ∀ (a : Act) (w : World), Slots a 147 [(3, (.pointer t21)), (4, (.pointer (some t23))), (26, (Sl.val script0)), (27, (.int .i64 (script0.n : Int))), (28, (.int .i64 t28_1))] → law20_NetPlays.s2 Q X1 t21 t23 script0 (script0.n : Int) t28_1 w → K21 a w := by
              clear h hs
              intro a w hs h
              refine hK21 _ _ ?_
              unfold law20_NetPlays.s2 at h
              refine wp_seq_k fun K22 hK22 => ?_
              obtain ⟨w1, hw1, h⟩ := h
              obtain ⟨S, hS, h⟩ := h
              subst hw1
              refine d_start (S := S) (ds := []) #[false, false, false, false, false, false, false, false] mixed rfl rfl ?_
              refine d_pure hs #[true, false, false, false, false, false, false, false] (i := 0) rfl rfl rfl (by decide) (by kernel_rfl) (tight_body (P := Try.prog) (fn := Try.f5)) (p_move rfl rfl) ?_
              clear hs a
              intro a hs
              refine d_pure hs #[true, false, true, false, false, false, false, false] (i := 2) rfl rfl rfl (by decide) (by kernel_rfl) (tight_body (P := Try.prog) (fn := Try.f5)) (p_move rfl rfl) ?_
              clear hs a
              intro a hs
              refine d_pure hs #[true, false, true, true, false, false, false, false] (i := 3) rfl rfl rfl (by decide) (by kernel_rfl) (tight_body (P := Try.prog) (fn := Try.f5)) (p_nil rfl rfl) ?_
              clear hs a
              intro a hs
              refine d_pure hs #[true, false, true, true, true, false, false, false] (i := 4) rfl rfl rfl (by decide) (by kernel_rfl) (tight_body (P := Try.prog) (fn := Try.f5)) (p_fieldAddr0 rfl rfl ft_50_0) ?_
              clear hs a
              intro a hs
              obtain ⟨t143, hv, h⟩ := h
              refine d_read hs #[true, false, true, true, true, true, false, false] (i := 5) rfl rfl rfl (by decide) (by kernel_rfl) (by kernel_rfl) (tight_body (P := Try.prog) (fn := Try.f5)) hS (fun w h' => e_load rfl rfl ct_31 (hv w h')) ?_
              clear hs a hv
              intro a hs
              refine d_pure hs #[true, false, true, true, true, true, true, false] (i := 6) rfl rfl rfl (by decide) (by kernel_rfl) (tight_body (P := Try.prog) (fn := Try.f5)) (p_len rfl rfl sl_31) ?_
              clear hs a
              intro a hs
              refine d_all [1] (by kernel_rfl) (by decide) ?_
              refine AllS.cons ?_ AllS.nil
              refine d_call hs #[true, true, true, true, true, true, true, false] (i := 1) rfl rfl rfl (by decide) rfl (e_call rfl rfl rfl cb_21) h (fun v w'' hk => by obtain ⟨t139, _, hS, _⟩ := hk; exact fun _ _ => hS) ?_
              clear hs a h
              intro v a w hk hs
              obtain ⟨t139, rfl, h⟩ := hk
              obtain ⟨hS, h⟩ := h
              refine d_pure hs #[true, true, true, true, true, true, true, true] (i := 7) rfl rfl rfl (by decide) (by kernel_rfl) (tight_body (P := Try.prog) (fn := Try.f5)) (p_ne rfl rfl rfl) ?_
              clear hs a
              intro a hs
              replace hs := hs.to (τ := [(3, (.pointer t21)), (4, (.pointer (some t23))), (26, (Sl.val script0)), (27, (.int .i64 (script0.n : Int))), (28, (.int .i64 t28_1)), (145, (.bool (decide (t139 ≠ (t143.n : Int)))))]) ⟨rfl, rfl, rfl, rfl, rfl, rfl, trivial⟩
              refine d_done (by kernel_rfl) ?_ _
              clear hS
              refine hK22 _ _ ?_
              refine c_cond hs rfl (fun hb => ?_) (fun hb => ?_)
              · replace h := h.1 hb
                clear hb
                refine wp_seq_k fun K23 hK23 => ?_
                refine wp_region_lit ?_
                refine t_pure hs rfl rfl (by decide) (p_assign rfl rfl) ?_
                clear hs a
                intro a hs
                refine hK23 _ _ ?_
                refine wp_ret ?_
                refine f_ret (fn := Try.f5) hs (fun a hs => r_one hs rfl (rfl)) ⟨false, rfl, h⟩
              · replace h := h.2 hb
                clear hb
                refine wp_skip ?_
                refine hK16 _ _ ?_
                refine wp_region_lit ?_
                obtain ⟨t146, he, h⟩ := h
                refine t_pure hs rfl rfl (by decide) (Pure.int he (p_add rfl rfl rfl)) ?_
                clear hs a he
                intro a hs
                refine t_pure hs rfl rfl (by decide) (p_move rfl rfl) ?_
                clear hs a
                intro a hs
                rw [← hX1] at h
                exact ⟨t146, hs.to ⟨rfl, rfl, rfl, rfl, rfl, trivial⟩, h⟩
            clear hK21
            refine wp_seq_k fun K24 hK24 => ?_
            refine wp_region_lit ?_
            refine t_pure hs rfl rfl (by decide) (p_fieldAddr0 rfl rfl ft_52_0) ?_
            clear hs a
            intro a hs
            obtain ⟨t39, hv, h⟩ := h
            refine t_eff hs rfl rfl (by decide) (e_load rfl rfl ct_3 hv) ?_
            clear hs a hv
            intro a hs
            obtain ⟨t40, he, h⟩ := h
            refine t_pure hs rfl rfl (by decide) (Pure.int he (p_and rfl rfl rfl)) ?_
            clear hs a he
            intro a hs
            refine hK24 _ _ ?_
            refine wp_block ?_
            refine wp_seq_k fun K25 hK25 => ?_
            have J3 : ∀ (t73_3 : Bool) (a : Act) (w : World), Slots a 147 [(3, (.pointer t21)), (4, (.pointer (some t23))), (6, (.pointer (some o6))), (26, (Sl.val script0)), (27, (.int .i64 (script0.n : Int))), (28, (.int .i64 t28_1)), (40, (.int .i64 t40)), (73, (.bool t73_3))] → law20_NetPlays.s3 Q X1 t21 t23 o6 script0 (script0.n : Int) t28_1 t40 t73_3 w → K25 a w := by
              clear h hs
              intro t73_3 a w hs h
              refine hK25 _ _ ?_
              unfold law20_NetPlays.s3 at h
              refine c_cond hs rfl (fun hb => ?_) (fun hb => ?_)
              · replace h := h.1 hb
                clear hb
                refine wp_seq_k fun K26 hK26 => ?_
                refine wp_region_lit ?_
                refine t_pure hs rfl rfl (by decide) (p_move rfl rfl) ?_
                clear hs a
                intro a hs
                refine t_pure hs rfl rfl (by decide) (p_fieldAddr rfl rfl ft_52_1) ?_
                clear hs a
                intro a hs
                obtain ⟨t79, hv, h⟩ := h
                refine t_eff hs rfl rfl (by decide) (e_load rfl rfl ct_3 hv) ?_
                clear hs a hv
                intro a hs
                refine t_call hs rfl rfl (by decide) (e_call rfl rfl rfl cb_22) h ?_
                clear hs a h
                intro v a w hk hs
                obtain ⟨t80x0, t80x1, rfl, h⟩ := hk
                refine t_pure hs rfl rfl (by decide) (p_move rfl rfl) ?_
                clear hs a
                intro a hs
                refine t_pure hs rfl rfl (by decide) (p_extract rfl rfl rfl) ?_
                clear hs a
                intro a hs
                refine t_pure hs rfl rfl (by decide) (p_extract rfl rfl rfl) ?_
                clear hs a
                intro a hs
                obtain ⟨a7, w1, ha, hw, h⟩ := h
                refine t_eff hs rfl rfl (by decide) (e_alloc rfl zt_38 rfl ha hw) ?_
                clear hs a ha hw
                intro a hs
                replace hs := hs.to (τ := [(3, (.pointer t21)), (4, (.pointer (some t23))), (6, (.pointer (some o6))), (7, (.pointer (some a7))), (26, (Sl.val script0)), (27, (.int .i64 (script0.n : Int))), (28, (.int .i64 t28_1)), (81, (.agg t80x0)), (82, (.bool t80x1))]) ⟨rfl, rfl, rfl, rfl, rfl, rfl, rfl, rfl, rfl, trivial⟩
                obtain ⟨w1, hw, hn, hc, hv, h⟩ := h
                refine t_skip hs rfl rfl (e_storeN rfl rfl rfl sz_38 hw hn hc hv) ?_
                clear hs a hw hn hc hv
                intro a hs
                refine t_pure hs rfl rfl (by decide) (p_assign rfl rfl) ?_
                clear hs a
                intro a hs
                refine hK26 _ _ ?_
                refine wp_seq_k fun K27 hK27 => ?_
                refine wp_region_lit ?_
                refine t_pure hs rfl rfl (by decide) (p_move rfl rfl) ?_
                clear hs a
                intro a hs
                refine t_pure hs rfl rfl (by decide) (p_fieldAddr rfl rfl ft_52_1) ?_
                clear hs a
                intro a hs
                obtain ⟨t86, hv, h⟩ := h
                refine t_eff hs rfl rfl (by decide) (e_load rfl rfl ct_3 hv) ?_
                clear hs a hv
                intro a hs
                refine t_call hs rfl rfl (by decide) (e_call rfl rfl rfl cb_24) h ?_
                clear hs a h
                intro v a w hk hs
                obtain ⟨t87x0, t87x1, rfl, h⟩ := hk
                refine t_pure hs rfl rfl (by decide) (p_move rfl rfl) ?_
                clear hs a
                intro a hs
                refine t_pure hs rfl rfl (by decide) (p_extract rfl rfl rfl) ?_
                clear hs a
                intro a hs
                refine t_pure hs rfl rfl (by decide) (p_extract rfl rfl rfl) ?_
                clear hs a
                intro a hs
                obtain ⟨b9, w1, ha, hw, h⟩ := h
                refine t_eff hs rfl rfl (by decide) (e_alloc rfl zt_38 rfl ha hw) ?_
                clear hs a ha hw
                intro a hs
                replace hs := hs.to (τ := [(3, (.pointer t21)), (4, (.pointer (some t23))), (7, (.pointer (some a7))), (8, (.bool t80x1)), (9, (.pointer (some b9))), (26, (Sl.val script0)), (27, (.int .i64 (script0.n : Int))), (28, (.int .i64 t28_1)), (88, (.agg t87x0)), (89, (.bool t87x1))]) ⟨rfl, rfl, rfl, rfl, rfl, rfl, rfl, rfl, rfl, rfl, trivial⟩
                obtain ⟨w1, hw, hn, hc, hv, h⟩ := h
                refine t_skip hs rfl rfl (e_storeN rfl rfl rfl sz_38 hw hn hc hv) ?_
                clear hs a hw hn hc hv
                intro a hs
                refine t_pure hs rfl rfl (by decide) (p_assign rfl rfl) ?_
                clear hs a
                intro a hs
                refine hK27 _ _ ?_
                refine wp_seq_k fun K28 hK28 => ?_
                have J4 : ∀ (t98_4 : Bool) (a : Act) (w : World), Slots a 147 [(3, (.pointer t21)), (4, (.pointer (some t23))), (26, (Sl.val script0)), (27, (.int .i64 (script0.n : Int))), (28, (.int .i64 t28_1)), (98, (.bool t98_4))] → law20_NetPlays.s4 Q X1 t21 t23 script0 (script0.n : Int) t28_1 t98_4 w → K28 a w := by
                  clear h hs
                  intro t98_4 a w hs h
                  refine hK28 _ _ ?_
                  unfold law20_NetPlays.s4 at h
                  refine c_cond hs rfl (fun hb => ?_) (fun hb => ?_)
                  · replace h := h.1 hb
                    clear hb
                    refine wp_seq_k fun K29 hK29 => ?_
                    refine wp_region_lit ?_
                    refine t_pure hs rfl rfl (by decide) (p_assign rfl rfl) ?_
                    clear hs a
                    intro a hs
                    refine hK29 _ _ ?_
                    refine wp_ret ?_
                    refine f_ret (fn := Try.f5) hs (fun a hs => r_one hs rfl (rfl)) ⟨false, rfl, h⟩
                  · replace h := h.2 hb
                    clear hb
                    refine wp_skip ?_
                    exact J2 _ _ (hs.to ⟨rfl, rfl, rfl, rfl, rfl, trivial⟩) h
                clear hK28
                refine wp_region_lit ?_
                refine t_pure hs rfl rfl (by decide) (p_move rfl rfl) ?_
                clear hs a
                intro a hs
                refine t_pure hs rfl rfl (by decide) (p_move rfl rfl) ?_
                clear hs a
                intro a hs
                refine t_pure hs rfl rfl (by decide) (p_neb rfl rfl rfl Try.underlying4) ?_
                clear hs a
                intro a hs
                refine t_pure hs rfl rfl (by decide) (p_move rfl rfl) ?_
                clear hs a
                intro a hs
                refine split_bool (!(t80x1 == t87x1)) (fun hb => ?_) (fun hb => ?_)
                · replace h := h.1 hb
                  rw [hb] at hs
                  clear hb
                  refine t_no hs rfl rfl (by decide) ?_
                  clear hs a
                  intro a hs
                  refine t_no hs rfl rfl (by decide) ?_
                  clear hs a
                  intro a hs
                  refine t_no hs rfl rfl (by decide) ?_
                  clear hs a
                  intro a hs
                  refine t_no hs rfl rfl (by decide) ?_
                  clear hs a
                  intro a hs
                  replace hs := hs.to (τ := [(3, (.pointer t21)), (4, (.pointer (some t23))), (26, (Sl.val script0)), (27, (.int .i64 (script0.n : Int))), (28, (.int .i64 t28_1)), (93, (.bool true)), (97, undef)]) ⟨rfl, rfl, rfl, rfl, rfl, rfl, rfl, trivial⟩
                  refine t_pure hs rfl rfl (by decide) (p_pick_t rfl rfl rfl) ?_
                  clear hs a
                  intro a hs
                  exact J4 true _ _ (hs.to ⟨rfl, rfl, rfl, rfl, rfl, rfl, trivial⟩) h
                · replace h := h.2 hb
                  rw [hb] at hs
                  clear hb
                  refine t_yes hs rfl ?_
                  obtain ⟨t94, hn, hv, h⟩ := h
                  refine t_eff hs rfl rfl (by decide) (e_loadN rfl rfl at_38 hn hv) ?_
                  clear hs a hn hv
                  intro a hs
                  refine t_yes hs rfl ?_
                  obtain ⟨t95, hn, hv, h⟩ := h
                  refine t_eff hs rfl rfl (by decide) (e_loadN rfl rfl at_38 hn hv) ?_
                  clear hs a hn hv
                  intro a hs
                  refine t_yes hs rfl ?_
                  refine t_call hs rfl rfl (by decide) (e_call rfl rfl rfl cb_23) h ?_
                  clear hs a h
                  intro v a w hk hs
                  obtain ⟨t96, rfl, h⟩ := hk
                  refine t_yes hs rfl ?_
                  refine t_pure hs rfl rfl (by decide) (p_not rfl rfl) ?_
                  clear hs a
                  intro a hs
                  replace hs := hs.to (τ := [(3, (.pointer t21)), (4, (.pointer (some t23))), (26, (Sl.val script0)), (27, (.int .i64 (script0.n : Int))), (28, (.int .i64 t28_1)), (93, (.bool false)), (97, (.bool (!t96)))]) ⟨rfl, rfl, rfl, rfl, rfl, rfl, rfl, trivial⟩
                  refine t_pure hs rfl rfl (by decide) (p_pick_f rfl rfl rfl) ?_
                  clear hs a
                  intro a hs
                  exact J4 (!t96) _ _ (hs.to ⟨rfl, rfl, rfl, rfl, rfl, rfl, trivial⟩) h
              · replace h := h.2 hb
                clear hb
                refine wp_seq_k fun K30 hK30 => ?_
                refine wp_region_lit ?_
                refine t_pure hs rfl rfl (by decide) (p_eq rfl rfl rfl) ?_
                clear hs a
                intro a hs
                refine t_pure hs rfl rfl (by decide) (p_assign rfl rfl) ?_
                clear hs a
                intro a hs
                refine hK30 _ _ ?_
                refine c_cond hs rfl (fun hb => ?_) (fun hb => ?_)
                · replace h := h.1 hb
                  clear hb
                  refine wp_seq_k fun K31 hK31 => ?_
                  refine wp_region_lit ?_
                  refine t_pure hs rfl rfl (by decide) (p_move rfl rfl) ?_
                  clear hs a
                  intro a hs
                  refine t_pure hs rfl rfl (by decide) (p_fieldAddr rfl rfl ft_52_1) ?_
                  clear hs a
                  intro a hs
                  obtain ⟨t104, hv, h⟩ := h
                  refine t_eff hs rfl rfl (by decide) (e_load rfl rfl ct_3 hv) ?_
                  clear hs a hv
                  intro a hs
                  refine t_call hs rfl rfl (by decide) (e_call rfl rfl rfl cb_24) h ?_
                  clear hs a h
                  intro v a w hk hs
                  obtain ⟨t105x0, t105x1, rfl, h⟩ := hk
                  refine t_pure hs rfl rfl (by decide) (p_move rfl rfl) ?_
                  clear hs a
                  intro a hs
                  refine t_pure hs rfl rfl (by decide) (p_extract rfl rfl rfl) ?_
                  clear hs a
                  intro a hs
                  refine t_pure hs rfl rfl (by decide) (p_extract rfl rfl rfl) ?_
                  clear hs a
                  intro a hs
                  obtain ⟨t11, w1, ha, hw, h⟩ := h
                  refine t_eff hs rfl rfl (by decide) (e_alloc rfl zt_38 rfl ha hw) ?_
                  clear hs a ha hw
                  intro a hs
                  replace hs := hs.to (τ := [(3, (.pointer t21)), (4, (.pointer (some t23))), (6, (.pointer (some o6))), (11, (.pointer (some t11))), (26, (Sl.val script0)), (27, (.int .i64 (script0.n : Int))), (28, (.int .i64 t28_1)), (106, (.agg t105x0)), (107, (.bool t105x1))]) ⟨rfl, rfl, rfl, rfl, rfl, rfl, rfl, rfl, rfl, trivial⟩
                  obtain ⟨w1, hw, hn, hc, hv, h⟩ := h
                  refine t_skip hs rfl rfl (e_storeN rfl rfl rfl sz_38 hw hn hc hv) ?_
                  clear hs a hw hn hc hv
                  intro a hs
                  refine t_pure hs rfl rfl (by decide) (p_assign rfl rfl) ?_
                  clear hs a
                  intro a hs
                  refine hK31 _ _ ?_
                  refine wp_seq_k fun K32 hK32 => ?_
                  refine wp_region_lit ?_
                  refine t_pure hs rfl rfl (by decide) (p_move rfl rfl) ?_
                  clear hs a
                  intro a hs
                  refine t_pure hs rfl rfl (by decide) (p_fieldAddr rfl rfl ft_52_1) ?_
                  clear hs a
                  intro a hs
                  obtain ⟨t110, hv, h⟩ := h
                  refine t_eff hs rfl rfl (by decide) (e_load rfl rfl ct_3 hv) ?_
                  clear hs a hv
                  intro a hs
                  refine t_call hs rfl rfl (by decide) (e_call rfl rfl rfl cb_25) h ?_
                  clear hs a h
                  intro v a w hk hs
                  obtain ⟨t111, rfl, h⟩ := hk
                  refine t_pure hs rfl rfl (by decide) (p_move rfl rfl) ?_
                  clear hs a
                  intro a hs
                  refine t_pure hs rfl rfl (by decide) (p_neb rfl rfl rfl Try.underlying4) ?_
                  clear hs a
                  intro a hs
                  refine hK32 _ _ ?_
                  refine c_cond hs rfl (fun hb => ?_) (fun hb => ?_)
                  · replace h := h.1 hb
                    clear hb
                    refine wp_seq_k fun K33 hK33 => ?_
                    refine wp_region_lit ?_
                    refine t_pure hs rfl rfl (by decide) (p_assign rfl rfl) ?_
                    clear hs a
                    intro a hs
                    refine hK33 _ _ ?_
                    refine wp_ret ?_
                    refine f_ret (fn := Try.f5) hs (fun a hs => r_one hs rfl (rfl)) ⟨false, rfl, h⟩
                  · replace h := h.2 hb
                    clear hb
                    refine wp_skip ?_
                    exact J2 _ _ (hs.to ⟨rfl, rfl, rfl, rfl, rfl, trivial⟩) h
                · replace h := h.2 hb
                  clear hb
                  refine wp_seq_k fun K34 hK34 => ?_
                  refine wp_region_lit ?_
                  refine t_pure hs rfl rfl (by decide) (p_eq rfl rfl rfl) ?_
                  clear hs a
                  intro a hs
                  refine t_pure hs rfl rfl (by decide) (p_assign rfl rfl) ?_
                  clear hs a
                  intro a hs
                  refine hK34 _ _ ?_
                  refine c_cond hs rfl (fun hb => ?_) (fun hb => ?_)
                  · replace h := h.1 hb
                    clear hb
                    refine wp_seq_k fun K35 hK35 => ?_
                    have J5 : ∀ (want13_5 : Bool) (a : Act) (w : World), Slots a 147 [(3, (.pointer t21)), (4, (.pointer (some t23))), (6, (.pointer (some o6))), (13, (.bool want13_5)), (26, (Sl.val script0)), (27, (.int .i64 (script0.n : Int))), (28, (.int .i64 t28_1))] → law20_NetPlays.s5 Q X1 t21 t23 o6 want13_5 script0 (script0.n : Int) t28_1 w → K35 a w := by
                      clear h hs
                      intro want13_5 a w hs h
                      refine hK35 _ _ ?_
                      unfold law20_NetPlays.s5 at h
                      refine wp_seq_k fun K36 hK36 => ?_
                      refine wp_region_lit ?_
                      refine t_pure hs rfl rfl (by decide) (p_move rfl rfl) ?_
                      clear hs a
                      intro a hs
                      refine t_pure hs rfl rfl (by decide) (p_fieldAddr rfl rfl ft_52_1) ?_
                      clear hs a
                      intro a hs
                      obtain ⟨t134, hv, h⟩ := h
                      refine t_eff hs rfl rfl (by decide) (e_load rfl rfl ct_3 hv) ?_
                      clear hs a hv
                      intro a hs
                      refine t_call hs rfl rfl (by decide) (e_call rfl rfl rfl cb_20) h ?_
                      clear hs a h
                      intro v a w hk hs
                      obtain ⟨t135, rfl, h⟩ := hk
                      refine t_pure hs rfl rfl (by decide) (p_move rfl rfl) ?_
                      clear hs a
                      intro a hs
                      refine t_pure hs rfl rfl (by decide) (p_neb rfl rfl rfl Try.underlying4) ?_
                      clear hs a
                      intro a hs
                      refine hK36 _ _ ?_
                      refine c_cond hs rfl (fun hb => ?_) (fun hb => ?_)
                      · replace h := h.1 hb
                        clear hb
                        refine wp_seq_k fun K37 hK37 => ?_
                        refine wp_region_lit ?_
                        refine t_pure hs rfl rfl (by decide) (p_assign rfl rfl) ?_
                        clear hs a
                        intro a hs
                        refine hK37 _ _ ?_
                        refine wp_ret ?_
                        refine f_ret (fn := Try.f5) hs (fun a hs => r_one hs rfl (rfl)) ⟨false, rfl, h⟩
                      · replace h := h.2 hb
                        clear hb
                        refine wp_skip ?_
                        exact J2 _ _ (hs.to ⟨rfl, rfl, rfl, rfl, rfl, trivial⟩) h
                    clear hK35
                    obtain ⟨w1, hw1, h⟩ := h
                    obtain ⟨S, hS, h⟩ := h
                    subst hw1
                    refine d_start (S := S) (ds := [14]) #[false, false, false, false, false, false, false, false, false, false, false, false, false, false, false, false, false] mixed rfl rfl ?_
                    refine d_pure hs #[true, false, false, false, false, false, false, false, false, false, false, false, false, false, false, false, false] (i := 0) rfl rfl rfl (by decide) (by kernel_rfl) (tight_body (P := Try.prog) (fn := Try.f5)) (p_move rfl rfl) ?_
                    clear hs a
                    intro a hs
                    refine d_pure hs #[true, true, false, false, false, false, false, false, false, false, false, false, false, false, false, false, false] (i := 1) rfl rfl rfl (by decide) (by kernel_rfl) (tight_body (P := Try.prog) (fn := Try.f5)) (p_fieldAddr rfl rfl ft_52_1) ?_
                    clear hs a
                    intro a hs
                    obtain ⟨t118, hv, h⟩ := h
                    refine d_read hs #[true, true, true, false, false, false, false, false, false, false, false, false, false, false, false, false, false] (i := 2) rfl rfl rfl (by decide) (by kernel_rfl) (by kernel_rfl) (tight_body (P := Try.prog) (fn := Try.f5)) hS (fun w h' => e_load rfl rfl ct_3 (hv w h')) ?_
                    clear hs a hv
                    intro a hs
                    refine d_all [3] (by kernel_rfl) (by decide) ?_
                    refine AllS.cons ?_ AllS.nil
                    refine d_call hs #[true, true, true, true, false, false, false, false, false, false, false, false, false, false, false, false, false] (i := 3) rfl rfl rfl (by decide) rfl (e_call rfl rfl rfl cb_26) h (fun v w'' hk => by obtain ⟨t119, _, hS, _⟩ := hk; exact fun _ _ => hS) ?_
                    clear hs a h
                    intro v a w hk hs
                    obtain ⟨t119, rfl, h⟩ := hk
                    obtain ⟨hS, h⟩ := h
                    refine d_pure hs #[true, true, true, true, true, false, false, false, false, false, false, false, false, false, false, false, false] (i := 4) rfl rfl rfl (by decide) (by kernel_rfl) (tight_body (P := Try.prog) (fn := Try.f5)) (p_move rfl rfl) ?_
                    clear hs a
                    intro a hs
                    refine split_bool t119 (fun hb => ?_) (fun hb => ?_)
                    · replace h := h.1 hb
                      rw [hb] at hs
                      clear hb
                      refine d_pure hs #[true, true, true, true, true, true, false, false, false, false, false, false, false, false, false, false, false] (i := 5) rfl rfl rfl (by decide) (by kernel_rfl) (tight_body (P := Try.prog) (fn := Try.f5)) (p_move rfl rfl) ?_
                      clear hs a
                      intro a hs
                      refine d_pure hs #[true, true, true, true, true, true, true, false, false, false, false, false, false, false, false, false, false] (i := 6) rfl rfl rfl (by decide) (by kernel_rfl) (tight_body (P := Try.prog) (fn := Try.f5)) (p_move rfl rfl) ?_
                      clear hs a
                      intro a hs
                      refine d_pure hs #[true, true, true, true, true, true, true, true, false, false, false, false, false, false, false, false, false] (i := 7) rfl rfl rfl (by decide) (by kernel_rfl) (tight_body (P := Try.prog) (fn := Try.f5)) (p_nil rfl rfl) ?_
                      clear hs a
                      intro a hs
                      replace hs := hs.to (τ := [(3, (.pointer t21)), (4, (.pointer (some t23))), (6, (.pointer (some o6))), (26, (Sl.val script0)), (27, (.int .i64 (script0.n : Int))), (28, (.int .i64 t28_1)), (120, (.bool true)), (121, (.pointer (some t23))), (123, (.pointer (some t23)))]) ⟨rfl, rfl, rfl, rfl, rfl, rfl, rfl, rfl, rfl, trivial⟩
                      refine d_pure hs #[true, true, true, true, true, true, true, true, true, false, false, false, false, false, false, false, false] (i := 8) rfl rfl rfl (by decide) (by kernel_rfl) (tight_body (P := Try.prog) (fn := Try.f5)) (p_fieldAddr0 rfl rfl ft_50_0) ?_
                      clear hs a
                      intro a hs
                      refine d_pure hs #[true, true, true, true, true, true, true, true, true, false, true, false, false, false, false, false, false] (i := 10) rfl rfl rfl (by decide) (by kernel_rfl) (tight_body (P := Try.prog) (fn := Try.f5)) (p_fieldAddr rfl rfl ft_52_1) ?_
                      clear hs a
                      intro a hs
                      obtain ⟨t125, hv, h⟩ := h
                      refine d_read hs #[true, true, true, true, true, true, true, true, true, true, true, false, false, false, false, false, false] (i := 9) rfl rfl rfl (by decide) (by kernel_rfl) (by kernel_rfl) (tight_body (P := Try.prog) (fn := Try.f5)) hS (fun w h' => e_load rfl rfl ct_31 (hv w h')) ?_
                      clear hs a hv
                      intro a hs
                      obtain ⟨t127, hv, h⟩ := h
                      refine d_read hs #[true, true, true, true, true, true, true, true, true, true, true, true, false, false, false, false, false] (i := 11) rfl rfl rfl (by decide) (by kernel_rfl) (by kernel_rfl) (tight_body (P := Try.prog) (fn := Try.f5)) hS (fun w h' => e_load rfl rfl ct_3 (hv w h')) ?_
                      clear hs a hv
                      intro a hs
                      obtain ⟨qt128, t128, ha, h0, h1, he, h⟩ := h
                      refine d_pure hs #[true, true, true, true, true, true, true, true, true, true, true, true, true, false, false, false, false] (i := 12) rfl rfl rfl (by decide) (by kernel_rfl) (tight_body (P := Try.prog) (fn := Try.f5)) (Pure.adr he (p_idx rfl rfl rfl sl_31 ha h0 h1)) ?_
                      clear hs a ha h0 h1 he
                      intro a hs
                      obtain ⟨t129, hn, hv, h⟩ := h
                      refine d_read hs #[true, true, true, true, true, true, true, true, true, true, true, true, true, true, false, false, false] (i := 13) rfl rfl rfl (by decide) (by kernel_rfl) (by kernel_rfl) (tight_body (P := Try.prog) (fn := Try.f5)) hS (fun w h' => e_loadN rfl rfl at_38 hn (hv w h')) ?_
                      clear hs a hn hv
                      intro a hs
                      refine d_all [14] (by kernel_rfl) (by decide) ?_
                      refine AllS.cons ?_ AllS.nil
                      refine d_call hs #[true, true, true, true, true, true, true, true, true, true, true, true, true, true, true, false, false] (i := 14) rfl rfl rfl (by decide) rfl (e_call rfl rfl rfl cb_27) h (fun _ _ _ hn => (hn (by decide)).elim) ?_
                      clear hs a h
                      intro v a w hk hs
                      obtain ⟨t130, rfl, h⟩ := hk
                      refine d_pure hs #[true, true, true, true, true, true, true, true, true, true, true, true, true, true, true, true, false] (i := 15) rfl rfl rfl (by decide) (by kernel_rfl) (tight_body (P := Try.prog) (fn := Try.f5)) (p_pick_t rfl rfl rfl) ?_
                      clear hs a
                      intro a hs
                      replace hs := hs.to (τ := [(3, (.pointer t21)), (4, (.pointer (some t23))), (6, (.pointer (some o6))), (26, (Sl.val script0)), (27, (.int .i64 (script0.n : Int))), (28, (.int .i64 t28_1)), (131, (.bool t130))]) ⟨rfl, rfl, rfl, rfl, rfl, rfl, rfl, trivial⟩
                      refine d_pure hs #[true, true, true, true, true, true, true, true, true, true, true, true, true, true, true, true, true] (i := 16) rfl rfl rfl (by decide) (by kernel_rfl) (tight_body (P := Try.prog) (fn := Try.f5)) (p_assign rfl rfl) ?_
                      clear hs a
                      intro a hs
                      refine d_done (by kernel_rfl) ?_ _
                      clear hS
                      exact J5 t130 _ _ (hs.to ⟨rfl, rfl, rfl, rfl, rfl, rfl, rfl, trivial⟩) h
                    · replace h := h.2 hb
                      rw [hb] at hs
                      clear hb
                      refine d_no hs #[true, true, true, true, true, true, false, false, false, false, false, false, false, false, false, false, false] (i := 5) rfl rfl rfl (by decide) (by kernel_rfl) (tight_body (P := Try.prog) (fn := Try.f5)) ?_
                      clear hs a
                      intro a hs
                      refine d_no hs #[true, true, true, true, true, true, true, false, false, false, false, false, false, false, false, false, false] (i := 6) rfl rfl rfl (by decide) (by kernel_rfl) (tight_body (P := Try.prog) (fn := Try.f5)) ?_
                      clear hs a
                      intro a hs
                      refine d_no hs #[true, true, true, true, true, true, true, true, false, false, false, false, false, false, false, false, false] (i := 7) rfl rfl rfl (by decide) (by kernel_rfl) (tight_body (P := Try.prog) (fn := Try.f5)) ?_
                      clear hs a
                      intro a hs
                      replace hs := hs.to (τ := [(3, (.pointer t21)), (4, (.pointer (some t23))), (6, (.pointer (some o6))), (26, (Sl.val script0)), (27, (.int .i64 (script0.n : Int))), (28, (.int .i64 t28_1)), (120, (.bool false)), (121, undef), (123, undef)]) ⟨rfl, rfl, rfl, rfl, rfl, rfl, rfl, rfl, rfl, trivial⟩
                      refine d_no hs #[true, true, true, true, true, true, true, true, true, false, false, false, false, false, false, false, false] (i := 8) rfl rfl rfl (by decide) (by kernel_rfl) (tight_body (P := Try.prog) (fn := Try.f5)) ?_
                      clear hs a
                      intro a hs
                      refine d_no hs #[true, true, true, true, true, true, true, true, true, true, false, false, false, false, false, false, false] (i := 9) rfl rfl rfl (by decide) (by kernel_rfl) (tight_body (P := Try.prog) (fn := Try.f5)) ?_
                      clear hs a
                      intro a hs
                      refine d_no hs #[true, true, true, true, true, true, true, true, true, true, true, false, false, false, false, false, false] (i := 10) rfl rfl rfl (by decide) (by kernel_rfl) (tight_body (P := Try.prog) (fn := Try.f5)) ?_
                      clear hs a
                      intro a hs
                      refine d_no hs #[true, true, true, true, true, true, true, true, true, true, true, true, false, false, false, false, false] (i := 11) rfl rfl rfl (by decide) (by kernel_rfl) (tight_body (P := Try.prog) (fn := Try.f5)) ?_
                      clear hs a
                      intro a hs
                      refine d_no hs #[true, true, true, true, true, true, true, true, true, true, true, true, true, false, false, false, false] (i := 12) rfl rfl rfl (by decide) (by kernel_rfl) (tight_body (P := Try.prog) (fn := Try.f5)) ?_
                      clear hs a
                      intro a hs
                      refine d_no hs #[true, true, true, true, true, true, true, true, true, true, true, true, true, true, false, false, false] (i := 13) rfl rfl rfl (by decide) (by kernel_rfl) (tight_body (P := Try.prog) (fn := Try.f5)) ?_
                      clear hs a
                      intro a hs
                      refine d_no hs #[true, true, true, true, true, true, true, true, true, true, true, true, true, true, true, false, false] (i := 14) rfl rfl rfl (by decide) (by kernel_rfl) (tight_body (P := Try.prog) (fn := Try.f5)) ?_
                      clear hs a
                      intro a hs
                      refine d_pure hs #[true, true, true, true, true, true, true, true, true, true, true, true, true, true, true, true, false] (i := 15) rfl rfl rfl (by decide) (by kernel_rfl) (tight_body (P := Try.prog) (fn := Try.f5)) (p_pick_f rfl rfl rfl) ?_
                      clear hs a
                      intro a hs
                      replace hs := hs.to (τ := [(3, (.pointer t21)), (4, (.pointer (some t23))), (6, (.pointer (some o6))), (26, (Sl.val script0)), (27, (.int .i64 (script0.n : Int))), (28, (.int .i64 t28_1)), (131, (.bool false))]) ⟨rfl, rfl, rfl, rfl, rfl, rfl, rfl, trivial⟩
                      refine d_pure hs #[true, true, true, true, true, true, true, true, true, true, true, true, true, true, true, true, true] (i := 16) rfl rfl rfl (by decide) (by kernel_rfl) (tight_body (P := Try.prog) (fn := Try.f5)) (p_assign rfl rfl) ?_
                      clear hs a
                      intro a hs
                      refine d_done (by kernel_rfl) ?_ _
                      clear hS
                      exact J5 false _ _ (hs.to ⟨rfl, rfl, rfl, rfl, rfl, rfl, rfl, trivial⟩) h
                  · replace h := h.2 hb
                    clear hb
                    refine wp_seq_k fun K38 hK38 => ?_
                    refine wp_region_lit ?_
                    refine t_pure hs rfl rfl (by decide) (p_fieldAddr rfl rfl ft_52_2) ?_
                    clear hs a
                    intro a hs
                    obtain ⟨t42, hn, hv, h⟩ := h
                    refine t_eff hs rfl rfl (by decide) (e_loadN rfl rfl at_38 hn hv) ?_
                    clear hs a hn hv
                    intro a hs
                    obtain ⟨p14, w1, ha, hw, h⟩ := h
                    refine t_eff hs rfl rfl (by decide) (e_alloc rfl zt_38 rfl ha hw) ?_
                    clear hs a ha hw
                    intro a hs
                    obtain ⟨w1, hw, hn, hc, hv, h⟩ := h
                    refine t_skip hs rfl rfl (e_storeN rfl rfl rfl sz_38 hw hn hc hv) ?_
                    clear hs a hw hn hc hv
                    intro a hs
                    refine hK38 _ _ ?_
                    refine wp_seq_k fun K39 hK39 => ?_
                    refine wp_region_lit ?_
                    obtain ⟨t43, w1, ha, hw, h⟩ := h
                    refine t_eff hs rfl rfl (by decide) (e_buildSlice (z := #[]) (cs := #[]) rfl sl_22 zt_5 (by decide) rfl rz_5_0 (by rfl) ha hw) ?_
                    clear hs a ha hw
                    intro a hs
                    refine t_pure hs rfl rfl (by decide) (p_fieldAddr rfl rfl ft_52_2) ?_
                    clear hs a
                    intro a hs
                    refine t_pure hs rfl rfl (by decide) (p_fieldAddr rfl rfl ft_38_2) ?_
                    clear hs a
                    intro a hs
                    refine t_pure hs rfl rfl (by decide) (p_fieldAddr rfl rfl ft_36_4) ?_
                    clear hs a
                    intro a hs
                    obtain ⟨t47, hv, h⟩ := h
                    refine t_eff hs rfl rfl (by decide) (e_load rfl rfl ct_22 hv) ?_
                    clear hs a hv
                    intro a hs
                    obtain ⟨t48, w1, hd, h⟩ := h
                    refine t_eff hs rfl rfl (by decide) (e_append rfl rfl rfl rfl hd) ?_
                    clear hs a hd
                    intro a hs
                    refine t_pure hs rfl rfl (by decide) (p_fieldAddr rfl rfl ft_38_2) ?_
                    clear hs a
                    intro a hs
                    refine t_pure hs rfl rfl (by decide) (p_fieldAddr rfl rfl ft_36_4) ?_
                    clear hs a
                    intro a hs
                    replace hs := hs.to (τ := [(3, (.pointer t21)), (4, (.pointer (some t23))), (6, (.pointer (some o6))), (14, (.pointer (some p14))), (26, (Sl.val script0)), (27, (.int .i64 (script0.n : Int))), (28, (.int .i64 t28_1)), (48, (Sl.val t48)), (50, (.pointer (some ((p14.add 2).add 4))))]) ⟨rfl, rfl, rfl, rfl, rfl, rfl, rfl, rfl, rfl, trivial⟩
                    obtain ⟨w1, hw, hc, hf, hv, h⟩ := h
                    refine t_skip hs rfl rfl (e_store rfl rfl rfl sz_22 hw hc hf hv) ?_
                    clear hs a hw hc hf hv
                    intro a hs
                    refine hK39 _ _ ?_
                    refine wp_seq_k fun K40 hK40 => ?_
                    refine wp_seq_k fun K41 hK41 => ?_
                    obtain ⟨w1, hw1, h⟩ := h
                    obtain ⟨S, hS, h⟩ := h
                    subst hw1
                    refine d_start (S := S) (ds := [7]) #[false, false, false, false, false, false, false, false, false] mixed rfl rfl ?_
                    refine d_pure hs #[true, false, false, false, false, false, false, false, false] (i := 0) rfl rfl rfl (by decide) (by kernel_rfl) (tight_body (P := Try.prog) (fn := Try.f5)) (p_move rfl rfl) ?_
                    clear hs a
                    intro a hs
                    refine d_pure hs #[true, false, false, false, true, false, false, false, false] (i := 4) rfl rfl rfl (by decide) (by kernel_rfl) (tight_body (P := Try.prog) (fn := Try.f5)) (p_move rfl rfl) ?_
                    clear hs a
                    intro a hs
                    refine d_pure hs #[true, false, false, false, true, true, false, false, false] (i := 5) rfl rfl rfl (by decide) (by kernel_rfl) (tight_body (P := Try.prog) (fn := Try.f5)) (p_fieldAddr rfl rfl ft_52_2) ?_
                    clear hs a
                    intro a hs
                    obtain ⟨t52, hn, hv, h⟩ := h
                    refine d_read hs #[true, true, false, false, true, true, false, false, false] (i := 1) rfl rfl rfl (by decide) (by kernel_rfl) (by kernel_rfl) (tight_body (P := Try.prog) (fn := Try.f5)) hS (fun w h' => e_loadN rfl rfl at_38 hn (hv w h')) ?_
                    clear hs a hn hv
                    intro a hs
                    obtain ⟨t57, hn, hv, h⟩ := h
                    refine d_read hs #[true, true, false, false, true, true, true, false, false] (i := 6) rfl rfl rfl (by decide) (by kernel_rfl) (by kernel_rfl) (tight_body (P := Try.prog) (fn := Try.f5)) hS (fun w h' => e_loadN rfl rfl at_38 hn (hv w h')) ?_
                    clear hs a hn hv
                    intro a hs
                    refine d_all [2] (by kernel_rfl) (by decide) ?_
                    refine AllS.cons ?_ AllS.nil
                    refine d_call hs #[true, true, true, false, true, true, true, false, false] (i := 2) rfl rfl rfl (by decide) rfl (e_call rfl rfl rfl cb_19) h (fun v w'' hk => by obtain ⟨t53, _, hS, _⟩ := hk; exact fun _ _ => hS) ?_
                    clear hs a h
                    intro v a w hk hs
                    obtain ⟨t53, rfl, h⟩ := hk
                    obtain ⟨hS, h⟩ := h
                    refine d_pure hs #[true, true, true, true, true, true, true, false, false] (i := 3) rfl rfl rfl (by decide) (by kernel_rfl) (tight_body (P := Try.prog) (fn := Try.f5)) (p_eq rfl rfl rfl) ?_
                    clear hs a
                    intro a hs
                    refine d_all [7] (by kernel_rfl) (by decide) ?_
                    refine AllS.cons ?_ AllS.nil
                    refine d_call hs #[true, true, true, true, true, true, true, true, false] (i := 7) rfl rfl rfl (by decide) rfl (e_call rfl rfl rfl cb_27) h (fun _ _ _ hn => (hn (by decide)).elim) ?_
                    clear hs a h
                    intro v a w hk hs
                    obtain ⟨t58, rfl, h⟩ := hk
                    replace hs := hs.to (τ := [(3, (.pointer t21)), (4, (.pointer (some t23))), (14, (.pointer (some p14))), (26, (Sl.val script0)), (27, (.int .i64 (script0.n : Int))), (28, (.int .i64 t28_1)), (54, (.bool (decide (t53 = 0)))), (58, (.bool t58))]) ⟨rfl, rfl, rfl, rfl, rfl, rfl, rfl, rfl, trivial⟩
                    refine d_pure hs #[true, true, true, true, true, true, true, true, true] (i := 8) rfl rfl rfl (by decide) (by kernel_rfl) (tight_body (P := Try.prog) (fn := Try.f5)) (p_neb rfl rfl rfl Try.underlying4) ?_
                    clear hs a
                    intro a hs
                    refine d_done (by kernel_rfl) ?_ _
                    clear hS
                    refine hK41 _ _ ?_
                    refine c_cond hs rfl (fun hb => ?_) (fun hb => ?_)
                    · replace h := h.1 hb
                      clear hb
                      refine wp_seq_k fun K42 hK42 => ?_
                      refine wp_region_lit ?_
                      refine t_pure hs rfl rfl (by decide) (p_assign rfl rfl) ?_
                      clear hs a
                      intro a hs
                      refine hK42 _ _ ?_
                      refine wp_ret ?_
                      refine f_ret (fn := Try.f5) hs (fun a hs => r_one hs rfl (rfl)) ⟨false, rfl, h⟩
                    · replace h := h.2 hb
                      clear hb
                      refine wp_skip ?_
                      refine hK40 _ _ ?_
                      refine wp_seq_k fun K43 hK43 => ?_
                      refine wp_region_lit ?_
                      refine t_pure hs rfl rfl (by decide) (p_fieldAddr rfl rfl ft_38_2) ?_
                      clear hs a
                      intro a hs
                      refine t_pure hs rfl rfl (by decide) (p_fieldAddr rfl rfl ft_36_4) ?_
                      clear hs a
                      intro a hs
                      obtain ⟨t62, hv, h⟩ := h
                      refine t_eff hs rfl rfl (by decide) (e_load rfl rfl ct_22 hv) ?_
                      clear hs a hv
                      intro a hs
                      refine t_pure hs rfl rfl (by decide) (p_len rfl rfl sl_22) ?_
                      clear hs a
                      intro a hs
                      refine t_pure hs rfl rfl (by decide) (p_move rfl rfl) ?_
                      clear hs a
                      intro a hs
                      refine hK43 _ _ ?_
                      refine wp_block ?_
                      obtain ⟨I6, μ6, h0, hr⟩ := h
                      refine c_loop (α := Int) I6 μ6 (fun x a => Slots a 147 [(3, (.pointer t21)), (4, (.pointer (some t23))), (14, (.pointer (some p14))), (26, (Sl.val script0)), (27, (.int .i64 (script0.n : Int))), (28, (.int .i64 t28_1)), (63, (.int .i64 (t62.n : Int))), (64, (.int .i64 x))]) 0 h0 (hs.to ⟨rfl, rfl, rfl, rfl, rfl, rfl, rfl, rfl, trivial⟩) ?_
                      clear h0 hs a
                      intro t64_6 a w hI hs
                      have h : law20_NetPlays.b6 Q X1 (fun t64_6n w' => I6 t64_6n w' ∧ μ6 t64_6n w' < μ6 t64_6 w) t21 t23 p14 script0 (script0.n : Int) t28_1 (t62.n : Int) t64_6 w := hr t64_6 w hI
                      clear hr hI
                      generalize hX6 : (fun t64_6n w' => I6 t64_6n w' ∧ μ6 t64_6n w' < μ6 t64_6 w) = X6 at h
                      unfold law20_NetPlays.b6 at h
                      replace hs : Slots a 147 [(3, (.pointer t21)), (4, (.pointer (some t23))), (14, (.pointer (some p14))), (26, (Sl.val script0)), (27, (.int .i64 (script0.n : Int))), (28, (.int .i64 t28_1)), (63, (.int .i64 (t62.n : Int))), (64, (.int .i64 t64_6))] := hs
                      refine wp_seq_k fun K44 hK44 => ?_
                      refine wp_region_lit ?_
                      refine t_pure hs rfl rfl (by decide) (p_lt rfl rfl rfl) ?_
                      clear hs a
                      intro a hs
                      refine hK44 _ _ ?_
                      refine wp_seq_k fun K45 hK45 => ?_
                      refine c_cond hs rfl (fun hb => ?_) (fun hb => ?_)
                      · replace h := h.1 hb
                        clear hb
                        refine wp_skip ?_
                        refine hK45 _ _ ?_
                        refine wp_seq_k fun K46 hK46 => ?_
                        refine wp_block ?_
                        refine wp_seq_k fun K47 hK47 => ?_
                        refine wp_region_lit ?_
                        refine t_pure hs rfl rfl (by decide) (p_move rfl rfl) ?_
                        clear hs a
                        intro a hs
                        refine t_pure hs rfl rfl (by decide) (p_assign rfl rfl) ?_
                        clear hs a
                        intro a hs
                        refine hK47 _ _ ?_
                        refine wp_region_lit ?_
                        refine t_pure hs rfl rfl (by decide) (p_fieldAddr rfl rfl ft_38_2) ?_
                        clear hs a
                        intro a hs
                        refine t_pure hs rfl rfl (by decide) (p_fieldAddr rfl rfl ft_36_4) ?_
                        clear hs a
                        intro a hs
                        obtain ⟨t69, hv, h⟩ := h
                        refine t_eff hs rfl rfl (by decide) (e_load rfl rfl ct_22 hv) ?_
                        clear hs a hv
                        intro a hs
                        refine t_pure hs rfl rfl (by decide) (p_move rfl rfl) ?_
                        clear hs a
                        intro a hs
                        obtain ⟨qt71, t71, ha, h0, h1, he, h⟩ := h
                        refine t_pure hs rfl rfl (by decide) (Pure.adr he (p_idx rfl rfl rfl sl_22 ha h0 h1)) ?_
                        clear hs a ha h0 h1 he
                        intro a hs
                        obtain ⟨w1, hw, hc, hf, hv, h⟩ := h
                        refine t_skip hs rfl rfl (e_store rfl rfl rfl sz_5 hw hc hf hv) ?_
                        clear hs a hw hc hf hv
                        intro a hs
                        refine hK46 _ _ ?_
                        refine wp_region_lit ?_
                        obtain ⟨t72, he, h⟩ := h
                        refine t_pure hs rfl rfl (by decide) (Pure.int he (p_add rfl rfl rfl)) ?_
                        clear hs a he
                        intro a hs
                        refine t_pure hs rfl rfl (by decide) (p_move rfl rfl) ?_
                        clear hs a
                        intro a hs
                        rw [← hX6] at h
                        exact ⟨t72, hs.to ⟨rfl, rfl, rfl, rfl, rfl, rfl, rfl, rfl, trivial⟩, h⟩
                      · replace h := h.2 hb
                        clear hb
                        refine wp_exit ?_
                        exact J2 _ _ (hs.to ⟨rfl, rfl, rfl, rfl, rfl, trivial⟩) h
            clear hK25
            refine wp_seq_k fun K48 hK48 => ?_
            refine wp_region_lit ?_
            refine t_pure hs rfl rfl (by decide) (p_eq rfl rfl rfl) ?_
            clear hs a
            intro a hs
            refine t_pure hs rfl rfl (by decide) (p_assign rfl rfl) ?_
            clear hs a
            intro a hs
            refine hK48 _ _ ?_
            refine c_cond hs rfl (fun hb => ?_) (fun hb => ?_)
            · replace h := h.1 hb
              clear hb
              refine wp_skip ?_
              exact J3 (decide (t40 = 0)) _ _ (hs.to ⟨rfl, rfl, rfl, rfl, rfl, rfl, rfl, rfl, trivial⟩) h
            · replace h := h.2 hb
              clear hb
              refine wp_region_lit ?_
              refine t_pure hs rfl rfl (by decide) (p_eq rfl rfl rfl) ?_
              clear hs a
              intro a hs
              refine t_pure hs rfl rfl (by decide) (p_assign rfl rfl) ?_
              clear hs a
              intro a hs
              exact J3 (decide (t40 = 1)) _ _ (hs.to ⟨rfl, rfl, rfl, rfl, rfl, rfl, rfl, rfl, trivial⟩) h
        · replace h := h.2 hb
          clear hb
          refine wp_exit ?_
          refine hK12 _ _ ?_
          refine wp_seq_k fun K49 hK49 => ?_
          refine wp_region_lit ?_
          refine t_pure hs rfl rfl (by decide) (p_assign rfl rfl) ?_
          clear hs a
          intro a hs
          refine hK49 _ _ ?_
          refine wp_ret ?_
          refine f_ret (fn := Try.f5) hs (fun a hs => r_one hs rfl (rfl)) ⟨true, rfl, h⟩
end Go.Proofs.Ytilejcnbacmdnaa
