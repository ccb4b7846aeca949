/- Plain forms of functions, and that their code comes to them (package law20). -/
import Derived.Test.YtilejcnbacmdnaaCalls
namespace Go.Proofs.Ytilejcnbacmdnaa
open Go Go.Sep
set_option linter.unusedVariables false
set_option linter.unusedSimpArgs false
set_option maxRecDepth 100000
set_option maxHeartbeats 4000000
def law20_NetFirst.s4 (Q : Bool → K) (X2 : Int → K) (X3 : Sl → Int → K) (n5_4 : (Option Addr)) (left6_4 : Sl) (t43_4 : Sl) (t44_4 : Int) (t45_4 : Int) : K :=
  Ar (IntKind.wrap .i64 (t45_4 + 1)) fun t72 =>
  X3 left6_4 t72
def law20_NetFirst.s5 (Q : Bool → K) (X2 : Int → K) (X3 : Sl → Int → K) (n5_5 : (Option Addr)) (left6_5 : Sl) (k10_5 : Int) (ok11_5 : Bool) (t43_5 : Sl) (t44_5 : Int) (t45_5 : Int) : K :=
  net_Net_Drop.call n5_5 k10_5 fun t59 =>
  Ite (!(t59 == ok11_5))
    (Q false)
    (Ite ok11_5
      (Dr <|
      Slc left6_5 0 k10_5 k10_5 1 fun t66 =>
      Ar (IntKind.wrap .i64 (k10_5 + 1)) fun t69 =>
      Slc left6_5 t69 (left6_5.n : Int) (left6_5.c : Int) 1 fun t70 =>
      Do Try.prog (Builtin.append_ #[32, 32] 32 #[(Sl.val t66), (Sl.val t70)]) Sl.val fun t71 =>
      law20_NetFirst.s4 Q X2 X3 n5_5 t71 t43_5 t44_5 t45_5)
      (law20_NetFirst.s4 Q X2 X3 n5_5 left6_5 t43_5 t44_5 t45_5))
def law20_NetFirst.s7 (Q : Bool → K) (X2 : Int → K) (X3 : Sl → Int → K) (X6 : Int → K) (n5_7 : (Option Addr)) (t73_7 : Sl) (t74_7 : Int) (t75_7 : Int) (t91_7 : Bool) : K :=
  Ite t91_7
    (Q false)
    (Ar (IntKind.wrap .i64 (t75_7 + 1)) fun t92 =>
    X6 t92)
def law20_NetFirst.b6 (Q : Bool → K) (X2 : Int → K) (X3 : Sl → Int → K) (X6 : Int → K) (n5_6 : (Option Addr)) (t73_6 : Sl) (t74_6 : Int) (t75_6 : Int) : K :=
  Ite (decide (t75_6 < t74_6))
    (Idx t73_6 t75_6 1 fun t77 =>
    Ld t77 (Value.int .i64) fun t78 =>
    net_Net_Take.call n5_6 0 fun t81x0 t81x1 =>
    New 38 #[(.int .i64 0), (.int .i64 0), (.int .u64 0), (.int .u64 0), (.int .u64 0), (.int .u64 0), (Sl.val ⟨none, 0, 0⟩)] fun p14 =>
    StN p14 7 t81x0 <|
    Ite (!t81x1)
      (law20_NetFirst.s7 Q X2 X3 X6 n5_6 t73_6 t74_6 t75_6 true)
      (Ld p14 (Value.int .i64) fun t88 =>
      law20_NetFirst.s7 Q X2 X3 X6 n5_6 t73_6 t74_6 t75_6 (decide (t88 ≠ t78))))
    (net_Net_Len.call n5_6 fun t94 =>
    Q (decide (t94 = 0)))
def law20_NetFirst.b3 (Q : Bool → K) (X2 : Int → K) (X3 : Sl → Int → K) (n5_3 : (Option Addr)) (t43_3 : Sl) (t44_3 : Int) (left6_3 : Sl) (t45_3 : Int) : K :=
  Ite (decide (t45_3 < t44_3))
    (Idx t43_3 t45_3 1 fun t47 =>
    Ld t47 (Value.int .i64) fun t48 =>
    Ite (decide ((0 : Int) ≤ t48))
      (law20_NetFirst.s5 Q X2 X3 n5_3 left6_3 t48 (decide (t48 < (left6_3.n : Int))) t43_3 t44_3 t45_3)
      (law20_NetFirst.s5 Q X2 X3 n5_3 left6_3 t48 false t43_3 t44_3 t45_3))
    (LoopK (α := Int) (fun X x => law20_NetFirst.b6 Q X2 X3 X n5_3 left6_3 (left6_3.n : Int) x) 0)
def law20_NetFirst.b2 (Q : Bool → K)  (X2 : Int → K) (drops1_2 : Sl) (n5_2 : (Option Addr)) (left6_2 : Sl) (t32_2 : Sl) (t33_2 : Int) (t34_2 : Int) : K :=
  Ite (decide (t34_2 < t33_2))
    (Idx t32_2 t34_2 1 fun t36 =>
    Ld t36 (Value.int .i64) fun t37 =>
    net_Net_Send.call n5_2 #[(.int .i64 t37), (.int .i64 0), (.int .u64 0), (.int .u64 0), (.int .u64 0), (.int .u64 0), (Sl.val ⟨none, 0, 0⟩)] fun t41 =>
    Ar (IntKind.wrap .i64 (t34_2 + 1)) fun t42 =>
    X2 t42)
    (LoopK (α := Sl × Int) (fun X x => law20_NetFirst.b3 Q X2 (fun left6_3 t45_3 => X (left6_3, t45_3)) n5_2 drops1_2 (drops1_2.n : Int) x.1 x.2) (left6_2, 0))
def law20_NetFirst.s1 (Q : Bool → K)  (list0_1 : Sl) (drops1_1 : Sl) (t25_1 : Bool) : K :=
  Ite t25_1
    (Q true)
    (net_New.call  fun t26 =>
    New 3 #[] fun t27 =>
    Do Try.prog (Builtin.append_ #[32, 32] 32 #[(Sl.val (Sl.mk (some t27) 0 0)), (Sl.val list0_1)]) Sl.val fun t29 =>
    Ite ((t26).isNone)
      (Q false)
      (LoopK (α := Int) (fun X x => law20_NetFirst.b2 Q X drops1_1 t26 t29 list0_1 (list0_1.n : Int) x) 0))
def law20_NetFirst (list0 : Sl) (drops1 : Sl) (Q : Bool → K) : K :=
  law20_speaks.call  fun t16 =>
  Ite (!t16)
    (Q false)
    (Ite (decide ((100 : Int) < (list0.n : Int)))
      (law20_NetFirst.s1 Q list0 drops1 true)
      (law20_NetFirst.s1 Q list0 drops1 (decide ((100 : Int) < (drops1.n : Int)))))
theorem law20_NetFirst_ok (list0 : Sl) (drops1 : Sl) (Q : Bool → K) (w : World) (h : law20_NetFirst list0 drops1 Q w) : law20_NetFirst.call list0 drops1 Q w := by
  unfold law20_NetFirst.call CallF
  refine f_start (args := [(Sl.val list0), (Sl.val drops1)]) Try.func6 rfl (Nat.le_of_ble_eq_true rfl) ?_
  intro a hs
  unfold law20_NetFirst at h
  refine wp_seq_k fun K1 hK1 => ?_
  refine wp_region_lit ?_
  refine t_pure hs rfl rfl (by decide) (p_assign rfl rfl) ?_
  clear hs a
  intro a hs
  refine hK1 _ _ ?_
  refine wp_seq_k fun K2 hK2 => ?_
  refine wp_seq_k fun K3 hK3 => ?_
  refine wp_region_lit ?_
  refine t_call hs rfl rfl (by decide) (e_call rfl rfl rfl cb_17) h ?_
  clear hs a h
  intro v a w hk hs
  obtain ⟨t16, rfl, h⟩ := hk
  refine t_pure hs rfl rfl (by decide) (p_not rfl rfl) ?_
  clear hs a
  intro a hs
  refine hK3 _ _ ?_
  refine c_cond hs rfl (fun hb => ?_) (fun hb => ?_)
  · replace h := h.1 hb
    clear hb
    refine wp_seq_k fun K4 hK4 => ?_
    refine wp_region_lit ?_
    refine t_pure hs rfl rfl (by decide) (p_assign rfl rfl) ?_
    clear hs a
    intro a hs
    refine hK4 _ _ ?_
    refine wp_ret ?_
    refine f_ret (fn := Try.f6) hs (fun a hs => r_one hs rfl (rfl)) ⟨false, rfl, h⟩
  · replace h := h.2 hb
    clear hb
    refine wp_skip ?_
    refine hK2 _ _ ?_
    refine wp_seq_k fun K5 hK5 => ?_
    refine wp_seq_k fun K6 hK6 => ?_
    have J1 : ∀ (t25_1 : Bool) (a : Act) (w : World), Slots a 96 [(0, (Sl.val list0)), (1, (Sl.val drops1)), (25, (.bool t25_1))] → law20_NetFirst.s1 Q list0 drops1 t25_1 w → K6 a w := by
      clear h hs
      intro t25_1 a w hs h
      refine hK6 _ _ ?_
      unfold law20_NetFirst.s1 at h
      refine c_cond hs rfl (fun hb => ?_) (fun hb => ?_)
      · replace h := h.1 hb
        clear hb
        refine wp_seq_k fun K7 hK7 => ?_
        refine wp_region_lit ?_
        refine t_pure hs rfl rfl (by decide) (p_assign rfl rfl) ?_
        clear hs a
        intro a hs
        refine hK7 _ _ ?_
        refine wp_ret ?_
        refine f_ret (fn := Try.f6) hs (fun a hs => r_one hs rfl (rfl)) ⟨true, rfl, h⟩
      · replace h := h.2 hb
        clear hb
        refine wp_skip ?_
        refine hK5 _ _ ?_
        refine wp_seq_k fun K8 hK8 => ?_
        refine wp_region_lit ?_
        refine t_call hs rfl rfl (by decide) (e_call rfl rfl rfl cb_18) h ?_
        clear hs a h
        intro v a w hk hs
        obtain ⟨t26, rfl, h⟩ := hk
        obtain ⟨t27, w1, ha, hw, h⟩ := h
        refine t_eff hs rfl rfl (by decide) (e_buildSlice (z := #[]) (cs := #[]) rfl sl_32 zt_3 (by decide) rfl rz_3_0 (by rfl) ha hw) ?_
        clear hs a ha hw
        intro a hs
        refine t_pure hs rfl rfl (by decide) (p_move rfl rfl) ?_
        clear hs a
        intro a hs
        obtain ⟨t29, w1, hd, h⟩ := h
        refine t_eff hs rfl rfl (by decide) (e_append rfl rfl rfl rfl hd) ?_
        clear hs a hd
        intro a hs
        refine t_pure hs rfl rfl (by decide) (p_assign rfl rfl) ?_
        clear hs a
        intro a hs
        refine t_pure hs rfl rfl (by decide) (p_assign rfl rfl) ?_
        clear hs a
        intro a hs
        refine hK8 _ _ ?_
        refine wp_seq_k fun K9 hK9 => ?_
        refine wp_seq_k fun K10 hK10 => ?_
        refine wp_region_lit ?_
        refine t_pure hs rfl rfl (by decide) (p_move rfl rfl) ?_
        clear hs a
        intro a hs
        refine t_pure hs rfl rfl (by decide) (p_eq_nil rfl rfl rfl Try.underlying33) ?_
        clear hs a
        intro a hs
        refine hK10 _ _ ?_
        refine c_cond hs rfl (fun hb => ?_) (fun hb => ?_)
        · replace h := h.1 hb
          clear hb
          refine wp_seq_k fun K11 hK11 => ?_
          refine wp_region_lit ?_
          refine t_pure hs rfl rfl (by decide) (p_assign rfl rfl) ?_
          clear hs a
          intro a hs
          refine hK11 _ _ ?_
          refine wp_ret ?_
          refine f_ret (fn := Try.f6) hs (fun a hs => r_one hs rfl (rfl)) ⟨false, rfl, h⟩
        · replace h := h.2 hb
          clear hb
          refine wp_skip ?_
          refine hK9 _ _ ?_
          refine wp_seq_k fun K12 hK12 => ?_
          refine wp_seq_k fun K13 hK13 => ?_
          refine wp_region_lit ?_
          refine t_pure hs rfl rfl (by decide) (p_move rfl rfl) ?_
          clear hs a
          intro a hs
          refine t_pure hs rfl rfl (by decide) (p_len rfl rfl sl_32) ?_
          clear hs a
          intro a hs
          refine t_pure hs rfl rfl (by decide) (p_move rfl rfl) ?_
          clear hs a
          intro a hs
          refine hK13 _ _ ?_
          refine wp_block ?_
          obtain ⟨I2, μ2, h0, hr⟩ := h
          refine c_loop (α := Int) I2 μ2 (fun x a => Slots a 96 [(1, (Sl.val drops1)), (5, (.pointer t26)), (6, (Sl.val t29)), (32, (Sl.val list0)), (33, (.int .i64 (list0.n : Int))), (34, (.int .i64 x))]) 0 h0 (hs.to ⟨rfl, rfl, rfl, rfl, rfl, rfl, trivial⟩) ?_
          clear h0 hs a
          intro t34_2 a w hI hs
          have h : law20_NetFirst.b2 Q (fun t34_2n w' => I2 t34_2n w' ∧ μ2 t34_2n w' < μ2 t34_2 w) drops1 t26 t29 list0 (list0.n : Int) t34_2 w := hr t34_2 w hI
          clear hr hI
          generalize hX2 : (fun t34_2n w' => I2 t34_2n w' ∧ μ2 t34_2n w' < μ2 t34_2 w) = X2 at h
          unfold law20_NetFirst.b2 at h
          replace hs : Slots a 96 [(1, (Sl.val drops1)), (5, (.pointer t26)), (6, (Sl.val t29)), (32, (Sl.val list0)), (33, (.int .i64 (list0.n : Int))), (34, (.int .i64 t34_2))] := hs
          refine wp_seq_k fun K14 hK14 => ?_
          refine wp_region_lit ?_
          refine t_pure hs rfl rfl (by decide) (p_lt rfl rfl rfl) ?_
          clear hs a
          intro a hs
          refine hK14 _ _ ?_
          refine wp_seq_k fun K15 hK15 => ?_
          refine c_cond hs rfl (fun hb => ?_) (fun hb => ?_)
          · replace h := h.1 hb
            clear hb
            refine wp_skip ?_
            refine hK15 _ _ ?_
            refine wp_seq_k fun K16 hK16 => ?_
            refine wp_block ?_
            refine wp_seq_k fun K17 hK17 => ?_
            refine wp_region_lit ?_
            obtain ⟨qt36, t36, ha, h0, h1, he, h⟩ := h
            refine t_pure hs rfl rfl (by decide) (Pure.adr he (p_idx rfl rfl rfl sl_32 ha h0 h1)) ?_
            clear hs a ha h0 h1 he
            intro a hs
            obtain ⟨t37, hv, h⟩ := h
            refine t_eff hs rfl rfl (by decide) (e_load rfl rfl ct_3 hv) ?_
            clear hs a hv
            intro a hs
            refine t_pure hs rfl rfl (by decide) (p_assign rfl rfl) ?_
            clear hs a
            intro a hs
            refine hK17 _ _ ?_
            refine wp_region_lit ?_
            refine t_pure hs rfl rfl (by decide) (p_move rfl rfl) ?_
            clear hs a
            intro a hs
            refine t_pure hs rfl rfl (by decide) (p_move rfl rfl) ?_
            clear hs a
            intro a hs
            refine t_pure hs rfl rfl (by decide) (e_build (cs := #[(.int .i64 t37), (.int .i64 0), (.int .u64 0), (.int .u64 0), (.int .u64 0), (.int .u64 0), (Sl.val ⟨none, 0, 0⟩)]) rfl zt_38 pl_38 rfl rfl) ?_
            clear hs a
            intro a hs
            refine t_call hs rfl rfl (by decide) (e_call rfl rfl rfl cb_19) h ?_
            clear hs a h
            intro v a w hk hs
            obtain ⟨t41, rfl, h⟩ := hk
            refine hK16 _ _ ?_
            refine wp_region_lit ?_
            obtain ⟨t42, he, h⟩ := h
            refine t_pure hs rfl rfl (by decide) (Pure.int he (p_add rfl rfl rfl)) ?_
            clear hs a he
            intro a hs
            refine t_pure hs rfl rfl (by decide) (p_move rfl rfl) ?_
            clear hs a
            intro a hs
            rw [← hX2] at h
            exact ⟨t42, hs.to ⟨rfl, rfl, rfl, rfl, rfl, rfl, trivial⟩, h⟩
          · replace h := h.2 hb
            clear hb
            refine wp_exit ?_
            refine hK12 _ _ ?_
            refine wp_seq_k fun K18 hK18 => ?_
            refine wp_seq_k fun K19 hK19 => ?_
            refine wp_region_lit ?_
            refine t_pure hs rfl rfl (by decide) (p_move rfl rfl) ?_
            clear hs a
            intro a hs
            refine t_pure hs rfl rfl (by decide) (p_len rfl rfl sl_32) ?_
            clear hs a
            intro a hs
            refine t_pure hs rfl rfl (by decide) (p_move rfl rfl) ?_
            clear hs a
            intro a hs
            refine hK19 _ _ ?_
            refine wp_block ?_
            obtain ⟨I3, μ3, h0, hr⟩ := h
            refine c_loop (α := Sl × Int) I3 μ3 (fun x a => Slots a 96 [(5, (.pointer t26)), (6, (Sl.val x.1)), (43, (Sl.val drops1)), (44, (.int .i64 (drops1.n : Int))), (45, (.int .i64 x.2))]) (t29, 0) h0 (hs.to ⟨rfl, rfl, rfl, rfl, rfl, trivial⟩) ?_
            clear h0 hs a
            rintro ⟨left6_3, t45_3⟩ a w hI hs
            have h : law20_NetFirst.b3 Q X2 (fun left6_3n t45_3n w' => I3 (left6_3n, t45_3n) w' ∧ μ3 (left6_3n, t45_3n) w' < μ3 (left6_3, t45_3) w) t26 drops1 (drops1.n : Int) left6_3 t45_3 w := hr (left6_3, t45_3) w hI
            clear hr hI
            generalize hX3 : (fun left6_3n t45_3n w' => I3 (left6_3n, t45_3n) w' ∧ μ3 (left6_3n, t45_3n) w' < μ3 (left6_3, t45_3) w) = X3 at h
            unfold law20_NetFirst.b3 at h
            replace hs : Slots a 96 [(5, (.pointer t26)), (6, (Sl.val left6_3)), (43, (Sl.val drops1)), (44, (.int .i64 (drops1.n : Int))), (45, (.int .i64 t45_3))] := hs
            refine wp_seq_k fun K20 hK20 => ?_
            refine wp_region_lit ?_
            refine t_pure hs rfl rfl (by decide) (p_lt rfl rfl rfl) ?_
            clear hs a
            intro a hs
            refine hK20 _ _ ?_
            refine wp_seq_k fun K21 hK21 => ?_
            refine c_cond hs rfl (fun hb => ?_) (fun hb => ?_)
            · replace h := h.1 hb
              clear hb
              refine wp_skip ?_
              refine hK21 _ _ ?_
              refine wp_seq_k fun K22 hK22 => ?_
              have J4 : ∀ (left6_4 : Sl) (a : Act) (w : World), Slots a 96 [(5, (.pointer t26)), (6, (Sl.val left6_4)), (43, (Sl.val drops1)), (44, (.int .i64 (drops1.n : Int))), (45, (.int .i64 t45_3))] → law20_NetFirst.s4 Q X2 X3 t26 left6_4 drops1 (drops1.n : Int) t45_3 w → K22 a w := by
                clear h hs
                intro left6_4 a w hs h
                refine hK22 _ _ ?_
                unfold law20_NetFirst.s4 at h
                refine wp_region_lit ?_
                obtain ⟨t72, he, h⟩ := h
                refine t_pure hs rfl rfl (by decide) (Pure.int he (p_add rfl rfl rfl)) ?_
                clear hs a he
                intro a hs
                refine t_pure hs rfl rfl (by decide) (p_move rfl rfl) ?_
                clear hs a
                intro a hs
                rw [← hX3] at h
                exact ⟨(left6_4, t72), hs.to ⟨rfl, rfl, rfl, rfl, rfl, trivial⟩, h⟩
              clear hK22
              refine wp_block ?_
              refine wp_seq_k fun K23 hK23 => ?_
              refine wp_region_lit ?_
              obtain ⟨qt47, t47, ha, h0, h1, he, h⟩ := h
              refine t_pure hs rfl rfl (by decide) (Pure.adr he (p_idx rfl rfl rfl sl_32 ha h0 h1)) ?_
              clear hs a ha h0 h1 he
              intro a hs
              obtain ⟨t48, hv, h⟩ := h
              refine t_eff hs rfl rfl (by decide) (e_load rfl rfl ct_3 hv) ?_
              clear hs a hv
              intro a hs
              refine t_pure hs rfl rfl (by decide) (p_assign rfl rfl) ?_
              clear hs a
              intro a hs
              refine hK23 _ _ ?_
              refine wp_seq_k fun K24 hK24 => ?_
              have J5 : ∀ (ok11_5 : Bool) (a : Act) (w : World), Slots a 96 [(5, (.pointer t26)), (6, (Sl.val left6_3)), (10, (.int .i64 t48)), (11, (.bool ok11_5)), (43, (Sl.val drops1)), (44, (.int .i64 (drops1.n : Int))), (45, (.int .i64 t45_3))] → law20_NetFirst.s5 Q X2 X3 t26 left6_3 t48 ok11_5 drops1 (drops1.n : Int) t45_3 w → K24 a w := by
                clear h hs
                intro ok11_5 a w hs h
                refine hK24 _ _ ?_
                unfold law20_NetFirst.s5 at h
                refine wp_seq_k fun K25 hK25 => ?_
                refine wp_seq_k fun K26 hK26 => ?_
                refine wp_region_lit ?_
                refine t_pure hs rfl rfl (by decide) (p_move rfl rfl) ?_
                clear hs a
                intro a hs
                refine t_pure hs rfl rfl (by decide) (p_move rfl rfl) ?_
                clear hs a
                intro a hs
                refine t_call hs rfl rfl (by decide) (e_call rfl rfl rfl cb_25) h ?_
                clear hs a h
                intro v a w hk hs
                obtain ⟨t59, rfl, h⟩ := hk
                refine t_pure hs rfl rfl (by decide) (p_move rfl rfl) ?_
                clear hs a
                intro a hs
                refine t_pure hs rfl rfl (by decide) (p_neb rfl rfl rfl Try.underlying4) ?_
                clear hs a
                intro a hs
                refine hK26 _ _ ?_
                refine c_cond hs rfl (fun hb => ?_) (fun hb => ?_)
                · replace h := h.1 hb
                  clear hb
                  refine wp_seq_k fun K27 hK27 => ?_
                  refine wp_region_lit ?_
                  refine t_pure hs rfl rfl (by decide) (p_assign rfl rfl) ?_
                  clear hs a
                  intro a hs
                  refine hK27 _ _ ?_
                  refine wp_ret ?_
                  refine f_ret (fn := Try.f6) hs (fun a hs => r_one hs rfl (rfl)) ⟨false, rfl, h⟩
                · replace h := h.2 hb
                  clear hb
                  refine wp_skip ?_
                  refine hK25 _ _ ?_
                  refine wp_seq_k fun K28 hK28 => ?_
                  refine wp_region_lit ?_
                  refine t_pure hs rfl rfl (by decide) (p_move rfl rfl) ?_
                  clear hs a
                  intro a hs
                  refine hK28 _ _ ?_
                  refine c_cond hs rfl (fun hb => ?_) (fun hb => ?_)
                  · replace h := h.1 hb
                    clear hb
                    obtain ⟨w1, hw1, h⟩ := h
                    refine d_start (S := Any) (ds := []) #[false, false, false, false, false, false, false, false, false, false] mixed rfl rfl ?_
                    rw [← hw1]
                    have hS := Any.intro w1
                    clear hw1
                    refine d_pure hs #[true, false, false, false, false, false, false, false, false, false] (i := 0) rfl rfl rfl (by decide) (by kernel_rfl) (tight_body (P := Try.prog) (fn := Try.f6)) (p_move rfl rfl) ?_
                    clear hs a
                    intro a hs
                    refine d_pure hs #[true, true, false, false, false, false, false, false, false, false] (i := 1) rfl rfl rfl (by decide) (by kernel_rfl) (tight_body (P := Try.prog) (fn := Try.f6)) (p_move rfl rfl) ?_
                    clear hs a
                    intro a hs
                    refine d_pure hs #[true, true, true, false, false, false, false, false, false, false] (i := 2) rfl rfl rfl (by decide) (by kernel_rfl) (tight_body (P := Try.prog) (fn := Try.f6)) (p_move rfl rfl) ?_
                    clear hs a
                    intro a hs
                    obtain ⟨t66, h0, h1, h2, h3, he, h⟩ := h
                    refine d_pure hs #[true, true, true, true, false, false, false, false, false, false] (i := 3) rfl rfl rfl (by decide) (by kernel_rfl) (tight_body (P := Try.prog) (fn := Try.f6)) (Pure.sl he (p_slc rfl rfl sl_32 rfl ⟨_, rfl⟩ ⟨_, rfl⟩ (by decide) h0 h1 h2 h3)) ?_
                    clear hs a h0 h1 h2 h3 he
                    intro a hs
                    refine d_pure hs #[true, true, true, true, true, false, false, false, false, false] (i := 4) rfl rfl rfl (by decide) (by kernel_rfl) (tight_body (P := Try.prog) (fn := Try.f6)) (p_move rfl rfl) ?_
                    clear hs a
                    intro a hs
                    refine d_pure hs #[true, true, true, true, true, true, false, false, false, false] (i := 5) rfl rfl rfl (by decide) (by kernel_rfl) (tight_body (P := Try.prog) (fn := Try.f6)) (p_move rfl rfl) ?_
                    clear hs a
                    intro a hs
                    obtain ⟨t69, he, h⟩ := h
                    refine d_pure hs #[true, true, true, true, true, true, true, false, false, false] (i := 6) rfl rfl rfl (by decide) (by kernel_rfl) (tight_body (P := Try.prog) (fn := Try.f6)) (Pure.int he (p_add rfl rfl rfl)) ?_
                    clear hs a he
                    intro a hs
                    obtain ⟨t70, h0, h1, h2, h3, he, h⟩ := h
                    refine d_pure hs #[true, true, true, true, true, true, true, true, false, false] (i := 7) rfl rfl rfl (by decide) (by kernel_rfl) (tight_body (P := Try.prog) (fn := Try.f6)) (Pure.sl he (p_slc rfl rfl sl_32 ⟨_, rfl⟩ rfl rfl (by decide) h0 h1 h2 h3)) ?_
                    clear hs a h0 h1 h2 h3 he
                    intro a hs
                    replace hs := hs.to (τ := [(5, (.pointer t26)), (6, (Sl.val left6_3)), (43, (Sl.val drops1)), (44, (.int .i64 (drops1.n : Int))), (45, (.int .i64 t45_3)), (66, (Sl.val t66)), (70, (Sl.val t70))]) ⟨rfl, rfl, rfl, rfl, rfl, rfl, rfl, trivial⟩
                    refine d_all [8] (by kernel_rfl) (by decide) ?_
                    refine AllS.cons ?_ AllS.nil
                    obtain ⟨t71, w1, hd, h⟩ := h
                    refine d_eff hs #[true, true, true, true, true, true, true, true, true, false] (i := 8) rfl rfl rfl (by decide) rfl (e_append rfl rfl rfl rfl hd) (fun _ _ => Any.intro _) ?_
                    clear hs a hd
                    intro a hs
                    refine d_pure hs #[true, true, true, true, true, true, true, true, true, true] (i := 9) rfl rfl rfl (by decide) (by kernel_rfl) (tight_body (P := Try.prog) (fn := Try.f6)) (p_assign rfl rfl) ?_
                    clear hs a
                    intro a hs
                    refine d_done (by kernel_rfl) ?_ _
                    clear hS
                    exact J4 t71 _ _ (hs.to ⟨rfl, rfl, rfl, rfl, rfl, trivial⟩) h
                  · replace h := h.2 hb
                    clear hb
                    refine wp_skip ?_
                    exact J4 left6_3 _ _ (hs.to ⟨rfl, rfl, rfl, rfl, rfl, trivial⟩) h
              clear hK24
              refine wp_region_lit ?_
              refine t_pure hs rfl rfl (by decide) (p_move rfl rfl) ?_
              clear hs a
              intro a hs
              refine t_pure hs rfl rfl (by decide) (p_ge rfl rfl rfl) ?_
              clear hs a
              intro a hs
              refine t_pure hs rfl rfl (by decide) (p_move rfl rfl) ?_
              clear hs a
              intro a hs
              refine split_bool (decide ((0 : Int) ≤ t48)) (fun hb => ?_) (fun hb => ?_)
              · replace h := h.1 hb
                rw [hb] at hs
                clear hb
                refine t_yes hs rfl ?_
                refine t_pure hs rfl rfl (by decide) (p_move rfl rfl) ?_
                clear hs a
                intro a hs
                refine t_yes hs rfl ?_
                refine t_pure hs rfl rfl (by decide) (p_move rfl rfl) ?_
                clear hs a
                intro a hs
                refine t_yes hs rfl ?_
                refine t_pure hs rfl rfl (by decide) (p_len rfl rfl sl_32) ?_
                clear hs a
                intro a hs
                refine t_yes hs rfl ?_
                refine t_pure hs rfl rfl (by decide) (p_lt rfl rfl rfl) ?_
                clear hs a
                intro a hs
                refine t_pure hs rfl rfl (by decide) (p_pick_t rfl rfl rfl) ?_
                clear hs a
                intro a hs
                replace hs := hs.to (τ := [(5, (.pointer t26)), (6, (Sl.val left6_3)), (10, (.int .i64 t48)), (43, (Sl.val drops1)), (44, (.int .i64 (drops1.n : Int))), (45, (.int .i64 t45_3)), (56, (.bool (decide (t48 < (left6_3.n : Int)))))]) ⟨rfl, rfl, rfl, rfl, rfl, rfl, rfl, trivial⟩
                refine t_pure hs rfl rfl (by decide) (p_assign rfl rfl) ?_
                clear hs a
                intro a hs
                exact J5 (decide (t48 < (left6_3.n : Int))) _ _ (hs.to ⟨rfl, rfl, rfl, rfl, rfl, rfl, rfl, trivial⟩) h
              · replace h := h.2 hb
                rw [hb] at hs
                clear hb
                refine t_no hs rfl rfl (by decide) ?_
                clear hs a
                intro a hs
                refine t_no hs rfl rfl (by decide) ?_
                clear hs a
                intro a hs
                refine t_no hs rfl rfl (by decide) ?_
                clear hs a
                intro a hs
                refine t_no hs rfl rfl (by decide) ?_
                clear hs a
                intro a hs
                refine t_pure hs rfl rfl (by decide) (p_pick_f rfl rfl rfl) ?_
                clear hs a
                intro a hs
                replace hs := hs.to (τ := [(5, (.pointer t26)), (6, (Sl.val left6_3)), (10, (.int .i64 t48)), (43, (Sl.val drops1)), (44, (.int .i64 (drops1.n : Int))), (45, (.int .i64 t45_3)), (56, (.bool false))]) ⟨rfl, rfl, rfl, rfl, rfl, rfl, rfl, trivial⟩
                refine t_pure hs rfl rfl (by decide) (p_assign rfl rfl) ?_
                clear hs a
                intro a hs
                exact J5 false _ _ (hs.to ⟨rfl, rfl, rfl, rfl, rfl, rfl, rfl, trivial⟩) h
            · replace h := h.2 hb
              clear hb
              refine wp_exit ?_
              refine hK18 _ _ ?_
              refine wp_seq_k fun K29 hK29 => ?_
              refine wp_seq_k fun K30 hK30 => ?_
              refine wp_region_lit ?_
              refine t_pure hs rfl rfl (by decide) (p_move rfl rfl) ?_
              clear hs a
              intro a hs
              refine t_pure hs rfl rfl (by decide) (p_len rfl rfl sl_32) ?_
              clear hs a
              intro a hs
              refine t_pure hs rfl rfl (by decide) (p_move rfl rfl) ?_
              clear hs a
              intro a hs
              refine hK30 _ _ ?_
              refine wp_block ?_
              obtain ⟨I6, μ6, h0, hr⟩ := h
              refine c_loop (α := Int) I6 μ6 (fun x a => Slots a 96 [(5, (.pointer t26)), (73, (Sl.val left6_3)), (74, (.int .i64 (left6_3.n : Int))), (75, (.int .i64 x))]) 0 h0 (hs.to ⟨rfl, rfl, rfl, rfl, trivial⟩) ?_
              clear h0 hs a
              intro t75_6 a w hI hs
              have h : law20_NetFirst.b6 Q X2 X3 (fun t75_6n w' => I6 t75_6n w' ∧ μ6 t75_6n w' < μ6 t75_6 w) t26 left6_3 (left6_3.n : Int) t75_6 w := hr t75_6 w hI
              clear hr hI
              generalize hX6 : (fun t75_6n w' => I6 t75_6n w' ∧ μ6 t75_6n w' < μ6 t75_6 w) = X6 at h
              unfold law20_NetFirst.b6 at h
              replace hs : Slots a 96 [(5, (.pointer t26)), (73, (Sl.val left6_3)), (74, (.int .i64 (left6_3.n : Int))), (75, (.int .i64 t75_6))] := hs
              refine wp_seq_k fun K31 hK31 => ?_
              refine wp_region_lit ?_
              refine t_pure hs rfl rfl (by decide) (p_lt rfl rfl rfl) ?_
              clear hs a
              intro a hs
              refine hK31 _ _ ?_
              refine wp_seq_k fun K32 hK32 => ?_
              refine c_cond hs rfl (fun hb => ?_) (fun hb => ?_)
              · replace h := h.1 hb
                clear hb
                refine wp_skip ?_
                refine hK32 _ _ ?_
                refine wp_seq_k fun K33 hK33 => ?_
                refine wp_block ?_
                refine wp_seq_k fun K34 hK34 => ?_
                refine wp_region_lit ?_
                obtain ⟨qt77, t77, ha, h0, h1, he, h⟩ := h
                refine t_pure hs rfl rfl (by decide) (Pure.adr he (p_idx rfl rfl rfl sl_32 ha h0 h1)) ?_
                clear hs a ha h0 h1 he
                intro a hs
                obtain ⟨t78, hv, h⟩ := h
                refine t_eff hs rfl rfl (by decide) (e_load rfl rfl ct_3 hv) ?_
                clear hs a hv
                intro a hs
                refine t_pure hs rfl rfl (by decide) (p_assign rfl rfl) ?_
                clear hs a
                intro a hs
                refine hK34 _ _ ?_
                refine wp_seq_k fun K35 hK35 => ?_
                refine wp_region_lit ?_
                refine t_pure hs rfl rfl (by decide) (p_move rfl rfl) ?_
                clear hs a
                intro a hs
                refine t_call hs rfl rfl (by decide) (e_call rfl rfl rfl cb_22) h ?_
                clear hs a h
                intro v a w hk hs
                obtain ⟨t81x0, t81x1, rfl, h⟩ := hk
                refine t_pure hs rfl rfl (by decide) (p_move rfl rfl) ?_
                clear hs a
                intro a hs
                refine t_pure hs rfl rfl (by decide) (p_extract rfl rfl rfl) ?_
                clear hs a
                intro a hs
                refine t_pure hs rfl rfl (by decide) (p_extract rfl rfl rfl) ?_
                clear hs a
                intro a hs
                obtain ⟨p14, w1, ha, hw, h⟩ := h
                refine t_eff hs rfl rfl (by decide) (e_alloc rfl zt_38 rfl ha hw) ?_
                clear hs a ha hw
                intro a hs
                obtain ⟨w1, hw, hn, hc, hv, h⟩ := h
                refine t_skip hs rfl rfl (e_storeN rfl rfl rfl sz_38 hw hn hc hv) ?_
                clear hs a hw hn hc hv
                intro a hs
                refine t_pure hs rfl rfl (by decide) (p_assign rfl rfl) ?_
                clear hs a
                intro a hs
                refine hK35 _ _ ?_
                refine wp_seq_k fun K36 hK36 => ?_
                have J7 : ∀ (t91_7 : Bool) (a : Act) (w : World), Slots a 96 [(5, (.pointer t26)), (73, (Sl.val left6_3)), (74, (.int .i64 (left6_3.n : Int))), (75, (.int .i64 t75_6)), (91, (.bool t91_7))] → law20_NetFirst.s7 Q X2 X3 X6 t26 left6_3 (left6_3.n : Int) t75_6 t91_7 w → K36 a w := by
                  clear h hs
                  intro t91_7 a w hs h
                  refine hK36 _ _ ?_
                  unfold law20_NetFirst.s7 at h
                  refine c_cond hs rfl (fun hb => ?_) (fun hb => ?_)
                  · replace h := h.1 hb
                    clear hb
                    refine wp_seq_k fun K37 hK37 => ?_
                    refine wp_region_lit ?_
                    refine t_pure hs rfl rfl (by decide) (p_assign rfl rfl) ?_
                    clear hs a
                    intro a hs
                    refine hK37 _ _ ?_
                    refine wp_ret ?_
                    refine f_ret (fn := Try.f6) hs (fun a hs => r_one hs rfl (rfl)) ⟨false, rfl, h⟩
                  · replace h := h.2 hb
                    clear hb
                    refine wp_skip ?_
                    refine hK33 _ _ ?_
                    refine wp_region_lit ?_
                    obtain ⟨t92, he, h⟩ := h
                    refine t_pure hs rfl rfl (by decide) (Pure.int he (p_add rfl rfl rfl)) ?_
                    clear hs a he
                    intro a hs
                    refine t_pure hs rfl rfl (by decide) (p_move rfl rfl) ?_
                    clear hs a
                    intro a hs
                    rw [← hX6] at h
                    exact ⟨t92, hs.to ⟨rfl, rfl, rfl, rfl, trivial⟩, h⟩
                clear hK36
                refine wp_region_lit ?_
                refine t_pure hs rfl rfl (by decide) (p_move rfl rfl) ?_
                clear hs a
                intro a hs
                refine t_pure hs rfl rfl (by decide) (p_not rfl rfl) ?_
                clear hs a
                intro a hs
                refine t_pure hs rfl rfl (by decide) (p_move rfl rfl) ?_
                clear hs a
                intro a hs
                refine split_bool (!t81x1) (fun hb => ?_) (fun hb => ?_)
                · replace h := h.1 hb
                  rw [hb] at hs
                  clear hb
                  refine t_no hs rfl rfl (by decide) ?_
                  clear hs a
                  intro a hs
                  refine t_no hs rfl rfl (by decide) ?_
                  clear hs a
                  intro a hs
                  refine t_no hs rfl rfl (by decide) ?_
                  clear hs a
                  intro a hs
                  refine t_no hs rfl rfl (by decide) ?_
                  clear hs a
                  intro a hs
                  refine t_pure hs rfl rfl (by decide) (p_pick_t rfl rfl rfl) ?_
                  clear hs a
                  intro a hs
                  exact J7 true _ _ (hs.to ⟨rfl, rfl, rfl, rfl, rfl, trivial⟩) h
                · replace h := h.2 hb
                  rw [hb] at hs
                  clear hb
                  refine t_yes hs rfl ?_
                  refine t_pure hs rfl rfl (by decide) (p_fieldAddr0 rfl rfl ft_38_0) ?_
                  clear hs a
                  intro a hs
                  refine t_yes hs rfl ?_
                  obtain ⟨t88, hv, h⟩ := h
                  refine t_eff hs rfl rfl (by decide) (e_load rfl rfl ct_3 hv) ?_
                  clear hs a hv
                  intro a hs
                  refine t_yes hs rfl ?_
                  refine t_pure hs rfl rfl (by decide) (p_move rfl rfl) ?_
                  clear hs a
                  intro a hs
                  refine t_yes hs rfl ?_
                  refine t_pure hs rfl rfl (by decide) (p_ne rfl rfl rfl) ?_
                  clear hs a
                  intro a hs
                  refine t_pure hs rfl rfl (by decide) (p_pick_f rfl rfl rfl) ?_
                  clear hs a
                  intro a hs
                  exact J7 (decide (t88 ≠ t78)) _ _ (hs.to ⟨rfl, rfl, rfl, rfl, rfl, trivial⟩) h
              · replace h := h.2 hb
                clear hb
                refine wp_exit ?_
                refine hK29 _ _ ?_
                refine wp_seq_k fun K38 hK38 => ?_
                refine wp_region_lit ?_
                refine t_pure hs rfl rfl (by decide) (p_move rfl rfl) ?_
                clear hs a
                intro a hs
                refine t_call hs rfl rfl (by decide) (e_call rfl rfl rfl cb_21) h ?_
                clear hs a h
                intro v a w hk hs
                obtain ⟨t94, rfl, h⟩ := hk
                refine t_pure hs rfl rfl (by decide) (p_eq rfl rfl rfl) ?_
                clear hs a
                intro a hs
                refine t_pure hs rfl rfl (by decide) (p_assign rfl rfl) ?_
                clear hs a
                intro a hs
                refine hK38 _ _ ?_
                refine wp_ret ?_
                refine f_ret (fn := Try.f6) hs (fun a hs => r_one hs rfl (rfl)) ⟨(decide (t94 = 0)), rfl, h⟩
    clear hK6
    refine wp_region_lit ?_
    refine t_pure hs rfl rfl (by decide) (p_move rfl rfl) ?_
    clear hs a
    intro a hs
    refine t_pure hs rfl rfl (by decide) (p_len rfl rfl sl_32) ?_
    clear hs a
    intro a hs
    refine t_pure hs rfl rfl (by decide) (p_gt rfl rfl rfl) ?_
    clear hs a
    intro a hs
    refine t_pure hs rfl rfl (by decide) (p_move rfl rfl) ?_
    clear hs a
    intro a hs
    refine split_bool (decide ((100 : Int) < (list0.n : Int))) (fun hb => ?_) (fun hb => ?_)
    · replace h := h.1 hb
      rw [hb] at hs
      clear hb
      refine t_no hs rfl rfl (by decide) ?_
      clear hs a
      intro a hs
      refine t_no hs rfl rfl (by decide) ?_
      clear hs a
      intro a hs
      refine t_no hs rfl rfl (by decide) ?_
      clear hs a
      intro a hs
      refine t_pure hs rfl rfl (by decide) (p_pick_t rfl rfl rfl) ?_
      clear hs a
      intro a hs
      exact J1 true _ _ (hs.to ⟨rfl, rfl, rfl, trivial⟩) h
    · replace h := h.2 hb
      rw [hb] at hs
      clear hb
      refine t_yes hs rfl ?_
      refine t_pure hs rfl rfl (by decide) (p_move rfl rfl) ?_
      clear hs a
      intro a hs
      refine t_yes hs rfl ?_
      refine t_pure hs rfl rfl (by decide) (p_len rfl rfl sl_32) ?_
      clear hs a
      intro a hs
      refine t_yes hs rfl ?_
      refine t_pure hs rfl rfl (by decide) (p_gt rfl rfl rfl) ?_
      clear hs a
      intro a hs
      refine t_pure hs rfl rfl (by decide) (p_pick_f rfl rfl rfl) ?_
      clear hs a
      intro a hs
      exact J1 (decide ((100 : Int) < (drops1.n : Int))) _ _ (hs.to ⟨rfl, rfl, rfl, trivial⟩) h
def law20_speaks.s1 (Q : Bool → K)  (t0_1 : Bool) : K :=
  Q t0_1
def law20_speaks  (Q : Bool → K) : K :=
  net_New.call  fun t9 =>
  Ite ((t9).isNone)
    (Q false)
    (net_Net_Send.call t9 #[(.int .i64 1), (.int .i64 0), (.int .u64 0), (.int .u64 0), (.int .u64 0), (.int .u64 0), (Sl.val ⟨none, 0, 0⟩)] fun t14 =>
    net_Net_Send.call t9 #[(.int .i64 2), (.int .i64 0), (.int .u64 0), (.int .u64 0), (.int .u64 0), (.int .u64 0), (Sl.val ⟨none, 0, 0⟩)] fun t17 =>
    net_Net_Copy.call t9 0 fun t19 =>
    net_Net_Take.call t9 0 fun t22x0 t22x1 =>
    New 38 #[(.int .i64 0), (.int .i64 0), (.int .u64 0), (.int .u64 0), (.int .u64 0), (.int .u64 0), (Sl.val ⟨none, 0, 0⟩)] fun a3 =>
    StN a3 7 t22x0 <|
    net_Net_Take.call t9 0 fun t27x0 t27x1 =>
    New 38 #[(.int .i64 0), (.int .i64 0), (.int .u64 0), (.int .u64 0), (.int .u64 0), (.int .u64 0), (Sl.val ⟨none, 0, 0⟩)] fun b5 =>
    StN b5 7 t27x0 <|
    net_Net_Take.call t9 0 fun t32x0 t32x1 =>
    New 38 #[(.int .i64 0), (.int .i64 0), (.int .u64 0), (.int .u64 0), (.int .u64 0), (.int .u64 0), (Sl.val ⟨none, 0, 0⟩)] fun c7 =>
    StN c7 7 t32x0 <|
    Ite t19
      (Ld a3 (Value.int .i64) fun t38 =>
      Ite (decide (t38 = 1))
        (Ld b5 (Value.int .i64) fun t43 =>
        Ite (decide (t43 = 2))
          (Ld c7 (Value.int .i64) fun t48 =>
          Ite (decide (t48 = 1))
            (net_Net_Len.call t9 fun t53 =>
            law20_speaks.s1 Q (decide (t53 = 0)))
            (law20_speaks.s1 Q false))
          (law20_speaks.s1 Q false))
        (law20_speaks.s1 Q false))
      (law20_speaks.s1 Q false))
theorem law20_speaks_ok  (Q : Bool → K) (w : World) (h : law20_speaks  Q w) : law20_speaks.call  Q w := by
  unfold law20_speaks.call CallF
  refine f_start (args := []) Try.func17 rfl (Nat.le_of_ble_eq_true rfl) ?_
  intro a hs
  unfold law20_speaks at h
  refine wp_seq_k fun K1 hK1 => ?_
  refine wp_region_lit ?_
  refine t_pure hs rfl rfl (by decide) (p_assign rfl rfl) ?_
  clear hs a
  intro a hs
  refine hK1 _ _ ?_
  refine wp_seq_k fun K2 hK2 => ?_
  refine wp_region_lit ?_
  refine t_call hs rfl rfl (by decide) (e_call rfl rfl rfl cb_18) h ?_
  clear hs a h
  intro v a w hk hs
  obtain ⟨t9, rfl, h⟩ := hk
  refine t_pure hs rfl rfl (by decide) (p_assign rfl rfl) ?_
  clear hs a
  intro a hs
  refine hK2 _ _ ?_
  refine wp_seq_k fun K3 hK3 => ?_
  refine wp_seq_k fun K4 hK4 => ?_
  refine wp_region_lit ?_
  refine t_pure hs rfl rfl (by decide) (p_move rfl rfl) ?_
  clear hs a
  intro a hs
  refine t_pure hs rfl rfl (by decide) (p_eq_nil rfl rfl rfl Try.underlying33) ?_
  clear hs a
  intro a hs
  refine hK4 _ _ ?_
  refine c_cond hs rfl (fun hb => ?_) (fun hb => ?_)
  · replace h := h.1 hb
    clear hb
    refine wp_seq_k fun K5 hK5 => ?_
    refine wp_region_lit ?_
    refine t_pure hs rfl rfl (by decide) (p_assign rfl rfl) ?_
    clear hs a
    intro a hs
    refine hK5 _ _ ?_
    refine wp_ret ?_
    refine f_ret (fn := Try.f17) hs (fun a hs => r_one hs rfl (rfl)) ⟨false, rfl, h⟩
  · replace h := h.2 hb
    clear hb
    refine wp_skip ?_
    refine hK3 _ _ ?_
    refine wp_seq_k fun K6 hK6 => ?_
    refine wp_region_lit ?_
    refine t_pure hs rfl rfl (by decide) (p_move rfl rfl) ?_
    clear hs a
    intro a hs
    refine t_pure hs rfl rfl (by decide) (e_build (cs := #[(.int .i64 1), (.int .i64 0), (.int .u64 0), (.int .u64 0), (.int .u64 0), (.int .u64 0), (Sl.val ⟨none, 0, 0⟩)]) rfl zt_38 pl_38 rfl rfl) ?_
    clear hs a
    intro a hs
    refine t_call hs rfl rfl (by decide) (e_call rfl rfl rfl cb_19) h ?_
    clear hs a h
    intro v a w hk hs
    obtain ⟨t14, rfl, h⟩ := hk
    refine hK6 _ _ ?_
    refine wp_seq_k fun K7 hK7 => ?_
    refine wp_region_lit ?_
    refine t_pure hs rfl rfl (by decide) (p_move rfl rfl) ?_
    clear hs a
    intro a hs
    refine t_pure hs rfl rfl (by decide) (e_build (cs := #[(.int .i64 2), (.int .i64 0), (.int .u64 0), (.int .u64 0), (.int .u64 0), (.int .u64 0), (Sl.val ⟨none, 0, 0⟩)]) rfl zt_38 pl_38 rfl rfl) ?_
    clear hs a
    intro a hs
    refine t_call hs rfl rfl (by decide) (e_call rfl rfl rfl cb_19) h ?_
    clear hs a h
    intro v a w hk hs
    obtain ⟨t17, rfl, h⟩ := hk
    refine hK7 _ _ ?_
    refine wp_seq_k fun K8 hK8 => ?_
    refine wp_region_lit ?_
    refine t_pure hs rfl rfl (by decide) (p_move rfl rfl) ?_
    clear hs a
    intro a hs
    refine t_call hs rfl rfl (by decide) (e_call rfl rfl rfl cb_20) h ?_
    clear hs a h
    intro v a w hk hs
    obtain ⟨t19, rfl, h⟩ := hk
    refine t_pure hs rfl rfl (by decide) (p_assign rfl rfl) ?_
    clear hs a
    intro a hs
    refine hK8 _ _ ?_
    refine wp_seq_k fun K9 hK9 => ?_
    refine wp_region_lit ?_
    refine t_pure hs rfl rfl (by decide) (p_move rfl rfl) ?_
    clear hs a
    intro a hs
    refine t_call hs rfl rfl (by decide) (e_call rfl rfl rfl cb_22) h ?_
    clear hs a h
    intro v a w hk hs
    obtain ⟨t22x0, t22x1, rfl, h⟩ := hk
    refine t_pure hs rfl rfl (by decide) (p_move rfl rfl) ?_
    clear hs a
    intro a hs
    refine t_pure hs rfl rfl (by decide) (p_extract rfl rfl rfl) ?_
    clear hs a
    intro a hs
    refine t_pure hs rfl rfl (by decide) (p_extract rfl rfl rfl) ?_
    clear hs a
    intro a hs
    obtain ⟨a3, w1, ha, hw, h⟩ := h
    refine t_eff hs rfl rfl (by decide) (e_alloc rfl zt_38 rfl ha hw) ?_
    clear hs a ha hw
    intro a hs
    obtain ⟨w1, hw, hn, hc, hv, h⟩ := h
    refine t_skip hs rfl rfl (e_storeN rfl rfl rfl sz_38 hw hn hc hv) ?_
    clear hs a hw hn hc hv
    intro a hs
    refine t_pure hs rfl rfl (by decide) (p_assign rfl rfl) ?_
    clear hs a
    intro a hs
    refine hK9 _ _ ?_
    refine wp_seq_k fun K10 hK10 => ?_
    refine wp_region_lit ?_
    refine t_pure hs rfl rfl (by decide) (p_move rfl rfl) ?_
    clear hs a
    intro a hs
    refine t_call hs rfl rfl (by decide) (e_call rfl rfl rfl cb_22) h ?_
    clear hs a h
    intro v a w hk hs
    obtain ⟨t27x0, t27x1, rfl, h⟩ := hk
    refine t_pure hs rfl rfl (by decide) (p_move rfl rfl) ?_
    clear hs a
    intro a hs
    refine t_pure hs rfl rfl (by decide) (p_extract rfl rfl rfl) ?_
    clear hs a
    intro a hs
    refine t_pure hs rfl rfl (by decide) (p_extract rfl rfl rfl) ?_
    clear hs a
    intro a hs
    obtain ⟨b5, w1, ha, hw, h⟩ := h
    refine t_eff hs rfl rfl (by decide) (e_alloc rfl zt_38 rfl ha hw) ?_
    clear hs a ha hw
    intro a hs
    obtain ⟨w1, hw, hn, hc, hv, h⟩ := h
    refine t_skip hs rfl rfl (e_storeN rfl rfl rfl sz_38 hw hn hc hv) ?_
    clear hs a hw hn hc hv
    intro a hs
    refine t_pure hs rfl rfl (by decide) (p_assign rfl rfl) ?_
    clear hs a
    intro a hs
    refine hK10 _ _ ?_
    refine wp_seq_k fun K11 hK11 => ?_
    refine wp_region_lit ?_
    refine t_pure hs rfl rfl (by decide) (p_move rfl rfl) ?_
    clear hs a
    intro a hs
    refine t_call hs rfl rfl (by decide) (e_call rfl rfl rfl cb_22) h ?_
    clear hs a h
    intro v a w hk hs
    obtain ⟨t32x0, t32x1, rfl, h⟩ := hk
    refine t_pure hs rfl rfl (by decide) (p_move rfl rfl) ?_
    clear hs a
    intro a hs
    refine t_pure hs rfl rfl (by decide) (p_extract rfl rfl rfl) ?_
    clear hs a
    intro a hs
    refine t_pure hs rfl rfl (by decide) (p_extract rfl rfl rfl) ?_
    clear hs a
    intro a hs
    obtain ⟨c7, w1, ha, hw, h⟩ := h
    refine t_eff hs rfl rfl (by decide) (e_alloc rfl zt_38 rfl ha hw) ?_
    clear hs a ha hw
    intro a hs
    obtain ⟨w1, hw, hn, hc, hv, h⟩ := h
    refine t_skip hs rfl rfl (e_storeN rfl rfl rfl sz_38 hw hn hc hv) ?_
    clear hs a hw hn hc hv
    intro a hs
    refine t_pure hs rfl rfl (by decide) (p_assign rfl rfl) ?_
    clear hs a
    intro a hs
    refine hK11 _ _ ?_
    refine wp_seq_k fun K12 hK12 => ?_
    have J1 : ∀ (t0_1 : Bool) (a : Act) (w : World), Slots a 56 [(0, (.bool t0_1))] → law20_speaks.s1 Q t0_1 w → K12 a w := by
      clear h hs
      intro t0_1 a w hs h
      refine hK12 _ _ ?_
      unfold law20_speaks.s1 at h
      refine wp_ret ?_
      refine f_ret (fn := Try.f17) hs (fun a hs => r_one hs rfl (rfl)) ⟨t0_1, rfl, h⟩
    clear hK12
    refine wp_region_lit ?_
    refine t_pure hs rfl rfl (by decide) (p_move rfl rfl) ?_
    clear hs a
    intro a hs
    refine t_pure hs rfl rfl (by decide) (p_move rfl rfl) ?_
    clear hs a
    intro a hs
    refine split_bool t19 (fun hb => ?_) (fun hb => ?_)
    · replace h := h.1 hb
      rw [hb] at hs
      clear hb
      refine t_yes hs rfl ?_
      refine t_pure hs rfl rfl (by decide) (p_fieldAddr0 rfl rfl ft_38_0) ?_
      clear hs a
      intro a hs
      refine t_yes hs rfl ?_
      obtain ⟨t38, hv, h⟩ := h
      refine t_eff hs rfl rfl (by decide) (e_load rfl rfl ct_3 hv) ?_
      clear hs a hv
      intro a hs
      refine t_yes hs rfl ?_
      refine t_pure hs rfl rfl (by decide) (p_eq rfl rfl rfl) ?_
      clear hs a
      intro a hs
      refine t_pure hs rfl rfl (by decide) (p_pick_t rfl rfl rfl) ?_
      clear hs a
      intro a hs
      refine t_pure hs rfl rfl (by decide) (p_move rfl rfl) ?_
      clear hs a
      intro a hs
      refine split_bool (decide (t38 = 1)) (fun hb => ?_) (fun hb => ?_)
      · replace h := h.1 hb
        rw [hb] at hs
        clear hb
        refine t_yes hs rfl ?_
        refine t_pure hs rfl rfl (by decide) (p_fieldAddr0 rfl rfl ft_38_0) ?_
        clear hs a
        intro a hs
        replace hs := hs.to (τ := [(1, (.pointer t9)), (7, (.pointer (some c7))), (41, (.bool true)), (42, (.pointer (some b5)))]) ⟨rfl, rfl, rfl, rfl, trivial⟩
        refine t_yes hs rfl ?_
        obtain ⟨t43, hv, h⟩ := h
        refine t_eff hs rfl rfl (by decide) (e_load rfl rfl ct_3 hv) ?_
        clear hs a hv
        intro a hs
        refine t_yes hs rfl ?_
        refine t_pure hs rfl rfl (by decide) (p_eq rfl rfl rfl) ?_
        clear hs a
        intro a hs
        refine t_pure hs rfl rfl (by decide) (p_pick_t rfl rfl rfl) ?_
        clear hs a
        intro a hs
        refine t_pure hs rfl rfl (by decide) (p_move rfl rfl) ?_
        clear hs a
        intro a hs
        refine split_bool (decide (t43 = 2)) (fun hb => ?_) (fun hb => ?_)
        · replace h := h.1 hb
          rw [hb] at hs
          clear hb
          refine t_yes hs rfl ?_
          refine t_pure hs rfl rfl (by decide) (p_fieldAddr0 rfl rfl ft_38_0) ?_
          clear hs a
          intro a hs
          refine t_yes hs rfl ?_
          obtain ⟨t48, hv, h⟩ := h
          refine t_eff hs rfl rfl (by decide) (e_load rfl rfl ct_3 hv) ?_
          clear hs a hv
          intro a hs
          refine t_yes hs rfl ?_
          refine t_pure hs rfl rfl (by decide) (p_eq rfl rfl rfl) ?_
          clear hs a
          intro a hs
          refine t_pure hs rfl rfl (by decide) (p_pick_t rfl rfl rfl) ?_
          clear hs a
          intro a hs
          replace hs := hs.to (τ := [(1, (.pointer t9)), (50, (.bool (decide (t48 = 1))))]) ⟨rfl, rfl, trivial⟩
          refine t_pure hs rfl rfl (by decide) (p_move rfl rfl) ?_
          clear hs a
          intro a hs
          refine split_bool (decide (t48 = 1)) (fun hb => ?_) (fun hb => ?_)
          · replace h := h.1 hb
            rw [hb] at hs
            clear hb
            refine t_yes hs rfl ?_
            refine t_pure hs rfl rfl (by decide) (p_move rfl rfl) ?_
            clear hs a
            intro a hs
            refine t_yes hs rfl ?_
            refine t_call hs rfl rfl (by decide) (e_call rfl rfl rfl cb_21) h ?_
            clear hs a h
            intro v a w hk hs
            obtain ⟨t53, rfl, h⟩ := hk
            refine t_yes hs rfl ?_
            refine t_pure hs rfl rfl (by decide) (p_eq rfl rfl rfl) ?_
            clear hs a
            intro a hs
            refine t_pure hs rfl rfl (by decide) (p_pick_t rfl rfl rfl) ?_
            clear hs a
            intro a hs
            refine t_pure hs rfl rfl (by decide) (p_assign rfl rfl) ?_
            clear hs a
            intro a hs
            exact J1 (decide (t53 = 0)) _ _ (hs.to ⟨rfl, trivial⟩) h
          · replace h := h.2 hb
            rw [hb] at hs
            clear hb
            refine t_no hs rfl rfl (by decide) ?_
            clear hs a
            intro a hs
            refine t_no hs rfl rfl (by decide) ?_
            clear hs a
            intro a hs
            refine t_no hs rfl rfl (by decide) ?_
            clear hs a
            intro a hs
            refine t_pure hs rfl rfl (by decide) (p_pick_f rfl rfl rfl) ?_
            clear hs a
            intro a hs
            refine t_pure hs rfl rfl (by decide) (p_assign rfl rfl) ?_
            clear hs a
            intro a hs
            exact J1 false _ _ (hs.to ⟨rfl, trivial⟩) h
        · replace h := h.2 hb
          rw [hb] at hs
          clear hb
          refine t_no hs rfl rfl (by decide) ?_
          clear hs a
          intro a hs
          refine t_no hs rfl rfl (by decide) ?_
          clear hs a
          intro a hs
          refine t_no hs rfl rfl (by decide) ?_
          clear hs a
          intro a hs
          refine t_pure hs rfl rfl (by decide) (p_pick_f rfl rfl rfl) ?_
          clear hs a
          intro a hs
          replace hs := hs.to (τ := [(1, (.pointer t9)), (50, (.bool false))]) ⟨rfl, rfl, trivial⟩
          refine t_pure hs rfl rfl (by decide) (p_move rfl rfl) ?_
          clear hs a
          intro a hs
          refine t_no hs rfl rfl (by decide) ?_
          clear hs a
          intro a hs
          refine t_no hs rfl rfl (by decide) ?_
          clear hs a
          intro a hs
          refine t_no hs rfl rfl (by decide) ?_
          clear hs a
          intro a hs
          refine t_pure hs rfl rfl (by decide) (p_pick_f rfl rfl rfl) ?_
          clear hs a
          intro a hs
          refine t_pure hs rfl rfl (by decide) (p_assign rfl rfl) ?_
          clear hs a
          intro a hs
          exact J1 false _ _ (hs.to ⟨rfl, trivial⟩) h
      · replace h := h.2 hb
        rw [hb] at hs
        clear hb
        refine t_no hs rfl rfl (by decide) ?_
        clear hs a
        intro a hs
        replace hs := hs.to (τ := [(1, (.pointer t9)), (7, (.pointer (some c7))), (41, (.bool false)), (42, undef)]) ⟨rfl, rfl, rfl, rfl, trivial⟩
        refine t_no hs rfl rfl (by decide) ?_
        clear hs a
        intro a hs
        refine t_no hs rfl rfl (by decide) ?_
        clear hs a
        intro a hs
        refine t_pure hs rfl rfl (by decide) (p_pick_f rfl rfl rfl) ?_
        clear hs a
        intro a hs
        refine t_pure hs rfl rfl (by decide) (p_move rfl rfl) ?_
        clear hs a
        intro a hs
        refine t_no hs rfl rfl (by decide) ?_
        clear hs a
        intro a hs
        refine t_no hs rfl rfl (by decide) ?_
        clear hs a
        intro a hs
        refine t_no hs rfl rfl (by decide) ?_
        clear hs a
        intro a hs
        refine t_pure hs rfl rfl (by decide) (p_pick_f rfl rfl rfl) ?_
        clear hs a
        intro a hs
        replace hs := hs.to (τ := [(1, (.pointer t9)), (50, (.bool false))]) ⟨rfl, rfl, trivial⟩
        refine t_pure hs rfl rfl (by decide) (p_move rfl rfl) ?_
        clear hs a
        intro a hs
        refine t_no hs rfl rfl (by decide) ?_
        clear hs a
        intro a hs
        refine t_no hs rfl rfl (by decide) ?_
        clear hs a
        intro a hs
        refine t_no hs rfl rfl (by decide) ?_
        clear hs a
        intro a hs
        refine t_pure hs rfl rfl (by decide) (p_pick_f rfl rfl rfl) ?_
        clear hs a
        intro a hs
        refine t_pure hs rfl rfl (by decide) (p_assign rfl rfl) ?_
        clear hs a
        intro a hs
        exact J1 false _ _ (hs.to ⟨rfl, trivial⟩) h
    · replace h := h.2 hb
      rw [hb] at hs
      clear hb
      refine t_no hs rfl rfl (by decide) ?_
      clear hs a
      intro a hs
      refine t_no hs rfl rfl (by decide) ?_
      clear hs a
      intro a hs
      refine t_no hs rfl rfl (by decide) ?_
      clear hs a
      intro a hs
      refine t_pure hs rfl rfl (by decide) (p_pick_f rfl rfl rfl) ?_
      clear hs a
      intro a hs
      refine t_pure hs rfl rfl (by decide) (p_move rfl rfl) ?_
      clear hs a
      intro a hs
      refine t_no hs rfl rfl (by decide) ?_
      clear hs a
      intro a hs
      replace hs := hs.to (τ := [(1, (.pointer t9)), (7, (.pointer (some c7))), (41, (.bool false)), (42, undef)]) ⟨rfl, rfl, rfl, rfl, trivial⟩
      refine t_no hs rfl rfl (by decide) ?_
      clear hs a
      intro a hs
      refine t_no hs rfl rfl (by decide) ?_
      clear hs a
      intro a hs
      refine t_pure hs rfl rfl (by decide) (p_pick_f rfl rfl rfl) ?_
      clear hs a
      intro a hs
      refine t_pure hs rfl rfl (by decide) (p_move rfl rfl) ?_
      clear hs a
      intro a hs
      refine t_no hs rfl rfl (by decide) ?_
      clear hs a
      intro a hs
      refine t_no hs rfl rfl (by decide) ?_
      clear hs a
      intro a hs
      refine t_no hs rfl rfl (by decide) ?_
      clear hs a
      intro a hs
      refine t_pure hs rfl rfl (by decide) (p_pick_f rfl rfl rfl) ?_
      clear hs a
      intro a hs
      replace hs := hs.to (τ := [(1, (.pointer t9)), (50, (.bool false))]) ⟨rfl, rfl, trivial⟩
      refine t_pure hs rfl rfl (by decide) (p_move rfl rfl) ?_
      clear hs a
      intro a hs
      refine t_no hs rfl rfl (by decide) ?_
      clear hs a
      intro a hs
      refine t_no hs rfl rfl (by decide) ?_
      clear hs a
      intro a hs
      refine t_no hs rfl rfl (by decide) ?_
      clear hs a
      intro a hs
      refine t_pure hs rfl rfl (by decide) (p_pick_f rfl rfl rfl) ?_
      clear hs a
      intro a hs
      refine t_pure hs rfl rfl (by decide) (p_assign rfl rfl) ?_
      clear hs a
      intro a hs
      exact J1 false _ _ (hs.to ⟨rfl, trivial⟩) h
end Go.Proofs.Ytilejcnbacmdnaa
