/- Plain forms of functions, and that their code comes to them (package law19). -/
import Derived.Test.YtilejcnbacmdnaaCalls
namespace Go.Proofs.Ytilejcnbacmdnaa
open Go Go.Sep
set_option linter.unusedVariables false
set_option linter.unusedSimpArgs false
set_option maxRecDepth 100000
set_option maxHeartbeats 4000000
def law19_LinkRoom.s3 (Q : Bool → K) (X1 : Int → Int → Int → K) (X2 : Int → Int → K) (n0_3 : Int) (l5_3 : (Option Addr)) (sent6_3 : Int) (done7_3 : Int) (i10_3 : Int) (t26_3 : Sl) (t27_3 : Int) (t28_3 : Int) : K :=
  Ar (IntKind.wrap .i64 (i10_3 + 1)) fun t54 =>
  X2 sent6_3 t54
def law19_LinkRoom.s4 (Q : Bool → K) (X1 : Int → Int → Int → K) (X2 : Int → Int → K) (n0_4 : Int) (l5_4 : (Option Addr)) (sent6_4 : Int) (done7_4 : Int) (t26_4 : Sl) (t27_4 : Int) (t28_4 : Int) (t93_4 : Bool) : K :=
  Ite t93_4
    (Q false)
    (Ar (IntKind.wrap .i64 (t28_4 + 1)) fun t94 =>
    X1 sent6_4 done7_4 t94)
def law19_LinkRoom.b2 (Q : Bool → K) (X1 : Int → Int → Int → K) (X2 : Int → Int → K) (n0_2 : Int) (l5_2 : (Option Addr)) (done7_2 : Int) (t26_2 : Sl) (t27_2 : Int) (t28_2 : Int) (sent6_2 : Int) (i10_2 : Int) : K :=
  Ar (bitsOf .and .i64 n0_2 31) fun t50 =>
  Ar (IntKind.wrap .i64 (1 + t50)) fun t51 =>
  Ite (decide (i10_2 < t51))
    (Ar (IntKind.wrap .u8 i10_2) fun t57 =>
    New 5 #[(.int .u8 t57)] fun t58 =>
    link_Link_Send.call l5_2 (Sl.mk (some t58) 1 1) fun t59 =>
    Ar (IntKind.wrap .u64 (sent6_2 - done7_2)) fun t64 =>
    Ite (!((decide (t59 = 0)) == (decide (t64 < 16))))
      (Q false)
      (Ite (decide (t59 = 0))
        (Ar (IntKind.wrap .u64 (sent6_2 + 1)) fun t70 =>
        law19_LinkRoom.s3 Q X1 X2 n0_2 l5_2 t70 done7_2 i10_2 t26_2 t27_2 t28_2)
        (law19_LinkRoom.s3 Q X1 X2 n0_2 l5_2 sent6_2 done7_2 i10_2 t26_2 t27_2 t28_2)))
    (link_Link_Packets.call l5_2 fun t72 =>
    Ar (IntKind.wrap .u64 (t72.n : Int)) fun t75 =>
    Ar (IntKind.wrap .u64 (sent6_2 - done7_2)) fun t78 =>
    Ite (decide (t75 ≠ t78))
      (law19_LinkRoom.s4 Q X1 X2 n0_2 l5_2 sent6_2 done7_2 t26_2 t27_2 t28_2 true)
      (Ite (decide ((0 : Int) < (t72.n : Int)))
        (Idx t72 0 5 fun t86 =>
        Ld (t86.add 2) (Value.int .u64) fun t88 =>
        Ar (IntKind.wrap .u64 (done7_2 + 1)) fun t90 =>
        law19_LinkRoom.s4 Q X1 X2 n0_2 l5_2 sent6_2 done7_2 t26_2 t27_2 t28_2 (decide (t88 ≠ t90)))
        (law19_LinkRoom.s4 Q X1 X2 n0_2 l5_2 sent6_2 done7_2 t26_2 t27_2 t28_2 false)))
def law19_LinkRoom.b1 (Q : Bool → K)  (X1 : Int → Int → Int → K) (n0_1 : Int) (l5_1 : (Option Addr)) (t26_1 : Sl) (t27_1 : Int) (sent6_1 : Int) (done7_1 : Int) (t28_1 : Int) : K :=
  Ite (decide (t28_1 < t27_1))
    (Idx t26_1 t28_1 1 fun t30 =>
    Ld t30 (Value.int .u64) fun t31 =>
    link_Link_Receive.call l5_1 #[(.int .u64 4), (.int .u64 1), (.int .u64 0), (.int .u64 t31), (Sl.val ⟨none, 0, 0⟩)] fun t35x0 t35x1 =>
    Ar (if (sent6_1 : Int) < t31 then sent6_1 else t31) fun t39 =>
    Ar (if (t39 : Int) > done7_1 then t39 else done7_1) fun t40 =>
    link_Link_Open.call l5_1 fun t42 =>
    Ar (IntKind.wrap .u64 t42) fun t43 =>
    Ar (IntKind.wrap .u64 (sent6_1 - t40)) fun t46 =>
    Ite (decide (t43 ≠ t46))
      (Q false)
      (LoopK (α := Int × Int) (fun X x => law19_LinkRoom.b2 Q X1 (fun sent6_2 i10_2 => X (sent6_2, i10_2)) n0_1 l5_1 t40 t26_1 t27_1 t28_1 x.1 x.2) (sent6_1, 0)))
    (Q true)
def law19_LinkRoom (n0 : Int) (acks1 : Sl) (Q : Bool → K) : K :=
  law19_speaks.call  fun t13 =>
  Ite (!t13)
    (Q false)
    (Ite (decide ((50 : Int) < (acks1.n : Int)))
      (Q true)
      (link_New.call 1 fun t18 =>
      Ite ((t18).isNone)
        (Q false)
        (link_Link_Receive.call t18 #[(.int .u64 4), (.int .u64 0), (.int .u64 0), (.int .u64 0), (Sl.val ⟨none, 0, 0⟩)] fun t23x0 t23x1 =>
        New 23 #[(.int .u64 0)] fun t24 =>
        Do Try.prog (Builtin.append_ #[80, 80] 80 #[(Sl.val (Sl.mk (some t24) 1 1)), (Sl.val acks1)]) Sl.val fun t26 =>
        LoopK (α := Int × Int × Int) (fun X x => law19_LinkRoom.b1 Q (fun sent6_1 done7_1 t28_1 => X (sent6_1, done7_1, t28_1)) n0 t18 t26 (t26.n : Int) x.1 x.2.1 x.2.2) (0, 0, 0))))
theorem law19_LinkRoom_ok (n0 : Int) (acks1 : Sl) (Q : Bool → K) (w : World) (h : law19_LinkRoom n0 acks1 Q w) : law19_LinkRoom.call n0 acks1 Q w := by
  unfold law19_LinkRoom.call CallF
  refine f_start (args := [(.int .i64 n0), (Sl.val acks1)]) Try.func10 rfl (Nat.le_of_ble_eq_true rfl) ?_
  intro a hs
  unfold law19_LinkRoom at h
  refine wp_seq_k fun K1 hK1 => ?_
  refine wp_region_lit ?_
  refine t_pure hs rfl rfl (by decide) (p_assign rfl rfl) ?_
  clear hs a
  intro a hs
  refine hK1 _ _ ?_
  refine wp_seq_k fun K2 hK2 => ?_
  refine wp_seq_k fun K3 hK3 => ?_
  refine wp_region_lit ?_
  refine t_call hs rfl rfl (by decide) (e_call rfl rfl rfl cb_28) h ?_
  clear hs a h
  intro v a w hk hs
  obtain ⟨t13, rfl, h⟩ := hk
  refine t_pure hs rfl rfl (by decide) (p_not rfl rfl) ?_
  clear hs a
  intro a hs
  refine hK3 _ _ ?_
  refine c_cond hs rfl (fun hb => ?_) (fun hb => ?_)
  · replace h := h.1 hb
    clear hb
    refine wp_seq_k fun K4 hK4 => ?_
    refine wp_region_lit ?_
    refine t_pure hs rfl rfl (by decide) (p_assign rfl rfl) ?_
    clear hs a
    intro a hs
    refine hK4 _ _ ?_
    refine wp_ret ?_
    refine f_ret (fn := Try.f10) hs (fun a hs => r_one hs rfl (rfl)) ⟨false, rfl, h⟩
  · replace h := h.2 hb
    clear hb
    refine wp_skip ?_
    refine hK2 _ _ ?_
    refine wp_seq_k fun K5 hK5 => ?_
    refine wp_seq_k fun K6 hK6 => ?_
    refine wp_region_lit ?_
    refine t_pure hs rfl rfl (by decide) (p_move rfl rfl) ?_
    clear hs a
    intro a hs
    refine t_pure hs rfl rfl (by decide) (p_len rfl rfl sl_80) ?_
    clear hs a
    intro a hs
    refine t_pure hs rfl rfl (by decide) (p_gt rfl rfl rfl) ?_
    clear hs a
    intro a hs
    refine hK6 _ _ ?_
    refine c_cond hs rfl (fun hb => ?_) (fun hb => ?_)
    · replace h := h.1 hb
      clear hb
      refine wp_seq_k fun K7 hK7 => ?_
      refine wp_region_lit ?_
      refine t_pure hs rfl rfl (by decide) (p_assign rfl rfl) ?_
      clear hs a
      intro a hs
      refine hK7 _ _ ?_
      refine wp_ret ?_
      refine f_ret (fn := Try.f10) hs (fun a hs => r_one hs rfl (rfl)) ⟨true, rfl, h⟩
    · replace h := h.2 hb
      clear hb
      refine wp_skip ?_
      refine hK5 _ _ ?_
      refine wp_seq_k fun K8 hK8 => ?_
      refine wp_region_lit ?_
      refine t_call hs rfl rfl (by decide) (e_call rfl rfl rfl cb_29) h ?_
      clear hs a h
      intro v a w hk hs
      obtain ⟨t18, rfl, h⟩ := hk
      refine t_pure hs rfl rfl (by decide) (p_assign rfl rfl) ?_
      clear hs a
      intro a hs
      refine hK8 _ _ ?_
      refine wp_seq_k fun K9 hK9 => ?_
      refine wp_seq_k fun K10 hK10 => ?_
      refine wp_region_lit ?_
      refine t_pure hs rfl rfl (by decide) (p_move rfl rfl) ?_
      clear hs a
      intro a hs
      refine t_pure hs rfl rfl (by decide) (p_eq_nil rfl rfl rfl Try.underlying57) ?_
      clear hs a
      intro a hs
      refine hK10 _ _ ?_
      refine c_cond hs rfl (fun hb => ?_) (fun hb => ?_)
      · replace h := h.1 hb
        clear hb
        refine wp_seq_k fun K11 hK11 => ?_
        refine wp_region_lit ?_
        refine t_pure hs rfl rfl (by decide) (p_assign rfl rfl) ?_
        clear hs a
        intro a hs
        refine hK11 _ _ ?_
        refine wp_ret ?_
        refine f_ret (fn := Try.f10) hs (fun a hs => r_one hs rfl (rfl)) ⟨false, rfl, h⟩
      · replace h := h.2 hb
        clear hb
        refine wp_skip ?_
        refine hK9 _ _ ?_
        refine wp_seq_k fun K12 hK12 => ?_
        refine wp_region_lit ?_
        refine t_pure hs rfl rfl (by decide) (p_move rfl rfl) ?_
        clear hs a
        intro a hs
        refine t_pure hs rfl rfl (by decide) (e_build (cs := #[(.int .u64 4), (.int .u64 0), (.int .u64 0), (.int .u64 0), (Sl.val ⟨none, 0, 0⟩)]) rfl zt_36 pl_36 rfl rfl) ?_
        clear hs a
        intro a hs
        refine t_call hs rfl rfl (by decide) (e_call rfl rfl rfl cb_31) h ?_
        clear hs a h
        intro v a w hk hs
        obtain ⟨t23x0, t23x1, rfl, h⟩ := hk
        refine hK12 _ _ ?_
        refine wp_seq_k fun K13 hK13 => ?_
        refine wp_region_lit ?_
        refine t_pure hs rfl rfl (by decide) (p_assign rfl rfl) ?_
        clear hs a
        intro a hs
        refine t_pure hs rfl rfl (by decide) (p_assign rfl rfl) ?_
        clear hs a
        intro a hs
        refine hK13 _ _ ?_
        refine wp_seq_k fun K14 hK14 => ?_
        refine wp_seq_k fun K15 hK15 => ?_
        refine wp_region_lit ?_
        obtain ⟨t24, w1, ha, hw, h⟩ := h
        refine t_eff hs rfl rfl (by decide) (e_buildSlice (z := #[(.int .u64 0)]) (cs := #[(.int .u64 0)]) rfl sl_80 zt_23 (by decide) rfl rz_23_1 (by rfl) ha hw) ?_
        clear hs a ha hw
        intro a hs
        refine t_pure hs rfl rfl (by decide) (p_move rfl rfl) ?_
        clear hs a
        intro a hs
        obtain ⟨t26, w1, hd, h⟩ := h
        refine t_eff hs rfl rfl (by decide) (e_append rfl rfl rfl rfl hd) ?_
        clear hs a hd
        intro a hs
        refine t_pure hs rfl rfl (by decide) (p_len rfl rfl sl_80) ?_
        clear hs a
        intro a hs
        refine t_pure hs rfl rfl (by decide) (p_move rfl rfl) ?_
        clear hs a
        intro a hs
        refine hK15 _ _ ?_
        refine wp_block ?_
        obtain ⟨I1, μ1, h0, hr⟩ := h
        refine c_loop (α := Int × Int × Int) I1 μ1 (fun x a => Slots a 95 [(0, (.int .i64 n0)), (5, (.pointer t18)), (6, (.int .u64 x.1)), (7, (.int .u64 x.2.1)), (26, (Sl.val t26)), (27, (.int .i64 (t26.n : Int))), (28, (.int .i64 x.2.2))]) (0, 0, 0) h0 (hs.to ⟨rfl, rfl, rfl, rfl, rfl, rfl, rfl, trivial⟩) ?_
        clear h0 hs a
        rintro ⟨sent6_1, done7_1, t28_1⟩ a w hI hs
        have h : law19_LinkRoom.b1 Q (fun sent6_1n done7_1n t28_1n w' => I1 (sent6_1n, done7_1n, t28_1n) w' ∧ μ1 (sent6_1n, done7_1n, t28_1n) w' < μ1 (sent6_1, done7_1, t28_1) w) n0 t18 t26 (t26.n : Int) sent6_1 done7_1 t28_1 w := hr (sent6_1, done7_1, t28_1) w hI
        clear hr hI
        generalize hX1 : (fun sent6_1n done7_1n t28_1n w' => I1 (sent6_1n, done7_1n, t28_1n) w' ∧ μ1 (sent6_1n, done7_1n, t28_1n) w' < μ1 (sent6_1, done7_1, t28_1) w) = X1 at h
        unfold law19_LinkRoom.b1 at h
        replace hs : Slots a 95 [(0, (.int .i64 n0)), (5, (.pointer t18)), (6, (.int .u64 sent6_1)), (7, (.int .u64 done7_1)), (26, (Sl.val t26)), (27, (.int .i64 (t26.n : Int))), (28, (.int .i64 t28_1))] := hs
        refine wp_seq_k fun K16 hK16 => ?_
        refine wp_region_lit ?_
        refine t_pure hs rfl rfl (by decide) (p_lt rfl rfl rfl) ?_
        clear hs a
        intro a hs
        refine hK16 _ _ ?_
        refine wp_seq_k fun K17 hK17 => ?_
        refine c_cond hs rfl (fun hb => ?_) (fun hb => ?_)
        · replace h := h.1 hb
          clear hb
          refine wp_skip ?_
          refine hK17 _ _ ?_
          refine wp_seq_k fun K18 hK18 => ?_
          refine wp_block ?_
          refine wp_seq_k fun K19 hK19 => ?_
          refine wp_region_lit ?_
          obtain ⟨qt30, t30, ha, h0, h1, he, h⟩ := h
          refine t_pure hs rfl rfl (by decide) (Pure.adr he (p_idx rfl rfl rfl sl_80 ha h0 h1)) ?_
          clear hs a ha h0 h1 he
          intro a hs
          obtain ⟨t31, hv, h⟩ := h
          refine t_eff hs rfl rfl (by decide) (e_load rfl rfl ct_23 hv) ?_
          clear hs a hv
          intro a hs
          refine t_pure hs rfl rfl (by decide) (p_assign rfl rfl) ?_
          clear hs a
          intro a hs
          refine hK19 _ _ ?_
          refine wp_seq_k fun K20 hK20 => ?_
          refine wp_region_lit ?_
          refine t_pure hs rfl rfl (by decide) (p_move rfl rfl) ?_
          clear hs a
          intro a hs
          refine t_pure hs rfl rfl (by decide) (p_move rfl rfl) ?_
          clear hs a
          intro a hs
          refine t_pure hs rfl rfl (by decide) (e_build (cs := #[(.int .u64 4), (.int .u64 1), (.int .u64 0), (.int .u64 t31), (Sl.val ⟨none, 0, 0⟩)]) rfl zt_36 pl_36 rfl rfl) ?_
          clear hs a
          intro a hs
          refine t_call hs rfl rfl (by decide) (e_call rfl rfl rfl cb_31) h ?_
          clear hs a h
          intro v a w hk hs
          obtain ⟨t35x0, t35x1, rfl, h⟩ := hk
          refine hK20 _ _ ?_
          refine wp_seq_k fun K21 hK21 => ?_
          refine wp_region_lit ?_
          refine t_pure hs rfl rfl (by decide) (p_move rfl rfl) ?_
          clear hs a
          intro a hs
          refine t_pure hs rfl rfl (by decide) (p_move rfl rfl) ?_
          clear hs a
          intro a hs
          refine t_pure hs rfl rfl (by decide) (p_move rfl rfl) ?_
          clear hs a
          intro a hs
          obtain ⟨t39, he, h⟩ := h
          refine t_pure hs rfl rfl (by decide) (Pure.int he (p_min _ rfl rfl rfl)) ?_
          clear hs a he
          intro a hs
          obtain ⟨t40, he, h⟩ := h
          refine t_pure hs rfl rfl (by decide) (Pure.int he (p_max _ rfl rfl rfl)) ?_
          clear hs a he
          intro a hs
          refine t_pure hs rfl rfl (by decide) (p_assign rfl rfl) ?_
          clear hs a
          intro a hs
          refine hK21 _ _ ?_
          refine wp_seq_k fun K22 hK22 => ?_
          refine wp_seq_k fun K23 hK23 => ?_
          refine wp_region_lit ?_
          refine t_pure hs rfl rfl (by decide) (p_move rfl rfl) ?_
          clear hs a
          intro a hs
          refine t_call hs rfl rfl (by decide) (e_call rfl rfl rfl cb_37) h ?_
          clear hs a h
          intro v a w hk hs
          obtain ⟨t42, rfl, h⟩ := hk
          obtain ⟨t43, he, h⟩ := h
          refine t_pure hs rfl rfl (by decide) (Pure.int he (p_conv_int rfl rfl in_3 in_23)) ?_
          clear hs a he
          intro a hs
          refine t_pure hs rfl rfl (by decide) (p_move rfl rfl) ?_
          clear hs a
          intro a hs
          refine t_pure hs rfl rfl (by decide) (p_move rfl rfl) ?_
          clear hs a
          intro a hs
          obtain ⟨t46, he, h⟩ := h
          refine t_pure hs rfl rfl (by decide) (Pure.int he (p_sub rfl rfl rfl)) ?_
          clear hs a he
          intro a hs
          refine t_pure hs rfl rfl (by decide) (p_ne rfl rfl rfl) ?_
          clear hs a
          intro a hs
          refine hK23 _ _ ?_
          refine c_cond hs rfl (fun hb => ?_) (fun hb => ?_)
          · replace h := h.1 hb
            clear hb
            refine wp_seq_k fun K24 hK24 => ?_
            refine wp_region_lit ?_
            refine t_pure hs rfl rfl (by decide) (p_assign rfl rfl) ?_
            clear hs a
            intro a hs
            refine hK24 _ _ ?_
            refine wp_ret ?_
            refine f_ret (fn := Try.f10) hs (fun a hs => r_one hs rfl (rfl)) ⟨false, rfl, h⟩
          · replace h := h.2 hb
            clear hb
            refine wp_skip ?_
            refine hK22 _ _ ?_
            refine wp_seq_k fun K25 hK25 => ?_
            refine wp_seq_k fun K26 hK26 => ?_
            refine wp_region_lit ?_
            refine t_pure hs rfl rfl (by decide) (p_assign rfl rfl) ?_
            clear hs a
            intro a hs
            refine hK26 _ _ ?_
            refine wp_block ?_
            obtain ⟨I2, μ2, h0, hr⟩ := h
            refine c_loop (α := Int × Int) I2 μ2 (fun x a => Slots a 95 [(0, (.int .i64 n0)), (5, (.pointer t18)), (6, (.int .u64 x.1)), (7, (.int .u64 t40)), (10, (.int .i64 x.2)), (26, (Sl.val t26)), (27, (.int .i64 (t26.n : Int))), (28, (.int .i64 t28_1))]) (sent6_1, 0) h0 (hs.to ⟨rfl, rfl, rfl, rfl, rfl, rfl, rfl, rfl, trivial⟩) ?_
            clear h0 hs a
            rintro ⟨sent6_2, i10_2⟩ a w hI hs
            have h : law19_LinkRoom.b2 Q X1 (fun sent6_2n i10_2n w' => I2 (sent6_2n, i10_2n) w' ∧ μ2 (sent6_2n, i10_2n) w' < μ2 (sent6_2, i10_2) w) n0 t18 t40 t26 (t26.n : Int) t28_1 sent6_2 i10_2 w := hr (sent6_2, i10_2) w hI
            clear hr hI
            generalize hX2 : (fun sent6_2n i10_2n w' => I2 (sent6_2n, i10_2n) w' ∧ μ2 (sent6_2n, i10_2n) w' < μ2 (sent6_2, i10_2) w) = X2 at h
            unfold law19_LinkRoom.b2 at h
            replace hs : Slots a 95 [(0, (.int .i64 n0)), (5, (.pointer t18)), (6, (.int .u64 sent6_2)), (7, (.int .u64 t40)), (10, (.int .i64 i10_2)), (26, (Sl.val t26)), (27, (.int .i64 (t26.n : Int))), (28, (.int .i64 t28_1))] := hs
            refine wp_seq_k fun K27 hK27 => ?_
            refine wp_seq_k fun K28 hK28 => ?_
            refine wp_region_lit ?_
            refine t_pure hs rfl rfl (by decide) (p_move rfl rfl) ?_
            clear hs a
            intro a hs
            refine t_pure hs rfl rfl (by decide) (p_move rfl rfl) ?_
            clear hs a
            intro a hs
            obtain ⟨t50, he, h⟩ := h
            refine t_pure hs rfl rfl (by decide) (Pure.int he (p_and rfl rfl rfl)) ?_
            clear hs a he
            intro a hs
            obtain ⟨t51, he, h⟩ := h
            refine t_pure hs rfl rfl (by decide) (Pure.int he (p_add rfl rfl rfl)) ?_
            clear hs a he
            intro a hs
            refine t_pure hs rfl rfl (by decide) (p_lt rfl rfl rfl) ?_
            clear hs a
            intro a hs
            refine hK28 _ _ ?_
            refine c_cond hs rfl (fun hb => ?_) (fun hb => ?_)
            · replace h := h.1 hb
              clear hb
              refine wp_skip ?_
              refine hK27 _ _ ?_
              refine wp_seq_k fun K29 hK29 => ?_
              have J3 : ∀ (sent6_3 : Int) (a : Act) (w : World), Slots a 95 [(0, (.int .i64 n0)), (5, (.pointer t18)), (6, (.int .u64 sent6_3)), (7, (.int .u64 t40)), (10, (.int .i64 i10_2)), (26, (Sl.val t26)), (27, (.int .i64 (t26.n : Int))), (28, (.int .i64 t28_1))] → law19_LinkRoom.s3 Q X1 X2 n0 t18 sent6_3 t40 i10_2 t26 (t26.n : Int) t28_1 w → K29 a w := by
                clear h hs
                intro sent6_3 a w hs h
                refine hK29 _ _ ?_
                unfold law19_LinkRoom.s3 at h
                refine wp_region_lit ?_
                refine t_pure hs rfl rfl (by decide) (p_move rfl rfl) ?_
                clear hs a
                intro a hs
                obtain ⟨t54, he, h⟩ := h
                refine t_pure hs rfl rfl (by decide) (Pure.int he (p_add rfl rfl rfl)) ?_
                clear hs a he
                intro a hs
                refine t_pure hs rfl rfl (by decide) (p_assign rfl rfl) ?_
                clear hs a
                intro a hs
                rw [← hX2] at h
                exact ⟨(sent6_3, t54), hs.to ⟨rfl, rfl, rfl, rfl, rfl, rfl, rfl, rfl, trivial⟩, h⟩
              clear hK29
              refine wp_block ?_
              refine wp_seq_k fun K30 hK30 => ?_
              refine wp_region_lit ?_
              refine t_pure hs rfl rfl (by decide) (p_move rfl rfl) ?_
              clear hs a
              intro a hs
              refine t_pure hs rfl rfl (by decide) (p_move rfl rfl) ?_
              clear hs a
              intro a hs
              obtain ⟨t57, he, h⟩ := h
              refine t_pure hs rfl rfl (by decide) (Pure.int he (p_conv_int rfl rfl in_3 in_5)) ?_
              clear hs a he
              intro a hs
              obtain ⟨t58, w1, ha, hw, h⟩ := h
              refine t_eff hs rfl rfl (by decide) (e_buildSlice (z := #[(.int .u8 0)]) (cs := #[(.int .u8 t57)]) rfl sl_22 zt_5 (by decide) rfl rz_5_1 (by rfl) ha hw) ?_
              clear hs a ha hw
              intro a hs
              refine t_call hs rfl rfl (by decide) (e_call rfl rfl rfl cb_30) h ?_
              clear hs a h
              intro v a w hk hs
              obtain ⟨t59, rfl, h⟩ := hk
              refine t_pure hs rfl rfl (by decide) (p_assign rfl rfl) ?_
              clear hs a
              intro a hs
              refine hK30 _ _ ?_
              refine wp_seq_k fun K31 hK31 => ?_
              refine wp_seq_k fun K32 hK32 => ?_
              refine wp_region_lit ?_
              refine t_pure hs rfl rfl (by decide) (p_move rfl rfl) ?_
              clear hs a
              intro a hs
              refine t_pure hs rfl rfl (by decide) (p_eq rfl rfl rfl) ?_
              clear hs a
              intro a hs
              refine t_pure hs rfl rfl (by decide) (p_move rfl rfl) ?_
              clear hs a
              intro a hs
              refine t_pure hs rfl rfl (by decide) (p_move rfl rfl) ?_
              clear hs a
              intro a hs
              obtain ⟨t64, he, h⟩ := h
              refine t_pure hs rfl rfl (by decide) (Pure.int he (p_sub rfl rfl rfl)) ?_
              clear hs a he
              intro a hs
              refine t_pure hs rfl rfl (by decide) (p_lt rfl rfl rfl) ?_
              clear hs a
              intro a hs
              refine t_pure hs rfl rfl (by decide) (p_neb rfl rfl rfl Try.underlying4) ?_
              clear hs a
              intro a hs
              refine hK32 _ _ ?_
              refine c_cond hs rfl (fun hb => ?_) (fun hb => ?_)
              · replace h := h.1 hb
                clear hb
                refine wp_seq_k fun K33 hK33 => ?_
                refine wp_region_lit ?_
                refine t_pure hs rfl rfl (by decide) (p_assign rfl rfl) ?_
                clear hs a
                intro a hs
                refine hK33 _ _ ?_
                refine wp_ret ?_
                refine f_ret (fn := Try.f10) hs (fun a hs => r_one hs rfl (rfl)) ⟨false, rfl, h⟩
              · replace h := h.2 hb
                clear hb
                refine wp_skip ?_
                refine hK31 _ _ ?_
                refine wp_seq_k fun K34 hK34 => ?_
                refine wp_region_lit ?_
                refine t_pure hs rfl rfl (by decide) (p_move rfl rfl) ?_
                clear hs a
                intro a hs
                refine t_pure hs rfl rfl (by decide) (p_eq rfl rfl rfl) ?_
                clear hs a
                intro a hs
                refine hK34 _ _ ?_
                refine c_cond hs rfl (fun hb => ?_) (fun hb => ?_)
                · replace h := h.1 hb
                  clear hb
                  refine wp_region_lit ?_
                  refine t_pure hs rfl rfl (by decide) (p_move rfl rfl) ?_
                  clear hs a
                  intro a hs
                  obtain ⟨t70, he, h⟩ := h
                  refine t_pure hs rfl rfl (by decide) (Pure.int he (p_add rfl rfl rfl)) ?_
                  clear hs a he
                  intro a hs
                  refine t_pure hs rfl rfl (by decide) (p_assign rfl rfl) ?_
                  clear hs a
                  intro a hs
                  exact J3 t70 _ _ (hs.to ⟨rfl, rfl, rfl, rfl, rfl, rfl, rfl, rfl, trivial⟩) h
                · replace h := h.2 hb
                  clear hb
                  refine wp_skip ?_
                  exact J3 sent6_2 _ _ (hs.to ⟨rfl, rfl, rfl, rfl, rfl, rfl, rfl, rfl, trivial⟩) h
            · replace h := h.2 hb
              clear hb
              refine wp_exit ?_
              refine hK25 _ _ ?_
              refine wp_seq_k fun K35 hK35 => ?_
              refine wp_region_lit ?_
              refine t_pure hs rfl rfl (by decide) (p_move rfl rfl) ?_
              clear hs a
              intro a hs
              refine t_call hs rfl rfl (by decide) (e_call rfl rfl rfl cb_32) h ?_
              clear hs a h
              intro v a w hk hs
              obtain ⟨t72, rfl, h⟩ := hk
              refine t_pure hs rfl rfl (by decide) (p_assign rfl rfl) ?_
              clear hs a
              intro a hs
              refine hK35 _ _ ?_
              refine wp_seq_k fun K36 hK36 => ?_
              have J4 : ∀ (t93_4 : Bool) (a : Act) (w : World), Slots a 95 [(0, (.int .i64 n0)), (5, (.pointer t18)), (6, (.int .u64 sent6_2)), (7, (.int .u64 t40)), (26, (Sl.val t26)), (27, (.int .i64 (t26.n : Int))), (28, (.int .i64 t28_1)), (93, (.bool t93_4))] → law19_LinkRoom.s4 Q X1 X2 n0 t18 sent6_2 t40 t26 (t26.n : Int) t28_1 t93_4 w → K36 a w := by
                clear h hs
                intro t93_4 a w hs h
                refine hK36 _ _ ?_
                unfold law19_LinkRoom.s4 at h
                refine c_cond hs rfl (fun hb => ?_) (fun hb => ?_)
                · replace h := h.1 hb
                  clear hb
                  refine wp_seq_k fun K37 hK37 => ?_
                  refine wp_region_lit ?_
                  refine t_pure hs rfl rfl (by decide) (p_assign rfl rfl) ?_
                  clear hs a
                  intro a hs
                  refine hK37 _ _ ?_
                  refine wp_ret ?_
                  refine f_ret (fn := Try.f10) hs (fun a hs => r_one hs rfl (rfl)) ⟨false, rfl, h⟩
                · replace h := h.2 hb
                  clear hb
                  refine wp_skip ?_
                  refine hK18 _ _ ?_
                  refine wp_region_lit ?_
                  obtain ⟨t94, he, h⟩ := h
                  refine t_pure hs rfl rfl (by decide) (Pure.int he (p_add rfl rfl rfl)) ?_
                  clear hs a he
                  intro a hs
                  refine t_pure hs rfl rfl (by decide) (p_move rfl rfl) ?_
                  clear hs a
                  intro a hs
                  rw [← hX1] at h
                  exact ⟨(sent6_2, t40, t94), hs.to ⟨rfl, rfl, rfl, rfl, rfl, rfl, rfl, trivial⟩, h⟩
              clear hK36
              refine wp_region_lit ?_
              refine t_pure hs rfl rfl (by decide) (p_move rfl rfl) ?_
              clear hs a
              intro a hs
              refine t_pure hs rfl rfl (by decide) (p_len rfl rfl sl_60) ?_
              clear hs a
              intro a hs
              obtain ⟨t75, he, h⟩ := h
              refine t_pure hs rfl rfl (by decide) (Pure.int he (p_conv_int rfl rfl in_3 in_23)) ?_
              clear hs a he
              intro a hs
              refine t_pure hs rfl rfl (by decide) (p_move rfl rfl) ?_
              clear hs a
              intro a hs
              refine t_pure hs rfl rfl (by decide) (p_move rfl rfl) ?_
              clear hs a
              intro a hs
              obtain ⟨t78, he, h⟩ := h
              refine t_pure hs rfl rfl (by decide) (Pure.int he (p_sub rfl rfl rfl)) ?_
              clear hs a he
              intro a hs
              refine t_pure hs rfl rfl (by decide) (p_ne rfl rfl rfl) ?_
              clear hs a
              intro a hs
              refine t_pure hs rfl rfl (by decide) (p_move rfl rfl) ?_
              clear hs a
              intro a hs
              replace hs := hs.to (τ := [(0, (.int .i64 n0)), (5, (.pointer t18)), (6, (.int .u64 sent6_2)), (7, (.int .u64 t40)), (12, (Sl.val t72)), (26, (Sl.val t26)), (27, (.int .i64 (t26.n : Int))), (28, (.int .i64 t28_1)), (80, (.bool (decide (t75 ≠ t78))))]) ⟨rfl, rfl, rfl, rfl, rfl, rfl, rfl, rfl, rfl, trivial⟩
              refine split_bool (decide (t75 ≠ t78)) (fun hb => ?_) (fun hb => ?_)
              · replace h := h.1 hb
                rw [hb] at hs
                clear hb
                refine t_no hs rfl rfl (by decide) ?_
                clear hs a
                intro a hs
                refine t_no hs rfl rfl (by decide) ?_
                clear hs a
                intro a hs
                refine t_no hs rfl rfl (by decide) ?_
                clear hs a
                intro a hs
                refine t_no hs rfl rfl (by decide) ?_
                clear hs a
                intro a hs
                refine t_no hs rfl rfl (by decide) ?_
                clear hs a
                intro a hs
                refine t_no hs rfl rfl (by decide) ?_
                clear hs a
                intro a hs
                refine t_no hs rfl rfl (by decide) ?_
                clear hs a
                intro a hs
                refine t_no hs rfl rfl (by decide) ?_
                clear hs a
                intro a hs
                replace hs := hs.to (τ := [(0, (.int .i64 n0)), (5, (.pointer t18)), (6, (.int .u64 sent6_2)), (7, (.int .u64 t40)), (26, (Sl.val t26)), (27, (.int .i64 (t26.n : Int))), (28, (.int .i64 t28_1)), (80, (.bool true)), (84, undef), (88, undef)]) ⟨rfl, rfl, rfl, rfl, rfl, rfl, rfl, rfl, rfl, rfl, trivial⟩
                refine t_no hs rfl rfl (by decide) ?_
                clear hs a
                intro a hs
                refine t_no hs rfl rfl (by decide) ?_
                clear hs a
                intro a hs
                refine t_no hs rfl rfl (by decide) ?_
                clear hs a
                intro a hs
                refine t_no hs rfl rfl (by decide) ?_
                clear hs a
                intro a hs
                refine t_pure hs rfl rfl (by decide) (p_pick_t rfl rfl rfl) ?_
                clear hs a
                intro a hs
                exact J4 true _ _ (hs.to ⟨rfl, rfl, rfl, rfl, rfl, rfl, rfl, rfl, trivial⟩) h
              · replace h := h.2 hb
                rw [hb] at hs
                clear hb
                refine t_yes hs rfl ?_
                refine t_pure hs rfl rfl (by decide) (p_move rfl rfl) ?_
                clear hs a
                intro a hs
                refine t_yes hs rfl ?_
                refine t_pure hs rfl rfl (by decide) (p_len rfl rfl sl_60) ?_
                clear hs a
                intro a hs
                refine t_yes hs rfl ?_
                refine t_pure hs rfl rfl (by decide) (p_gt rfl rfl rfl) ?_
                clear hs a
                intro a hs
                refine t_yes hs rfl ?_
                refine t_pure hs rfl rfl (by decide) (p_move rfl rfl) ?_
                clear hs a
                intro a hs
                refine split_bool (decide ((0 : Int) < (t72.n : Int))) (fun hb => ?_) (fun hb => ?_)
                · replace h := h.1 hb
                  rw [hb] at hs
                  clear hb
                  refine t_yes hs rfl ?_
                  refine t_pure hs rfl rfl (by decide) (p_move rfl rfl) ?_
                  clear hs a
                  intro a hs
                  refine t_yes hs rfl ?_
                  obtain ⟨qt86, t86, ha, h0, h1, he, h⟩ := h
                  refine t_pure hs rfl rfl (by decide) (Pure.adr he (p_idx rfl rfl rfl sl_60 ha h0 h1)) ?_
                  clear hs a ha h0 h1 he
                  intro a hs
                  refine t_yes hs rfl ?_
                  refine t_pure hs rfl rfl (by decide) (p_fieldAddr rfl rfl ft_36_2) ?_
                  clear hs a
                  intro a hs
                  refine t_yes hs rfl ?_
                  obtain ⟨t88, hv, h⟩ := h
                  refine t_eff hs rfl rfl (by decide) (e_load rfl rfl ct_23 hv) ?_
                  clear hs a hv
                  intro a hs
                  replace hs := hs.to (τ := [(0, (.int .i64 n0)), (5, (.pointer t18)), (6, (.int .u64 sent6_2)), (7, (.int .u64 t40)), (26, (Sl.val t26)), (27, (.int .i64 (t26.n : Int))), (28, (.int .i64 t28_1)), (80, (.bool false)), (84, (.bool true)), (88, (.int .u64 t88))]) ⟨rfl, rfl, rfl, rfl, rfl, rfl, rfl, rfl, rfl, rfl, trivial⟩
                  refine t_yes hs rfl ?_
                  refine t_pure hs rfl rfl (by decide) (p_move rfl rfl) ?_
                  clear hs a
                  intro a hs
                  refine t_yes hs rfl ?_
                  obtain ⟨t90, he, h⟩ := h
                  refine t_pure hs rfl rfl (by decide) (Pure.int he (p_add rfl rfl rfl)) ?_
                  clear hs a he
                  intro a hs
                  refine t_yes hs rfl ?_
                  refine t_pure hs rfl rfl (by decide) (p_ne rfl rfl rfl) ?_
                  clear hs a
                  intro a hs
                  refine t_yes hs rfl ?_
                  refine t_pure hs rfl rfl (by decide) (p_pick_t rfl rfl rfl) ?_
                  clear hs a
                  intro a hs
                  refine t_pure hs rfl rfl (by decide) (p_pick_f rfl rfl rfl) ?_
                  clear hs a
                  intro a hs
                  exact J4 (decide (t88 ≠ t90)) _ _ (hs.to ⟨rfl, rfl, rfl, rfl, rfl, rfl, rfl, rfl, trivial⟩) h
                · replace h := h.2 hb
                  rw [hb] at hs
                  clear hb
                  refine t_no hs rfl rfl (by decide) ?_
                  clear hs a
                  intro a hs
                  refine t_no hs rfl rfl (by decide) ?_
                  clear hs a
                  intro a hs
                  refine t_no hs rfl rfl (by decide) ?_
                  clear hs a
                  intro a hs
                  refine t_no hs rfl rfl (by decide) ?_
                  clear hs a
                  intro a hs
                  replace hs := hs.to (τ := [(0, (.int .i64 n0)), (5, (.pointer t18)), (6, (.int .u64 sent6_2)), (7, (.int .u64 t40)), (26, (Sl.val t26)), (27, (.int .i64 (t26.n : Int))), (28, (.int .i64 t28_1)), (80, (.bool false)), (84, (.bool false)), (88, undef)]) ⟨rfl, rfl, rfl, rfl, rfl, rfl, rfl, rfl, rfl, rfl, trivial⟩
                  refine t_no hs rfl rfl (by decide) ?_
                  clear hs a
                  intro a hs
                  refine t_no hs rfl rfl (by decide) ?_
                  clear hs a
                  intro a hs
                  refine t_no hs rfl rfl (by decide) ?_
                  clear hs a
                  intro a hs
                  refine t_yes hs rfl ?_
                  refine t_pure hs rfl rfl (by decide) (p_pick_f rfl rfl rfl) ?_
                  clear hs a
                  intro a hs
                  refine t_pure hs rfl rfl (by decide) (p_pick_f rfl rfl rfl) ?_
                  clear hs a
                  intro a hs
                  exact J4 false _ _ (hs.to ⟨rfl, rfl, rfl, rfl, rfl, rfl, rfl, rfl, trivial⟩) h
        · replace h := h.2 hb
          clear hb
          refine wp_exit ?_
          refine hK14 _ _ ?_
          refine wp_seq_k fun K38 hK38 => ?_
          refine wp_region_lit ?_
          refine t_pure hs rfl rfl (by decide) (p_assign rfl rfl) ?_
          clear hs a
          intro a hs
          refine hK38 _ _ ?_
          refine wp_ret ?_
          refine f_ret (fn := Try.f10) hs (fun a hs => r_one hs rfl (rfl)) ⟨true, rfl, h⟩
def law19_LinkPlays.b5 (Q : Bool → K) (X1 : Int → K) (X4 : Int → K) (X5 : Int → K) (l5_5 : (Option Addr)) (m6_5 : (Option Addr)) (out17_5 : Sl) (i18_5 : Int) (t30_5 : Sl) (t31_5 : Int) (t32_5 : Int) (t130_5 : Int) (t131_5 : Int) (t139_5 : Int) (t140_5 : Int) : K :=
  Ite (decide (t140_5 < t139_5))
    (Idx out17_5 i18_5 5 fun t145 =>
    Ld (t145.add 4) Sl.val fun t147 =>
    Idx t147 t140_5 1 fun t149 =>
    St t149 (.int .u8 238) <|
    Ar (IntKind.wrap .i64 (t140_5 + 1)) fun t150 =>
    X5 t150)
    (Ar (IntKind.wrap .i64 (t131_5 + 1)) fun t151 =>
    X4 t151)
def law19_LinkPlays.b4 (Q : Bool → K) (X1 : Int → K) (X4 : Int → K) (l5_4 : (Option Addr)) (m6_4 : (Option Addr)) (out17_4 : Sl) (t30_4 : Sl) (t31_4 : Int) (t32_4 : Int) (t130_4 : Int) (t131_4 : Int) : K :=
  Ite (decide (t131_4 < t130_4))
    (Idx out17_4 t131_4 5 fun t136 =>
    Ld (t136.add 4) Sl.val fun t138 =>
    LoopK (α := Int) (fun X x => law19_LinkPlays.b5 Q X1 X4 X l5_4 m6_4 out17_4 t131_4 t30_4 t31_4 t32_4 t130_4 t131_4 (t138.n : Int) x) 0)
    (Ar (IntKind.wrap .i64 (t32_4 + 1)) fun t152 =>
    X1 t152)
def law19_LinkPlays.s3 (Q : Bool → K) (X1 : Int → K) (l5_3 : (Option Addr)) (m6_3 : (Option Addr)) (out17_3 : Sl) (t30_3 : Sl) (t31_3 : Int) (t32_3 : Int) (t128_3 : Bool) : K :=
  Ite t128_3
    (Q false)
    (LoopK (α := Int) (fun X x => law19_LinkPlays.b4 Q X1 X l5_3 m6_3 out17_3 t30_3 t31_3 t32_3 (out17_3.n : Int) x) 0)
def law19_LinkPlays.s2 (Q : Bool → K) (X1 : Int → K) (l5_2 : (Option Addr)) (m6_2 : (Option Addr)) (t30_2 : Sl) (t31_2 : Int) (t32_2 : Int) : K :=
  link_Link_Packets.call l5_2 fun t104 =>
  Dr <| WithS fun S =>
  ref19_Link_Packets.call m6_2 fun t107 =>
  Sv S <|
  ref19_SamePackets.call t104 t107 fun t108 =>
  Sv S <|
  Ite (!t108)
    (law19_LinkPlays.s3 Q X1 l5_2 m6_2 t104 t30_2 t31_2 t32_2 true)
    (Nn m6_2 fun t114 =>
    LdS S (t114.add 4) Sl.val fun t116 =>
    link_Link_Open.call l5_2 fun t112 =>
    Sv S <|
    Ite (decide (t112 ≠ (t116.n : Int)))
      (law19_LinkPlays.s3 Q X1 l5_2 (some t114) t104 t30_2 t31_2 t32_2 true)
      (LdS S (t114.add 1) (Value.int .u64) fun t126 =>
      link_Link_Peer.call l5_2 fun t122 =>
      Sv S <|
      law19_LinkPlays.s3 Q X1 l5_2 (some t114) t104 t30_2 t31_2 t32_2 (decide (t122 ≠ t126))))
def law19_LinkPlays.b6 (Q : Bool → K) (X1 : Int → K) (X6 : Int → K) (l5_6 : (Option Addr)) (m6_6 : (Option Addr)) (in9_6 : Sl) (t30_6 : Sl) (t31_6 : Int) (t32_6 : Int) (t53_6 : Int) (t54_6 : Int) : K :=
  Ite (decide (t54_6 < t53_6))
    (Idx in9_6 t54_6 1 fun t59 =>
    St t59 (.int .u8 238) <|
    Ar (IntKind.wrap .i64 (t54_6 + 1)) fun t60 =>
    X6 t60)
    (law19_LinkPlays.s2 Q X1 l5_6 m6_6 t30_6 t31_6 t32_6)
def law19_LinkPlays.b8 (Q : Bool → K) (X1 : Int → K) (X8 : Int → K) (l5_8 : (Option Addr)) (m6_8 : (Option Addr)) (p11_8 : Addr) (t30_8 : Sl) (t31_8 : Int) (t32_8 : Int) (t94_8 : Int) (t95_8 : Int) : K :=
  Ite (decide (t95_8 < t94_8))
    (Ld (p11_8.add 4) Sl.val fun t99 =>
    Idx t99 t95_8 1 fun t101 =>
    St t101 (.int .u8 238) <|
    Ar (IntKind.wrap .i64 (t95_8 + 1)) fun t102 =>
    X8 t102)
    (law19_LinkPlays.s2 Q X1 l5_8 m6_8 t30_8 t31_8 t32_8)
def law19_LinkPlays.s7 (Q : Bool → K) (X1 : Int → K) (l5_7 : (Option Addr)) (m6_7 : (Option Addr)) (p11_7 : Addr) (t30_7 : Sl) (t31_7 : Int) (t32_7 : Int) (t91_7 : Bool) : K :=
  Ite t91_7
    (Q false)
    (Ld (p11_7.add 4) Sl.val fun t93 =>
    LoopK (α := Int) (fun X x => law19_LinkPlays.b8 Q X1 X l5_7 m6_7 p11_7 t30_7 t31_7 t32_7 (t93.n : Int) x) 0)
def law19_LinkPlays.b1 (Q : Bool → K)  (X1 : Int → K) (l5_1 : (Option Addr)) (m6_1 : (Option Addr)) (t30_1 : Sl) (t31_1 : Int) (t32_1 : Int) : K :=
  Ite (decide (t32_1 < t31_1))
    (Idx t30_1 t32_1 7 fun t34 =>
    LdN t34 7 fun t35 =>
    New 87 #[(.int .i64 0), (Sl.val ⟨none, 0, 0⟩), (.int .u64 0), (.int .u64 0), (.int .u64 0), (.int .u64 0), (Sl.val ⟨none, 0, 0⟩)] fun o8 =>
    StN o8 7 t35 <|
    Ld o8 (Value.int .i64) fun t37 =>
    Ar (bitsOf .and .i64 t37 1) fun t38 =>
    Ite (decide (t38 = 0))
      (New 5 #[] fun t40 =>
      Ld (o8.add 1) Sl.val fun t42 =>
      Do Try.prog (Builtin.append_ #[22, 22] 22 #[(Sl.val (Sl.mk (some t40) 0 0)), (Sl.val t42)]) Sl.val fun t43 =>
      Dr <| WithS fun S =>
      LdS S (o8.add 1) Sl.val fun t49 =>
      link_Link_Send.call l5_1 t43 fun t46 =>
      Sv S <|
      ref19_Link_Send.call m6_1 t49 fun t50 =>
      Ite (decide (t46 ≠ t50))
        (Q false)
        (LoopK (α := Int) (fun X x => law19_LinkPlays.b6 Q X1 X l5_1 m6_1 t43 t30_1 t31_1 t32_1 (t43.n : Int) x) 0))
      (LdN (o8.add 2) 5 fun t62 =>
      New 36 #[(.int .u64 0), (.int .u64 0), (.int .u64 0), (.int .u64 0), (Sl.val ⟨none, 0, 0⟩)] fun p11 =>
      StN p11 5 t62 <|
      New 5 #[] fun t63 =>
      Ld ((o8.add 2).add 4) Sl.val fun t66 =>
      Do Try.prog (Builtin.append_ #[22, 22] 22 #[(Sl.val (Sl.mk (some t63) 0 0)), (Sl.val t66)]) Sl.val fun t67 =>
      St (p11.add 4) (Sl.val t67) <|
      LdN p11 5 fun t71 =>
      link_Link_Receive.call l5_1 t71 fun t72x0 t72x1 =>
      LdN (o8.add 2) 5 fun t78 =>
      ref19_Link_Receive.call m6_1 t78 fun t79x0 t79x1 =>
      ref19_SameData.call t72x0 t79x0 fun t84 =>
      Ite (!t84)
        (law19_LinkPlays.s7 Q X1 l5_1 m6_1 p11 t30_1 t31_1 t32_1 true)
        (ref19_SamePackets.call t72x1 t79x1 fun t89 =>
        law19_LinkPlays.s7 Q X1 l5_1 m6_1 p11 t30_1 t31_1 t32_1 (!t89))))
    (Q true)
def law19_LinkPlays (epoch0 : Int) (script1 : Sl) (Q : Bool → K) : K :=
  law19_speaks.call  fun t20 =>
  Ite (!t20)
    (Q false)
    (law19_great.call script1 fun t23 =>
    Ite t23
      (Q true)
      (link_New.call epoch0 fun t25 =>
      ref19_New.call epoch0 fun t27 =>
      Ite ((t25).isNone)
        (Q false)
        (LoopK (α := Int) (fun X x => law19_LinkPlays.b1 Q X t25 t27 script1 (script1.n : Int) x) 0)))
theorem law19_LinkPlays_ok (epoch0 : Int) (script1 : Sl) (Q : Bool → K) (w : World) (h : law19_LinkPlays epoch0 script1 Q w) : law19_LinkPlays.call epoch0 script1 Q w := by
  unfold law19_LinkPlays.call CallF
  refine f_start (args := [(.int .u64 epoch0), (Sl.val script1)]) Try.func11 rfl (Nat.le_of_ble_eq_true rfl) ?_
  intro a hs
  unfold law19_LinkPlays at h
  refine wp_seq_k fun K1 hK1 => ?_
  refine wp_region_lit ?_
  refine t_pure hs rfl rfl (by decide) (p_assign rfl rfl) ?_
  clear hs a
  intro a hs
  refine hK1 _ _ ?_
  refine wp_seq_k fun K2 hK2 => ?_
  refine wp_seq_k fun K3 hK3 => ?_
  refine wp_region_lit ?_
  refine t_call hs rfl rfl (by decide) (e_call rfl rfl rfl cb_28) h ?_
  clear hs a h
  intro v a w hk hs
  obtain ⟨t20, rfl, h⟩ := hk
  refine t_pure hs rfl rfl (by decide) (p_not rfl rfl) ?_
  clear hs a
  intro a hs
  refine hK3 _ _ ?_
  refine c_cond hs rfl (fun hb => ?_) (fun hb => ?_)
  · replace h := h.1 hb
    clear hb
    refine wp_seq_k fun K4 hK4 => ?_
    refine wp_region_lit ?_
    refine t_pure hs rfl rfl (by decide) (p_assign rfl rfl) ?_
    clear hs a
    intro a hs
    refine hK4 _ _ ?_
    refine wp_ret ?_
    refine f_ret (fn := Try.f11) hs (fun a hs => r_one hs rfl (rfl)) ⟨false, rfl, h⟩
  · replace h := h.2 hb
    clear hb
    refine wp_skip ?_
    refine hK2 _ _ ?_
    refine wp_seq_k fun K5 hK5 => ?_
    refine wp_seq_k fun K6 hK6 => ?_
    refine wp_region_lit ?_
    refine t_pure hs rfl rfl (by decide) (p_move rfl rfl) ?_
    clear hs a
    intro a hs
    refine t_call hs rfl rfl (by decide) (e_call rfl rfl rfl cb_39) h ?_
    clear hs a h
    intro v a w hk hs
    obtain ⟨t23, rfl, h⟩ := hk
    refine hK6 _ _ ?_
    refine c_cond hs rfl (fun hb => ?_) (fun hb => ?_)
    · replace h := h.1 hb
      clear hb
      refine wp_seq_k fun K7 hK7 => ?_
      refine wp_region_lit ?_
      refine t_pure hs rfl rfl (by decide) (p_assign rfl rfl) ?_
      clear hs a
      intro a hs
      refine hK7 _ _ ?_
      refine wp_ret ?_
      refine f_ret (fn := Try.f11) hs (fun a hs => r_one hs rfl (rfl)) ⟨true, rfl, h⟩
    · replace h := h.2 hb
      clear hb
      refine wp_skip ?_
      refine hK5 _ _ ?_
      refine wp_seq_k fun K8 hK8 => ?_
      refine wp_region_lit ?_
      refine t_pure hs rfl rfl (by decide) (p_move rfl rfl) ?_
      clear hs a
      intro a hs
      refine t_call hs rfl rfl (by decide) (e_call rfl rfl rfl cb_29) h ?_
      clear hs a h
      intro v a w hk hs
      obtain ⟨t25, rfl, h⟩ := hk
      refine t_pure hs rfl rfl (by decide) (p_move rfl rfl) ?_
      clear hs a
      intro a hs
      refine t_call hs rfl rfl (by decide) (e_call rfl rfl rfl cb_40) h ?_
      clear hs a h
      intro v a w hk hs
      obtain ⟨t27, rfl, h⟩ := hk
      refine t_pure hs rfl rfl (by decide) (p_assign rfl rfl) ?_
      clear hs a
      intro a hs
      refine t_pure hs rfl rfl (by decide) (p_assign rfl rfl) ?_
      clear hs a
      intro a hs
      refine hK8 _ _ ?_
      refine wp_seq_k fun K9 hK9 => ?_
      refine wp_seq_k fun K10 hK10 => ?_
      refine wp_region_lit ?_
      refine t_pure hs rfl rfl (by decide) (p_move rfl rfl) ?_
      clear hs a
      intro a hs
      refine t_pure hs rfl rfl (by decide) (p_eq_nil rfl rfl rfl Try.underlying57) ?_
      clear hs a
      intro a hs
      refine hK10 _ _ ?_
      refine c_cond hs rfl (fun hb => ?_) (fun hb => ?_)
      · replace h := h.1 hb
        clear hb
        refine wp_seq_k fun K11 hK11 => ?_
        refine wp_region_lit ?_
        refine t_pure hs rfl rfl (by decide) (p_assign rfl rfl) ?_
        clear hs a
        intro a hs
        refine hK11 _ _ ?_
        refine wp_ret ?_
        refine f_ret (fn := Try.f11) hs (fun a hs => r_one hs rfl (rfl)) ⟨false, rfl, h⟩
      · replace h := h.2 hb
        clear hb
        refine wp_skip ?_
        refine hK9 _ _ ?_
        refine wp_seq_k fun K12 hK12 => ?_
        refine wp_seq_k fun K13 hK13 => ?_
        refine wp_region_lit ?_
        refine t_pure hs rfl rfl (by decide) (p_move rfl rfl) ?_
        clear hs a
        intro a hs
        refine t_pure hs rfl rfl (by decide) (p_len rfl rfl sl_82) ?_
        clear hs a
        intro a hs
        refine t_pure hs rfl rfl (by decide) (p_move rfl rfl) ?_
        clear hs a
        intro a hs
        refine hK13 _ _ ?_
        refine wp_block ?_
        obtain ⟨I1, μ1, h0, hr⟩ := h
        refine c_loop (α := Int) I1 μ1 (fun x a => Slots a 153 [(5, (.pointer t25)), (6, (.pointer t27)), (30, (Sl.val script1)), (31, (.int .i64 (script1.n : Int))), (32, (.int .i64 x))]) 0 h0 (hs.to ⟨rfl, rfl, rfl, rfl, rfl, trivial⟩) ?_
        clear h0 hs a
        intro t32_1 a w hI hs
        have h : law19_LinkPlays.b1 Q (fun t32_1n w' => I1 t32_1n w' ∧ μ1 t32_1n w' < μ1 t32_1 w) t25 t27 script1 (script1.n : Int) t32_1 w := hr t32_1 w hI
        clear hr hI
        generalize hX1 : (fun t32_1n w' => I1 t32_1n w' ∧ μ1 t32_1n w' < μ1 t32_1 w) = X1 at h
        unfold law19_LinkPlays.b1 at h
        replace hs : Slots a 153 [(5, (.pointer t25)), (6, (.pointer t27)), (30, (Sl.val script1)), (31, (.int .i64 (script1.n : Int))), (32, (.int .i64 t32_1))] := hs
        refine wp_seq_k fun K14 hK14 => ?_
        refine wp_region_lit ?_
        refine t_pure hs rfl rfl (by decide) (p_lt rfl rfl rfl) ?_
        clear hs a
        intro a hs
        refine hK14 _ _ ?_
        refine wp_seq_k fun K15 hK15 => ?_
        refine c_cond hs rfl (fun hb => ?_) (fun hb => ?_)
        · replace h := h.1 hb
          clear hb
          refine wp_skip ?_
          refine hK15 _ _ ?_
          refine wp_seq_k fun K16 hK16 => ?_
          refine wp_block ?_
          refine wp_seq_k fun K17 hK17 => ?_
          refine wp_region_lit ?_
          obtain ⟨qt34, t34, ha, h0, h1, he, h⟩ := h
          refine t_pure hs rfl rfl (by decide) (Pure.adr he (p_idx rfl rfl rfl sl_82 ha h0 h1)) ?_
          clear hs a ha h0 h1 he
          intro a hs
          obtain ⟨t35, hn, hv, h⟩ := h
          refine t_eff hs rfl rfl (by decide) (e_loadN rfl rfl at_87 hn hv) ?_
          clear hs a hn hv
          intro a hs
          obtain ⟨o8, w1, ha, hw, h⟩ := h
          refine t_eff hs rfl rfl (by decide) (e_alloc rfl zt_87 rfl ha hw) ?_
          clear hs a ha hw
          intro a hs
          obtain ⟨w1, hw, hn, hc, hv, h⟩ := h
          refine t_skip hs rfl rfl (e_storeN rfl rfl rfl sz_87 hw hn hc hv) ?_
          clear hs a hw hn hc hv
          intro a hs
          refine hK17 _ _ ?_
          refine wp_seq_k fun K18 hK18 => ?_
          have J2 : ∀ (a : Act) (w : World), Slots a 153 [(5, (.pointer t25)), (6, (.pointer t27)), (30, (Sl.val script1)), (31, (.int .i64 (script1.n : Int))), (32, (.int .i64 t32_1))] → law19_LinkPlays.s2 Q X1 t25 t27 script1 (script1.n : Int) t32_1 w → K18 a w := by
            clear h hs
            intro a w hs h
            refine hK18 _ _ ?_
            unfold law19_LinkPlays.s2 at h
            refine wp_seq_k fun K19 hK19 => ?_
            refine wp_region_lit ?_
            refine t_pure hs rfl rfl (by decide) (p_move rfl rfl) ?_
            clear hs a
            intro a hs
            refine t_call hs rfl rfl (by decide) (e_call rfl rfl rfl cb_32) h ?_
            clear hs a h
            intro v a w hk hs
            obtain ⟨t104, rfl, h⟩ := hk
            refine t_pure hs rfl rfl (by decide) (p_assign rfl rfl) ?_
            clear hs a
            intro a hs
            refine hK19 _ _ ?_
            refine wp_seq_k fun K20 hK20 => ?_
            refine wp_seq_k fun K21 hK21 => ?_
            have J3 : ∀ (t128_3 : Bool) (a : Act) (w : World), Slots a 153 [(5, (.pointer t25)), (6, (.pointer t27)), (17, (Sl.val t104)), (30, (Sl.val script1)), (31, (.int .i64 (script1.n : Int))), (32, (.int .i64 t32_1)), (128, (.bool t128_3))] → law19_LinkPlays.s3 Q X1 t25 t27 t104 script1 (script1.n : Int) t32_1 t128_3 w → K21 a w := by
              clear h hs
              intro t128_3 a w hs h
              refine hK21 _ _ ?_
              unfold law19_LinkPlays.s3 at h
              refine c_cond hs rfl (fun hb => ?_) (fun hb => ?_)
              · replace h := h.1 hb
                clear hb
                refine wp_seq_k fun K22 hK22 => ?_
                refine wp_region_lit ?_
                refine t_pure hs rfl rfl (by decide) (p_assign rfl rfl) ?_
                clear hs a
                intro a hs
                refine hK22 _ _ ?_
                refine wp_ret ?_
                refine f_ret (fn := Try.f11) hs (fun a hs => r_one hs rfl (rfl)) ⟨false, rfl, h⟩
              · replace h := h.2 hb
                clear hb
                refine wp_skip ?_
                refine hK20 _ _ ?_
                refine wp_seq_k fun K23 hK23 => ?_
                refine wp_region_lit ?_
                refine t_pure hs rfl rfl (by decide) (p_move rfl rfl) ?_
                clear hs a
                intro a hs
                refine t_pure hs rfl rfl (by decide) (p_len rfl rfl sl_60) ?_
                clear hs a
                intro a hs
                refine t_pure hs rfl rfl (by decide) (p_move rfl rfl) ?_
                clear hs a
                intro a hs
                refine hK23 _ _ ?_
                refine wp_block ?_
                obtain ⟨I4, μ4, h0, hr⟩ := h
                refine c_loop (α := Int) I4 μ4 (fun x a => Slots a 153 [(5, (.pointer t25)), (6, (.pointer t27)), (17, (Sl.val t104)), (30, (Sl.val script1)), (31, (.int .i64 (script1.n : Int))), (32, (.int .i64 t32_1)), (130, (.int .i64 (t104.n : Int))), (131, (.int .i64 x))]) 0 h0 (hs.to ⟨rfl, rfl, rfl, rfl, rfl, rfl, rfl, rfl, trivial⟩) ?_
                clear h0 hs a
                intro t131_4 a w hI hs
                have h : law19_LinkPlays.b4 Q X1 (fun t131_4n w' => I4 t131_4n w' ∧ μ4 t131_4n w' < μ4 t131_4 w) t25 t27 t104 script1 (script1.n : Int) t32_1 (t104.n : Int) t131_4 w := hr t131_4 w hI
                clear hr hI
                generalize hX4 : (fun t131_4n w' => I4 t131_4n w' ∧ μ4 t131_4n w' < μ4 t131_4 w) = X4 at h
                unfold law19_LinkPlays.b4 at h
                replace hs : Slots a 153 [(5, (.pointer t25)), (6, (.pointer t27)), (17, (Sl.val t104)), (30, (Sl.val script1)), (31, (.int .i64 (script1.n : Int))), (32, (.int .i64 t32_1)), (130, (.int .i64 (t104.n : Int))), (131, (.int .i64 t131_4))] := hs
                refine wp_seq_k fun K24 hK24 => ?_
                refine wp_region_lit ?_
                refine t_pure hs rfl rfl (by decide) (p_lt rfl rfl rfl) ?_
                clear hs a
                intro a hs
                refine hK24 _ _ ?_
                refine wp_seq_k fun K25 hK25 => ?_
                refine c_cond hs rfl (fun hb => ?_) (fun hb => ?_)
                · replace h := h.1 hb
                  clear hb
                  refine wp_skip ?_
                  refine hK25 _ _ ?_
                  refine wp_seq_k fun K26 hK26 => ?_
                  refine wp_block ?_
                  refine wp_seq_k fun K27 hK27 => ?_
                  refine wp_region_lit ?_
                  refine t_pure hs rfl rfl (by decide) (p_move rfl rfl) ?_
                  clear hs a
                  intro a hs
                  refine t_pure hs rfl rfl (by decide) (p_assign rfl rfl) ?_
                  clear hs a
                  intro a hs
                  refine hK27 _ _ ?_
                  refine wp_seq_k fun K28 hK28 => ?_
                  refine wp_region_lit ?_
                  refine t_pure hs rfl rfl (by decide) (p_move rfl rfl) ?_
                  clear hs a
                  intro a hs
                  refine t_pure hs rfl rfl (by decide) (p_move rfl rfl) ?_
                  clear hs a
                  intro a hs
                  obtain ⟨qt136, t136, ha, h0, h1, he, h⟩ := h
                  refine t_pure hs rfl rfl (by decide) (Pure.adr he (p_idx rfl rfl rfl sl_60 ha h0 h1)) ?_
                  clear hs a ha h0 h1 he
                  intro a hs
                  refine t_pure hs rfl rfl (by decide) (p_fieldAddr rfl rfl ft_36_4) ?_
                  clear hs a
                  intro a hs
                  obtain ⟨t138, hv, h⟩ := h
                  refine t_eff hs rfl rfl (by decide) (e_load rfl rfl ct_22 hv) ?_
                  clear hs a hv
                  intro a hs
                  refine t_pure hs rfl rfl (by decide) (p_len rfl rfl sl_22) ?_
                  clear hs a
                  intro a hs
                  refine t_pure hs rfl rfl (by decide) (p_move rfl rfl) ?_
                  clear hs a
                  intro a hs
                  refine hK28 _ _ ?_
                  refine wp_block ?_
                  obtain ⟨I5, μ5, h0, hr⟩ := h
                  refine c_loop (α := Int) I5 μ5 (fun x a => Slots a 153 [(5, (.pointer t25)), (6, (.pointer t27)), (17, (Sl.val t104)), (18, (.int .i64 t131_4)), (30, (Sl.val script1)), (31, (.int .i64 (script1.n : Int))), (32, (.int .i64 t32_1)), (130, (.int .i64 (t104.n : Int))), (131, (.int .i64 t131_4)), (139, (.int .i64 (t138.n : Int))), (140, (.int .i64 x))]) 0 h0 (hs.to ⟨rfl, rfl, rfl, rfl, rfl, rfl, rfl, rfl, rfl, rfl, rfl, trivial⟩) ?_
                  clear h0 hs a
                  intro t140_5 a w hI hs
                  have h : law19_LinkPlays.b5 Q X1 X4 (fun t140_5n w' => I5 t140_5n w' ∧ μ5 t140_5n w' < μ5 t140_5 w) t25 t27 t104 t131_4 script1 (script1.n : Int) t32_1 (t104.n : Int) t131_4 (t138.n : Int) t140_5 w := hr t140_5 w hI
                  clear hr hI
                  generalize hX5 : (fun t140_5n w' => I5 t140_5n w' ∧ μ5 t140_5n w' < μ5 t140_5 w) = X5 at h
                  unfold law19_LinkPlays.b5 at h
                  replace hs : Slots a 153 [(5, (.pointer t25)), (6, (.pointer t27)), (17, (Sl.val t104)), (18, (.int .i64 t131_4)), (30, (Sl.val script1)), (31, (.int .i64 (script1.n : Int))), (32, (.int .i64 t32_1)), (130, (.int .i64 (t104.n : Int))), (131, (.int .i64 t131_4)), (139, (.int .i64 (t138.n : Int))), (140, (.int .i64 t140_5))] := hs
                  refine wp_seq_k fun K29 hK29 => ?_
                  refine wp_region_lit ?_
                  refine t_pure hs rfl rfl (by decide) (p_lt rfl rfl rfl) ?_
                  clear hs a
                  intro a hs
                  refine hK29 _ _ ?_
                  refine wp_seq_k fun K30 hK30 => ?_
                  refine c_cond hs rfl (fun hb => ?_) (fun hb => ?_)
                  · replace h := h.1 hb
                    clear hb
                    refine wp_skip ?_
                    refine hK30 _ _ ?_
                    refine wp_seq_k fun K31 hK31 => ?_
                    refine wp_block ?_
                    refine wp_seq_k fun K32 hK32 => ?_
                    refine wp_region_lit ?_
                    refine t_pure hs rfl rfl (by decide) (p_move rfl rfl) ?_
                    clear hs a
                    intro a hs
                    refine t_pure hs rfl rfl (by decide) (p_assign rfl rfl) ?_
                    clear hs a
                    intro a hs
                    refine hK32 _ _ ?_
                    refine wp_region_lit ?_
                    refine t_pure hs rfl rfl (by decide) (p_move rfl rfl) ?_
                    clear hs a
                    intro a hs
                    refine t_pure hs rfl rfl (by decide) (p_move rfl rfl) ?_
                    clear hs a
                    intro a hs
                    obtain ⟨qt145, t145, ha, h0, h1, he, h⟩ := h
                    refine t_pure hs rfl rfl (by decide) (Pure.adr he (p_idx rfl rfl rfl sl_60 ha h0 h1)) ?_
                    clear hs a ha h0 h1 he
                    intro a hs
                    refine t_pure hs rfl rfl (by decide) (p_fieldAddr rfl rfl ft_36_4) ?_
                    clear hs a
                    intro a hs
                    obtain ⟨t147, hv, h⟩ := h
                    refine t_eff hs rfl rfl (by decide) (e_load rfl rfl ct_22 hv) ?_
                    clear hs a hv
                    intro a hs
                    refine t_pure hs rfl rfl (by decide) (p_move rfl rfl) ?_
                    clear hs a
                    intro a hs
                    obtain ⟨qt149, t149, ha, h0, h1, he, h⟩ := h
                    refine t_pure hs rfl rfl (by decide) (Pure.adr he (p_idx rfl rfl rfl sl_22 ha h0 h1)) ?_
                    clear hs a ha h0 h1 he
                    intro a hs
                    obtain ⟨w1, hw, hc, hf, hv, h⟩ := h
                    refine t_skip hs rfl rfl (e_store rfl rfl rfl sz_5 hw hc hf hv) ?_
                    clear hs a hw hc hf hv
                    intro a hs
                    refine hK31 _ _ ?_
                    refine wp_region_lit ?_
                    obtain ⟨t150, he, h⟩ := h
                    refine t_pure hs rfl rfl (by decide) (Pure.int he (p_add rfl rfl rfl)) ?_
                    clear hs a he
                    intro a hs
                    refine t_pure hs rfl rfl (by decide) (p_move rfl rfl) ?_
                    clear hs a
                    intro a hs
                    rw [← hX5] at h
                    exact ⟨t150, hs.to ⟨rfl, rfl, rfl, rfl, rfl, rfl, rfl, rfl, rfl, rfl, rfl, trivial⟩, h⟩
                  · replace h := h.2 hb
                    clear hb
                    refine wp_exit ?_
                    refine hK26 _ _ ?_
                    refine wp_region_lit ?_
                    obtain ⟨t151, he, h⟩ := h
                    refine t_pure hs rfl rfl (by decide) (Pure.int he (p_add rfl rfl rfl)) ?_
                    clear hs a he
                    intro a hs
                    refine t_pure hs rfl rfl (by decide) (p_move rfl rfl) ?_
                    clear hs a
                    intro a hs
                    rw [← hX4] at h
                    exact ⟨t151, hs.to ⟨rfl, rfl, rfl, rfl, rfl, rfl, rfl, rfl, trivial⟩, h⟩
                · replace h := h.2 hb
                  clear hb
                  refine wp_exit ?_
                  refine hK16 _ _ ?_
                  refine wp_region_lit ?_
                  obtain ⟨t152, he, h⟩ := h
                  refine t_pure hs rfl rfl (by decide) (Pure.int he (p_add rfl rfl rfl)) ?_
                  clear hs a he
                  intro a hs
                  refine t_pure hs rfl rfl (by decide) (p_move rfl rfl) ?_
                  clear hs a
                  intro a hs
                  rw [← hX1] at h
                  exact ⟨t152, hs.to ⟨rfl, rfl, rfl, rfl, rfl, trivial⟩, h⟩
            clear hK21
            obtain ⟨w1, hw1, h⟩ := h
            obtain ⟨S, hS, h⟩ := h
            subst hw1
            refine d_start (S := S) (ds := []) #[false, false, false, false, false, false, false, false, false, false, false, false, false, false, false, false, false, false, false, false, false, false, false, false] mixed rfl rfl ?_
            refine d_pure hs #[true, false, false, false, false, false, false, false, false, false, false, false, false, false, false, false, false, false, false, false, false, false, false, false] (i := 0) rfl rfl rfl (by decide) (by kernel_rfl) (tight_body (P := Try.prog) (fn := Try.f11)) (p_move rfl rfl) ?_
            clear hs a
            intro a hs
            refine d_pure hs #[true, true, false, false, false, false, false, false, false, false, false, false, false, false, false, false, false, false, false, false, false, false, false, false] (i := 1) rfl rfl rfl (by decide) (by kernel_rfl) (tight_body (P := Try.prog) (fn := Try.f11)) (p_move rfl rfl) ?_
            clear hs a
            intro a hs
            refine d_all [2] (by kernel_rfl) (by decide) ?_
            refine AllS.cons ?_ AllS.nil
            refine d_call hs #[true, true, true, false, false, false, false, false, false, false, false, false, false, false, false, false, false, false, false, false, false, false, false, false] (i := 2) rfl rfl rfl (by decide) rfl (e_call rfl rfl rfl cb_44) h (fun v w'' hk => by obtain ⟨t107, _, hS, _⟩ := hk; exact fun _ _ => hS) ?_
            clear hs a h
            intro v a w hk hs
            obtain ⟨t107, rfl, h⟩ := hk
            obtain ⟨hS, h⟩ := h
            refine d_all [3] (by kernel_rfl) (by decide) ?_
            refine AllS.cons ?_ AllS.nil
            refine d_call hs #[true, true, true, true, false, false, false, false, false, false, false, false, false, false, false, false, false, false, false, false, false, false, false, false] (i := 3) rfl rfl rfl (by decide) rfl (e_call rfl rfl rfl cb_43) h (fun v w'' hk => by obtain ⟨t108, _, hS, _⟩ := hk; exact fun _ _ => hS) ?_
            clear hs a h
            intro v a w hk hs
            obtain ⟨t108, rfl, h⟩ := hk
            obtain ⟨hS, h⟩ := h
            refine d_pure hs #[true, true, true, true, true, false, false, false, false, false, false, false, false, false, false, false, false, false, false, false, false, false, false, false] (i := 4) rfl rfl rfl (by decide) (by kernel_rfl) (tight_body (P := Try.prog) (fn := Try.f11)) (p_not rfl rfl) ?_
            clear hs a
            intro a hs
            refine d_pure hs #[true, true, true, true, true, true, false, false, false, false, false, false, false, false, false, false, false, false, false, false, false, false, false, false] (i := 5) rfl rfl rfl (by decide) (by kernel_rfl) (tight_body (P := Try.prog) (fn := Try.f11)) (p_move rfl rfl) ?_
            clear hs a
            intro a hs
            refine split_bool (!t108) (fun hb => ?_) (fun hb => ?_)
            · replace h := h.1 hb
              rw [hb] at hs
              clear hb
              refine d_no hs #[true, true, true, true, true, true, true, false, false, false, false, false, false, false, false, false, false, false, false, false, false, false, false, false] (i := 6) rfl rfl rfl (by decide) (by kernel_rfl) (tight_body (P := Try.prog) (fn := Try.f11)) ?_
              clear hs a
              intro a hs
              refine d_no hs #[true, true, true, true, true, true, true, true, false, false, false, false, false, false, false, false, false, false, false, false, false, false, false, false] (i := 7) rfl rfl rfl (by decide) (by kernel_rfl) (tight_body (P := Try.prog) (fn := Try.f11)) ?_
              clear hs a
              intro a hs
              replace hs := hs.to (τ := [(5, (.pointer t25)), (6, (.pointer t27)), (17, (Sl.val t104)), (30, (Sl.val script1)), (31, (.int .i64 (script1.n : Int))), (32, (.int .i64 t32_1)), (110, (.bool true)), (112, undef)]) ⟨rfl, rfl, rfl, rfl, rfl, rfl, rfl, rfl, trivial⟩
              refine d_no hs #[true, true, true, true, true, true, true, true, true, false, false, false, false, false, false, false, false, false, false, false, false, false, false, false] (i := 8) rfl rfl rfl (by decide) (by kernel_rfl) (tight_body (P := Try.prog) (fn := Try.f11)) ?_
              clear hs a
              intro a hs
              refine d_no hs #[true, true, true, true, true, true, true, true, true, true, false, false, false, false, false, false, false, false, false, false, false, false, false, false] (i := 9) rfl rfl rfl (by decide) (by kernel_rfl) (tight_body (P := Try.prog) (fn := Try.f11)) ?_
              clear hs a
              intro a hs
              refine d_no hs #[true, true, true, true, true, true, true, true, true, true, true, false, false, false, false, false, false, false, false, false, false, false, false, false] (i := 10) rfl rfl rfl (by decide) (by kernel_rfl) (tight_body (P := Try.prog) (fn := Try.f11)) ?_
              clear hs a
              intro a hs
              refine d_no hs #[true, true, true, true, true, true, true, true, true, true, true, true, false, false, false, false, false, false, false, false, false, false, false, false] (i := 11) rfl rfl rfl (by decide) (by kernel_rfl) (tight_body (P := Try.prog) (fn := Try.f11)) ?_
              clear hs a
              intro a hs
              refine d_no hs #[true, true, true, true, true, true, true, true, true, true, true, true, true, false, false, false, false, false, false, false, false, false, false, false] (i := 12) rfl rfl rfl (by decide) (by kernel_rfl) (tight_body (P := Try.prog) (fn := Try.f11)) ?_
              clear hs a
              intro a hs
              refine d_no hs #[true, true, true, true, true, true, true, true, true, true, true, true, true, true, false, false, false, false, false, false, false, false, false, false] (i := 13) rfl rfl rfl (by decide) (by kernel_rfl) (tight_body (P := Try.prog) (fn := Try.f11)) ?_
              clear hs a
              intro a hs
              refine d_pure hs #[true, true, true, true, true, true, true, true, true, true, true, true, true, true, true, false, false, false, false, false, false, false, false, false] (i := 14) rfl rfl rfl (by decide) (by kernel_rfl) (tight_body (P := Try.prog) (fn := Try.f11)) (p_pick_t rfl rfl rfl) ?_
              clear hs a
              intro a hs
              refine d_pure hs #[true, true, true, true, true, true, true, true, true, true, true, true, true, true, true, true, false, false, false, false, false, false, false, false] (i := 15) rfl rfl rfl (by decide) (by kernel_rfl) (tight_body (P := Try.prog) (fn := Try.f11)) (p_move rfl rfl) ?_
              clear hs a
              intro a hs
              replace hs := hs.to (τ := [(5, (.pointer t25)), (6, (.pointer t27)), (17, (Sl.val t104)), (30, (Sl.val script1)), (31, (.int .i64 (script1.n : Int))), (32, (.int .i64 t32_1)), (120, (.bool true))]) ⟨rfl, rfl, rfl, rfl, rfl, rfl, rfl, trivial⟩
              refine d_no hs #[true, true, true, true, true, true, true, true, true, true, true, true, true, true, true, true, true, false, false, false, false, false, false, false] (i := 16) rfl rfl rfl (by decide) (by kernel_rfl) (tight_body (P := Try.prog) (fn := Try.f11)) ?_
              clear hs a
              intro a hs
              refine d_no hs #[true, true, true, true, true, true, true, true, true, true, true, true, true, true, true, true, true, true, false, false, false, false, false, false] (i := 17) rfl rfl rfl (by decide) (by kernel_rfl) (tight_body (P := Try.prog) (fn := Try.f11)) ?_
              clear hs a
              intro a hs
              refine d_no hs #[true, true, true, true, true, true, true, true, true, true, true, true, true, true, true, true, true, true, true, false, false, false, false, false] (i := 18) rfl rfl rfl (by decide) (by kernel_rfl) (tight_body (P := Try.prog) (fn := Try.f11)) ?_
              clear hs a
              intro a hs
              refine d_no hs #[true, true, true, true, true, true, true, true, true, true, true, true, true, true, true, true, true, true, true, true, false, false, false, false] (i := 19) rfl rfl rfl (by decide) (by kernel_rfl) (tight_body (P := Try.prog) (fn := Try.f11)) ?_
              clear hs a
              intro a hs
              refine d_no hs #[true, true, true, true, true, true, true, true, true, true, true, true, true, true, true, true, true, true, true, true, true, false, false, false] (i := 20) rfl rfl rfl (by decide) (by kernel_rfl) (tight_body (P := Try.prog) (fn := Try.f11)) ?_
              clear hs a
              intro a hs
              refine d_no hs #[true, true, true, true, true, true, true, true, true, true, true, true, true, true, true, true, true, true, true, true, true, true, false, false] (i := 21) rfl rfl rfl (by decide) (by kernel_rfl) (tight_body (P := Try.prog) (fn := Try.f11)) ?_
              clear hs a
              intro a hs
              refine d_no hs #[true, true, true, true, true, true, true, true, true, true, true, true, true, true, true, true, true, true, true, true, true, true, true, false] (i := 22) rfl rfl rfl (by decide) (by kernel_rfl) (tight_body (P := Try.prog) (fn := Try.f11)) ?_
              clear hs a
              intro a hs
              refine d_pure hs #[true, true, true, true, true, true, true, true, true, true, true, true, true, true, true, true, true, true, true, true, true, true, true, true] (i := 23) rfl rfl rfl (by decide) (by kernel_rfl) (tight_body (P := Try.prog) (fn := Try.f11)) (p_pick_t rfl rfl rfl) ?_
              clear hs a
              intro a hs
              replace hs := hs.to (τ := [(5, (.pointer t25)), (6, (.pointer t27)), (17, (Sl.val t104)), (30, (Sl.val script1)), (31, (.int .i64 (script1.n : Int))), (32, (.int .i64 t32_1)), (128, (.bool true))]) ⟨rfl, rfl, rfl, rfl, rfl, rfl, rfl, trivial⟩
              refine d_done (by kernel_rfl) ?_ _
              clear hS
              exact J3 true _ _ (hs.to ⟨rfl, rfl, rfl, rfl, rfl, rfl, rfl, trivial⟩) h
            · replace h := h.2 hb
              rw [hb] at hs
              clear hb
              refine d_pure hs #[true, true, true, true, true, true, true, false, false, false, false, false, false, false, false, false, false, false, false, false, false, false, false, false] (i := 6) rfl rfl rfl (by decide) (by kernel_rfl) (tight_body (P := Try.prog) (fn := Try.f11)) (p_move rfl rfl) ?_
              clear hs a
              intro a hs
              refine d_pure hs #[true, true, true, true, true, true, true, false, true, false, false, false, false, false, false, false, false, false, false, false, false, false, false, false] (i := 8) rfl rfl rfl (by decide) (by kernel_rfl) (tight_body (P := Try.prog) (fn := Try.f11)) (p_move rfl rfl) ?_
              clear hs a
              intro a hs
              replace hs := hs.to (τ := [(5, (.pointer t25)), (6, (.pointer t27)), (17, (Sl.val t104)), (30, (Sl.val script1)), (31, (.int .i64 (script1.n : Int))), (32, (.int .i64 t32_1)), (110, (.bool false)), (111, (.pointer t25)), (113, (.pointer t27))]) ⟨rfl, rfl, rfl, rfl, rfl, rfl, rfl, rfl, rfl, trivial⟩
              obtain ⟨t114, rfl, h⟩ := h
              refine d_pure hs #[true, true, true, true, true, true, true, false, true, true, false, false, false, false, false, false, false, false, false, false, false, false, false, false] (i := 9) rfl rfl rfl (by decide) (by kernel_rfl) (tight_body (P := Try.prog) (fn := Try.f11)) (p_nil rfl rfl) ?_
              clear hs a
              intro a hs
              refine d_pure hs #[true, true, true, true, true, true, true, false, true, true, true, false, false, false, false, false, false, false, false, false, false, false, false, false] (i := 10) rfl rfl rfl (by decide) (by kernel_rfl) (tight_body (P := Try.prog) (fn := Try.f11)) (p_fieldAddr rfl rfl ft_92_4) ?_
              clear hs a
              intro a hs
              obtain ⟨t116, hv, h⟩ := h
              refine d_read hs #[true, true, true, true, true, true, true, false, true, true, true, true, false, false, false, false, false, false, false, false, false, false, false, false] (i := 11) rfl rfl rfl (by decide) (by kernel_rfl) (by kernel_rfl) (tight_body (P := Try.prog) (fn := Try.f11)) hS (fun w h' => e_load rfl rfl ct_56 (hv w h')) ?_
              clear hs a hv
              intro a hs
              refine d_pure hs #[true, true, true, true, true, true, true, false, true, true, true, true, true, false, false, false, false, false, false, false, false, false, false, false] (i := 12) rfl rfl rfl (by decide) (by kernel_rfl) (tight_body (P := Try.prog) (fn := Try.f11)) (p_len rfl rfl sl_56) ?_
              clear hs a
              intro a hs
              refine d_all [7] (by kernel_rfl) (by decide) ?_
              refine AllS.cons ?_ AllS.nil
              refine d_call hs #[true, true, true, true, true, true, true, true, true, true, true, true, true, false, false, false, false, false, false, false, false, false, false, false] (i := 7) rfl rfl rfl (by decide) rfl (e_call rfl rfl rfl cb_37) h (fun v w'' hk => by obtain ⟨t112, _, hS, _⟩ := hk; exact fun _ _ => hS) ?_
              clear hs a h
              intro v a w hk hs
              obtain ⟨t112, rfl, h⟩ := hk
              obtain ⟨hS, h⟩ := h
              refine d_pure hs #[true, true, true, true, true, true, true, true, true, true, true, true, true, true, false, false, false, false, false, false, false, false, false, false] (i := 13) rfl rfl rfl (by decide) (by kernel_rfl) (tight_body (P := Try.prog) (fn := Try.f11)) (p_ne rfl rfl rfl) ?_
              clear hs a
              intro a hs
              refine d_pure hs #[true, true, true, true, true, true, true, true, true, true, true, true, true, true, true, false, false, false, false, false, false, false, false, false] (i := 14) rfl rfl rfl (by decide) (by kernel_rfl) (tight_body (P := Try.prog) (fn := Try.f11)) (p_pick_f rfl rfl rfl) ?_
              clear hs a
              intro a hs
              refine d_pure hs #[true, true, true, true, true, true, true, true, true, true, true, true, true, true, true, true, false, false, false, false, false, false, false, false] (i := 15) rfl rfl rfl (by decide) (by kernel_rfl) (tight_body (P := Try.prog) (fn := Try.f11)) (p_move rfl rfl) ?_
              clear hs a
              intro a hs
              replace hs := hs.to (τ := [(5, (.pointer t25)), (6, (.pointer (some t114))), (17, (Sl.val t104)), (30, (Sl.val script1)), (31, (.int .i64 (script1.n : Int))), (32, (.int .i64 t32_1)), (120, (.bool (decide (t112 ≠ (t116.n : Int)))))]) ⟨rfl, rfl, rfl, rfl, rfl, rfl, rfl, trivial⟩
              refine split_bool (decide (t112 ≠ (t116.n : Int))) (fun hb => ?_) (fun hb => ?_)
              · replace h := h.1 hb
                rw [hb] at hs
                clear hb
                refine d_no hs #[true, true, true, true, true, true, true, true, true, true, true, true, true, true, true, true, true, false, false, false, false, false, false, false] (i := 16) rfl rfl rfl (by decide) (by kernel_rfl) (tight_body (P := Try.prog) (fn := Try.f11)) ?_
                clear hs a
                intro a hs
                refine d_no hs #[true, true, true, true, true, true, true, true, true, true, true, true, true, true, true, true, true, true, false, false, false, false, false, false] (i := 17) rfl rfl rfl (by decide) (by kernel_rfl) (tight_body (P := Try.prog) (fn := Try.f11)) ?_
                clear hs a
                intro a hs
                refine d_no hs #[true, true, true, true, true, true, true, true, true, true, true, true, true, true, true, true, true, true, true, false, false, false, false, false] (i := 18) rfl rfl rfl (by decide) (by kernel_rfl) (tight_body (P := Try.prog) (fn := Try.f11)) ?_
                clear hs a
                intro a hs
                refine d_no hs #[true, true, true, true, true, true, true, true, true, true, true, true, true, true, true, true, true, true, true, true, false, false, false, false] (i := 19) rfl rfl rfl (by decide) (by kernel_rfl) (tight_body (P := Try.prog) (fn := Try.f11)) ?_
                clear hs a
                intro a hs
                refine d_no hs #[true, true, true, true, true, true, true, true, true, true, true, true, true, true, true, true, true, true, true, true, true, false, false, false] (i := 20) rfl rfl rfl (by decide) (by kernel_rfl) (tight_body (P := Try.prog) (fn := Try.f11)) ?_
                clear hs a
                intro a hs
                refine d_no hs #[true, true, true, true, true, true, true, true, true, true, true, true, true, true, true, true, true, true, true, true, true, true, false, false] (i := 21) rfl rfl rfl (by decide) (by kernel_rfl) (tight_body (P := Try.prog) (fn := Try.f11)) ?_
                clear hs a
                intro a hs
                refine d_no hs #[true, true, true, true, true, true, true, true, true, true, true, true, true, true, true, true, true, true, true, true, true, true, true, false] (i := 22) rfl rfl rfl (by decide) (by kernel_rfl) (tight_body (P := Try.prog) (fn := Try.f11)) ?_
                clear hs a
                intro a hs
                refine d_pure hs #[true, true, true, true, true, true, true, true, true, true, true, true, true, true, true, true, true, true, true, true, true, true, true, true] (i := 23) rfl rfl rfl (by decide) (by kernel_rfl) (tight_body (P := Try.prog) (fn := Try.f11)) (p_pick_t rfl rfl rfl) ?_
                clear hs a
                intro a hs
                replace hs := hs.to (τ := [(5, (.pointer t25)), (6, (.pointer (some t114))), (17, (Sl.val t104)), (30, (Sl.val script1)), (31, (.int .i64 (script1.n : Int))), (32, (.int .i64 t32_1)), (128, (.bool true))]) ⟨rfl, rfl, rfl, rfl, rfl, rfl, rfl, trivial⟩
                refine d_done (by kernel_rfl) ?_ _
                clear hS
                exact J3 true _ _ (hs.to ⟨rfl, rfl, rfl, rfl, rfl, rfl, rfl, trivial⟩) h
              · replace h := h.2 hb
                rw [hb] at hs
                clear hb
                refine d_pure hs #[true, true, true, true, true, true, true, true, true, true, true, true, true, true, true, true, true, false, false, false, false, false, false, false] (i := 16) rfl rfl rfl (by decide) (by kernel_rfl) (tight_body (P := Try.prog) (fn := Try.f11)) (p_move rfl rfl) ?_
                clear hs a
                intro a hs
                refine d_pure hs #[true, true, true, true, true, true, true, true, true, true, true, true, true, true, true, true, true, false, true, false, false, false, false, false] (i := 18) rfl rfl rfl (by decide) (by kernel_rfl) (tight_body (P := Try.prog) (fn := Try.f11)) (p_move rfl rfl) ?_
                clear hs a
                intro a hs
                refine d_pure hs #[true, true, true, true, true, true, true, true, true, true, true, true, true, true, true, true, true, false, true, true, false, false, false, false] (i := 19) rfl rfl rfl (by decide) (by kernel_rfl) (tight_body (P := Try.prog) (fn := Try.f11)) (p_nil rfl rfl) ?_
                clear hs a
                intro a hs
                refine d_pure hs #[true, true, true, true, true, true, true, true, true, true, true, true, true, true, true, true, true, false, true, true, true, false, false, false] (i := 20) rfl rfl rfl (by decide) (by kernel_rfl) (tight_body (P := Try.prog) (fn := Try.f11)) (p_fieldAddr rfl rfl ft_92_1) ?_
                clear hs a
                intro a hs
                obtain ⟨t126, hv, h⟩ := h
                refine d_read hs #[true, true, true, true, true, true, true, true, true, true, true, true, true, true, true, true, true, false, true, true, true, true, false, false] (i := 21) rfl rfl rfl (by decide) (by kernel_rfl) (by kernel_rfl) (tight_body (P := Try.prog) (fn := Try.f11)) hS (fun w h' => e_load rfl rfl ct_23 (hv w h')) ?_
                clear hs a hv
                intro a hs
                refine d_all [17] (by kernel_rfl) (by decide) ?_
                refine AllS.cons ?_ AllS.nil
                refine d_call hs #[true, true, true, true, true, true, true, true, true, true, true, true, true, true, true, true, true, true, true, true, true, true, false, false] (i := 17) rfl rfl rfl (by decide) rfl (e_call rfl rfl rfl cb_38) h (fun v w'' hk => by obtain ⟨t122, _, hS, _⟩ := hk; exact fun _ _ => hS) ?_
                clear hs a h
                intro v a w hk hs
                obtain ⟨t122, rfl, h⟩ := hk
                obtain ⟨hS, h⟩ := h
                refine d_pure hs #[true, true, true, true, true, true, true, true, true, true, true, true, true, true, true, true, true, true, true, true, true, true, true, false] (i := 22) rfl rfl rfl (by decide) (by kernel_rfl) (tight_body (P := Try.prog) (fn := Try.f11)) (p_ne rfl rfl rfl) ?_
                clear hs a
                intro a hs
                refine d_pure hs #[true, true, true, true, true, true, true, true, true, true, true, true, true, true, true, true, true, true, true, true, true, true, true, true] (i := 23) rfl rfl rfl (by decide) (by kernel_rfl) (tight_body (P := Try.prog) (fn := Try.f11)) (p_pick_f rfl rfl rfl) ?_
                clear hs a
                intro a hs
                replace hs := hs.to (τ := [(5, (.pointer t25)), (6, (.pointer (some t114))), (17, (Sl.val t104)), (30, (Sl.val script1)), (31, (.int .i64 (script1.n : Int))), (32, (.int .i64 t32_1)), (128, (.bool (decide (t122 ≠ t126))))]) ⟨rfl, rfl, rfl, rfl, rfl, rfl, rfl, trivial⟩
                refine d_done (by kernel_rfl) ?_ _
                clear hS
                exact J3 (decide (t122 ≠ t126)) _ _ (hs.to ⟨rfl, rfl, rfl, rfl, rfl, rfl, rfl, trivial⟩) h
          clear hK18
          refine wp_seq_k fun K33 hK33 => ?_
          refine wp_region_lit ?_
          refine t_pure hs rfl rfl (by decide) (p_fieldAddr0 rfl rfl ft_87_0) ?_
          clear hs a
          intro a hs
          obtain ⟨t37, hv, h⟩ := h
          refine t_eff hs rfl rfl (by decide) (e_load rfl rfl ct_3 hv) ?_
          clear hs a hv
          intro a hs
          obtain ⟨t38, he, h⟩ := h
          refine t_pure hs rfl rfl (by decide) (Pure.int he (p_and rfl rfl rfl)) ?_
          clear hs a he
          intro a hs
          refine t_pure hs rfl rfl (by decide) (p_eq rfl rfl rfl) ?_
          clear hs a
          intro a hs
          refine hK33 _ _ ?_
          refine c_cond hs rfl (fun hb => ?_) (fun hb => ?_)
          · replace h := h.1 hb
            clear hb
            refine wp_seq_k fun K34 hK34 => ?_
            refine wp_region_lit ?_
            obtain ⟨t40, w1, ha, hw, h⟩ := h
            refine t_eff hs rfl rfl (by decide) (e_buildSlice (z := #[]) (cs := #[]) rfl sl_22 zt_5 (by decide) rfl rz_5_0 (by rfl) ha hw) ?_
            clear hs a ha hw
            intro a hs
            refine t_pure hs rfl rfl (by decide) (p_fieldAddr rfl rfl ft_87_1) ?_
            clear hs a
            intro a hs
            obtain ⟨t42, hv, h⟩ := h
            refine t_eff hs rfl rfl (by decide) (e_load rfl rfl ct_22 hv) ?_
            clear hs a hv
            intro a hs
            obtain ⟨t43, w1, hd, h⟩ := h
            refine t_eff hs rfl rfl (by decide) (e_append rfl rfl rfl rfl hd) ?_
            clear hs a hd
            intro a hs
            refine t_pure hs rfl rfl (by decide) (p_assign rfl rfl) ?_
            clear hs a
            intro a hs
            refine hK34 _ _ ?_
            refine wp_seq_k fun K35 hK35 => ?_
            refine wp_seq_k fun K36 hK36 => ?_
            obtain ⟨w1, hw1, h⟩ := h
            obtain ⟨S, hS, h⟩ := h
            subst hw1
            refine d_start (S := S) (ds := [6]) #[false, false, false, false, false, false, false, false] mixed rfl rfl ?_
            refine d_pure hs #[true, false, false, false, false, false, false, false] (i := 0) rfl rfl rfl (by decide) (by kernel_rfl) (tight_body (P := Try.prog) (fn := Try.f11)) (p_move rfl rfl) ?_
            clear hs a
            intro a hs
            refine d_pure hs #[true, true, false, false, false, false, false, false] (i := 1) rfl rfl rfl (by decide) (by kernel_rfl) (tight_body (P := Try.prog) (fn := Try.f11)) (p_move rfl rfl) ?_
            clear hs a
            intro a hs
            refine d_pure hs #[true, true, false, true, false, false, false, false] (i := 3) rfl rfl rfl (by decide) (by kernel_rfl) (tight_body (P := Try.prog) (fn := Try.f11)) (p_move rfl rfl) ?_
            clear hs a
            intro a hs
            refine d_pure hs #[true, true, false, true, true, false, false, false] (i := 4) rfl rfl rfl (by decide) (by kernel_rfl) (tight_body (P := Try.prog) (fn := Try.f11)) (p_fieldAddr rfl rfl ft_87_1) ?_
            clear hs a
            intro a hs
            obtain ⟨t49, hv, h⟩ := h
            refine d_read hs #[true, true, false, true, true, true, false, false] (i := 5) rfl rfl rfl (by decide) (by kernel_rfl) (by kernel_rfl) (tight_body (P := Try.prog) (fn := Try.f11)) hS (fun w h' => e_load rfl rfl ct_22 (hv w h')) ?_
            clear hs a hv
            intro a hs
            refine d_all [2] (by kernel_rfl) (by decide) ?_
            refine AllS.cons ?_ AllS.nil
            refine d_call hs #[true, true, true, true, true, true, false, false] (i := 2) rfl rfl rfl (by decide) rfl (e_call rfl rfl rfl cb_30) h (fun v w'' hk => by obtain ⟨t46, _, hS, _⟩ := hk; exact fun _ _ => hS) ?_
            clear hs a h
            intro v a w hk hs
            obtain ⟨t46, rfl, h⟩ := hk
            obtain ⟨hS, h⟩ := h
            refine d_all [6] (by kernel_rfl) (by decide) ?_
            refine AllS.cons ?_ AllS.nil
            refine d_call hs #[true, true, true, true, true, true, true, false] (i := 6) rfl rfl rfl (by decide) rfl (e_call rfl rfl rfl cb_41) h (fun _ _ _ hn => (hn (by decide)).elim) ?_
            clear hs a h
            intro v a w hk hs
            obtain ⟨t50, rfl, h⟩ := hk
            refine d_pure hs #[true, true, true, true, true, true, true, true] (i := 7) rfl rfl rfl (by decide) (by kernel_rfl) (tight_body (P := Try.prog) (fn := Try.f11)) (p_ne rfl rfl rfl) ?_
            clear hs a
            intro a hs
            replace hs := hs.to (τ := [(5, (.pointer t25)), (6, (.pointer t27)), (9, (Sl.val t43)), (30, (Sl.val script1)), (31, (.int .i64 (script1.n : Int))), (32, (.int .i64 t32_1)), (51, (.bool (decide (t46 ≠ t50))))]) ⟨rfl, rfl, rfl, rfl, rfl, rfl, rfl, trivial⟩
            refine d_done (by kernel_rfl) ?_ _
            clear hS
            refine hK36 _ _ ?_
            refine c_cond hs rfl (fun hb => ?_) (fun hb => ?_)
            · replace h := h.1 hb
              clear hb
              refine wp_seq_k fun K37 hK37 => ?_
              refine wp_region_lit ?_
              refine t_pure hs rfl rfl (by decide) (p_assign rfl rfl) ?_
              clear hs a
              intro a hs
              refine hK37 _ _ ?_
              refine wp_ret ?_
              refine f_ret (fn := Try.f11) hs (fun a hs => r_one hs rfl (rfl)) ⟨false, rfl, h⟩
            · replace h := h.2 hb
              clear hb
              refine wp_skip ?_
              refine hK35 _ _ ?_
              refine wp_seq_k fun K38 hK38 => ?_
              refine wp_region_lit ?_
              refine t_pure hs rfl rfl (by decide) (p_move rfl rfl) ?_
              clear hs a
              intro a hs
              refine t_pure hs rfl rfl (by decide) (p_len rfl rfl sl_22) ?_
              clear hs a
              intro a hs
              refine t_pure hs rfl rfl (by decide) (p_move rfl rfl) ?_
              clear hs a
              intro a hs
              refine hK38 _ _ ?_
              refine wp_block ?_
              obtain ⟨I6, μ6, h0, hr⟩ := h
              refine c_loop (α := Int) I6 μ6 (fun x a => Slots a 153 [(5, (.pointer t25)), (6, (.pointer t27)), (9, (Sl.val t43)), (30, (Sl.val script1)), (31, (.int .i64 (script1.n : Int))), (32, (.int .i64 t32_1)), (53, (.int .i64 (t43.n : Int))), (54, (.int .i64 x))]) 0 h0 (hs.to ⟨rfl, rfl, rfl, rfl, rfl, rfl, rfl, rfl, trivial⟩) ?_
              clear h0 hs a
              intro t54_6 a w hI hs
              have h : law19_LinkPlays.b6 Q X1 (fun t54_6n w' => I6 t54_6n w' ∧ μ6 t54_6n w' < μ6 t54_6 w) t25 t27 t43 script1 (script1.n : Int) t32_1 (t43.n : Int) t54_6 w := hr t54_6 w hI
              clear hr hI
              generalize hX6 : (fun t54_6n w' => I6 t54_6n w' ∧ μ6 t54_6n w' < μ6 t54_6 w) = X6 at h
              unfold law19_LinkPlays.b6 at h
              replace hs : Slots a 153 [(5, (.pointer t25)), (6, (.pointer t27)), (9, (Sl.val t43)), (30, (Sl.val script1)), (31, (.int .i64 (script1.n : Int))), (32, (.int .i64 t32_1)), (53, (.int .i64 (t43.n : Int))), (54, (.int .i64 t54_6))] := hs
              refine wp_seq_k fun K39 hK39 => ?_
              refine wp_region_lit ?_
              refine t_pure hs rfl rfl (by decide) (p_lt rfl rfl rfl) ?_
              clear hs a
              intro a hs
              refine hK39 _ _ ?_
              refine wp_seq_k fun K40 hK40 => ?_
              refine c_cond hs rfl (fun hb => ?_) (fun hb => ?_)
              · replace h := h.1 hb
                clear hb
                refine wp_skip ?_
                refine hK40 _ _ ?_
                refine wp_seq_k fun K41 hK41 => ?_
                refine wp_block ?_
                refine wp_seq_k fun K42 hK42 => ?_
                refine wp_region_lit ?_
                refine t_pure hs rfl rfl (by decide) (p_move rfl rfl) ?_
                clear hs a
                intro a hs
                refine t_pure hs rfl rfl (by decide) (p_assign rfl rfl) ?_
                clear hs a
                intro a hs
                refine hK42 _ _ ?_
                refine wp_region_lit ?_
                refine t_pure hs rfl rfl (by decide) (p_move rfl rfl) ?_
                clear hs a
                intro a hs
                refine t_pure hs rfl rfl (by decide) (p_move rfl rfl) ?_
                clear hs a
                intro a hs
                obtain ⟨qt59, t59, ha, h0, h1, he, h⟩ := h
                refine t_pure hs rfl rfl (by decide) (Pure.adr he (p_idx rfl rfl rfl sl_22 ha h0 h1)) ?_
                clear hs a ha h0 h1 he
                intro a hs
                obtain ⟨w1, hw, hc, hf, hv, h⟩ := h
                refine t_skip hs rfl rfl (e_store rfl rfl rfl sz_5 hw hc hf hv) ?_
                clear hs a hw hc hf hv
                intro a hs
                refine hK41 _ _ ?_
                refine wp_region_lit ?_
                obtain ⟨t60, he, h⟩ := h
                refine t_pure hs rfl rfl (by decide) (Pure.int he (p_add rfl rfl rfl)) ?_
                clear hs a he
                intro a hs
                refine t_pure hs rfl rfl (by decide) (p_move rfl rfl) ?_
                clear hs a
                intro a hs
                rw [← hX6] at h
                exact ⟨t60, hs.to ⟨rfl, rfl, rfl, rfl, rfl, rfl, rfl, rfl, trivial⟩, h⟩
              · replace h := h.2 hb
                clear hb
                refine wp_exit ?_
                exact J2 _ _ (hs.to ⟨rfl, rfl, rfl, rfl, rfl, trivial⟩) h
          · replace h := h.2 hb
            clear hb
            refine wp_seq_k fun K43 hK43 => ?_
            refine wp_region_lit ?_
            refine t_pure hs rfl rfl (by decide) (p_fieldAddr rfl rfl ft_87_2) ?_
            clear hs a
            intro a hs
            obtain ⟨t62, hn, hv, h⟩ := h
            refine t_eff hs rfl rfl (by decide) (e_loadN rfl rfl at_36 hn hv) ?_
            clear hs a hn hv
            intro a hs
            obtain ⟨p11, w1, ha, hw, h⟩ := h
            refine t_eff hs rfl rfl (by decide) (e_alloc rfl zt_36 rfl ha hw) ?_
            clear hs a ha hw
            intro a hs
            obtain ⟨w1, hw, hn, hc, hv, h⟩ := h
            refine t_skip hs rfl rfl (e_storeN rfl rfl rfl sz_36 hw hn hc hv) ?_
            clear hs a hw hn hc hv
            intro a hs
            refine hK43 _ _ ?_
            refine wp_seq_k fun K44 hK44 => ?_
            refine wp_region_lit ?_
            obtain ⟨t63, w1, ha, hw, h⟩ := h
            refine t_eff hs rfl rfl (by decide) (e_buildSlice (z := #[]) (cs := #[]) rfl sl_22 zt_5 (by decide) rfl rz_5_0 (by rfl) ha hw) ?_
            clear hs a ha hw
            intro a hs
            refine t_pure hs rfl rfl (by decide) (p_fieldAddr rfl rfl ft_87_2) ?_
            clear hs a
            intro a hs
            refine t_pure hs rfl rfl (by decide) (p_fieldAddr rfl rfl ft_36_4) ?_
            clear hs a
            intro a hs
            obtain ⟨t66, hv, h⟩ := h
            refine t_eff hs rfl rfl (by decide) (e_load rfl rfl ct_22 hv) ?_
            clear hs a hv
            intro a hs
            obtain ⟨t67, w1, hd, h⟩ := h
            refine t_eff hs rfl rfl (by decide) (e_append rfl rfl rfl rfl hd) ?_
            clear hs a hd
            intro a hs
            refine t_pure hs rfl rfl (by decide) (p_fieldAddr rfl rfl ft_36_4) ?_
            clear hs a
            intro a hs
            obtain ⟨w1, hw, hc, hf, hv, h⟩ := h
            refine t_skip hs rfl rfl (e_store rfl rfl rfl sz_22 hw hc hf hv) ?_
            clear hs a hw hc hf hv
            intro a hs
            refine hK44 _ _ ?_
            refine wp_seq_k fun K45 hK45 => ?_
            refine wp_region_lit ?_
            refine t_pure hs rfl rfl (by decide) (p_move rfl rfl) ?_
            clear hs a
            intro a hs
            obtain ⟨t71, hn, hv, h⟩ := h
            refine t_eff hs rfl rfl (by decide) (e_loadN rfl rfl at_36 hn hv) ?_
            clear hs a hn hv
            intro a hs
            refine t_call hs rfl rfl (by decide) (e_call rfl rfl rfl cb_31) h ?_
            clear hs a h
            intro v a w hk hs
            obtain ⟨t72x0, t72x1, rfl, h⟩ := hk
            refine t_pure hs rfl rfl (by decide) (p_move rfl rfl) ?_
            clear hs a
            intro a hs
            refine t_pure hs rfl rfl (by decide) (p_extract rfl rfl rfl) ?_
            clear hs a
            intro a hs
            refine t_pure hs rfl rfl (by decide) (p_extract rfl rfl rfl) ?_
            clear hs a
            intro a hs
            refine t_pure hs rfl rfl (by decide) (p_assign rfl rfl) ?_
            clear hs a
            intro a hs
            refine t_pure hs rfl rfl (by decide) (p_assign rfl rfl) ?_
            clear hs a
            intro a hs
            refine hK45 _ _ ?_
            refine wp_seq_k fun K46 hK46 => ?_
            refine wp_region_lit ?_
            refine t_pure hs rfl rfl (by decide) (p_move rfl rfl) ?_
            clear hs a
            intro a hs
            refine t_pure hs rfl rfl (by decide) (p_fieldAddr rfl rfl ft_87_2) ?_
            clear hs a
            intro a hs
            obtain ⟨t78, hn, hv, h⟩ := h
            refine t_eff hs rfl rfl (by decide) (e_loadN rfl rfl at_36 hn hv) ?_
            clear hs a hn hv
            intro a hs
            refine t_call hs rfl rfl (by decide) (e_call rfl rfl rfl cb_42) h ?_
            clear hs a h
            intro v a w hk hs
            obtain ⟨t79x0, t79x1, rfl, h⟩ := hk
            refine t_pure hs rfl rfl (by decide) (p_move rfl rfl) ?_
            clear hs a
            intro a hs
            refine t_pure hs rfl rfl (by decide) (p_extract rfl rfl rfl) ?_
            clear hs a
            intro a hs
            refine t_pure hs rfl rfl (by decide) (p_extract rfl rfl rfl) ?_
            clear hs a
            intro a hs
            refine t_pure hs rfl rfl (by decide) (p_assign rfl rfl) ?_
            clear hs a
            intro a hs
            replace hs := hs.to (τ := [(5, (.pointer t25)), (6, (.pointer t27)), (11, (.pointer (some p11))), (12, (Sl.val t72x0)), (13, (Sl.val t72x1)), (14, (Sl.val t79x0)), (30, (Sl.val script1)), (31, (.int .i64 (script1.n : Int))), (32, (.int .i64 t32_1)), (81, (Sl.val t79x1))]) ⟨rfl, rfl, rfl, rfl, rfl, rfl, rfl, rfl, rfl, rfl, trivial⟩
            refine t_pure hs rfl rfl (by decide) (p_assign rfl rfl) ?_
            clear hs a
            intro a hs
            refine hK46 _ _ ?_
            refine wp_seq_k fun K47 hK47 => ?_
            refine wp_seq_k fun K48 hK48 => ?_
            have J7 : ∀ (t91_7 : Bool) (a : Act) (w : World), Slots a 153 [(5, (.pointer t25)), (6, (.pointer t27)), (11, (.pointer (some p11))), (30, (Sl.val script1)), (31, (.int .i64 (script1.n : Int))), (32, (.int .i64 t32_1)), (91, (.bool t91_7))] → law19_LinkPlays.s7 Q X1 t25 t27 p11 script1 (script1.n : Int) t32_1 t91_7 w → K48 a w := by
              clear h hs
              intro t91_7 a w hs h
              refine hK48 _ _ ?_
              unfold law19_LinkPlays.s7 at h
              refine c_cond hs rfl (fun hb => ?_) (fun hb => ?_)
              · replace h := h.1 hb
                clear hb
                refine wp_seq_k fun K49 hK49 => ?_
                refine wp_region_lit ?_
                refine t_pure hs rfl rfl (by decide) (p_assign rfl rfl) ?_
                clear hs a
                intro a hs
                refine hK49 _ _ ?_
                refine wp_ret ?_
                refine f_ret (fn := Try.f11) hs (fun a hs => r_one hs rfl (rfl)) ⟨false, rfl, h⟩
              · replace h := h.2 hb
                clear hb
                refine wp_skip ?_
                refine hK47 _ _ ?_
                refine wp_seq_k fun K50 hK50 => ?_
                refine wp_region_lit ?_
                refine t_pure hs rfl rfl (by decide) (p_fieldAddr rfl rfl ft_36_4) ?_
                clear hs a
                intro a hs
                obtain ⟨t93, hv, h⟩ := h
                refine t_eff hs rfl rfl (by decide) (e_load rfl rfl ct_22 hv) ?_
                clear hs a hv
                intro a hs
                refine t_pure hs rfl rfl (by decide) (p_len rfl rfl sl_22) ?_
                clear hs a
                intro a hs
                refine t_pure hs rfl rfl (by decide) (p_move rfl rfl) ?_
                clear hs a
                intro a hs
                refine hK50 _ _ ?_
                refine wp_block ?_
                obtain ⟨I8, μ8, h0, hr⟩ := h
                refine c_loop (α := Int) I8 μ8 (fun x a => Slots a 153 [(5, (.pointer t25)), (6, (.pointer t27)), (11, (.pointer (some p11))), (30, (Sl.val script1)), (31, (.int .i64 (script1.n : Int))), (32, (.int .i64 t32_1)), (94, (.int .i64 (t93.n : Int))), (95, (.int .i64 x))]) 0 h0 (hs.to ⟨rfl, rfl, rfl, rfl, rfl, rfl, rfl, rfl, trivial⟩) ?_
                clear h0 hs a
                intro t95_8 a w hI hs
                have h : law19_LinkPlays.b8 Q X1 (fun t95_8n w' => I8 t95_8n w' ∧ μ8 t95_8n w' < μ8 t95_8 w) t25 t27 p11 script1 (script1.n : Int) t32_1 (t93.n : Int) t95_8 w := hr t95_8 w hI
                clear hr hI
                generalize hX8 : (fun t95_8n w' => I8 t95_8n w' ∧ μ8 t95_8n w' < μ8 t95_8 w) = X8 at h
                unfold law19_LinkPlays.b8 at h
                replace hs : Slots a 153 [(5, (.pointer t25)), (6, (.pointer t27)), (11, (.pointer (some p11))), (30, (Sl.val script1)), (31, (.int .i64 (script1.n : Int))), (32, (.int .i64 t32_1)), (94, (.int .i64 (t93.n : Int))), (95, (.int .i64 t95_8))] := hs
                refine wp_seq_k fun K51 hK51 => ?_
                refine wp_region_lit ?_
                refine t_pure hs rfl rfl (by decide) (p_lt rfl rfl rfl) ?_
                clear hs a
                intro a hs
                refine hK51 _ _ ?_
                refine wp_seq_k fun K52 hK52 => ?_
                refine c_cond hs rfl (fun hb => ?_) (fun hb => ?_)
                · replace h := h.1 hb
                  clear hb
                  refine wp_skip ?_
                  refine hK52 _ _ ?_
                  refine wp_seq_k fun K53 hK53 => ?_
                  refine wp_block ?_
                  refine wp_seq_k fun K54 hK54 => ?_
                  refine wp_region_lit ?_
                  refine t_pure hs rfl rfl (by decide) (p_move rfl rfl) ?_
                  clear hs a
                  intro a hs
                  refine t_pure hs rfl rfl (by decide) (p_assign rfl rfl) ?_
                  clear hs a
                  intro a hs
                  refine hK54 _ _ ?_
                  refine wp_region_lit ?_
                  refine t_pure hs rfl rfl (by decide) (p_fieldAddr rfl rfl ft_36_4) ?_
                  clear hs a
                  intro a hs
                  obtain ⟨t99, hv, h⟩ := h
                  refine t_eff hs rfl rfl (by decide) (e_load rfl rfl ct_22 hv) ?_
                  clear hs a hv
                  intro a hs
                  refine t_pure hs rfl rfl (by decide) (p_move rfl rfl) ?_
                  clear hs a
                  intro a hs
                  obtain ⟨qt101, t101, ha, h0, h1, he, h⟩ := h
                  refine t_pure hs rfl rfl (by decide) (Pure.adr he (p_idx rfl rfl rfl sl_22 ha h0 h1)) ?_
                  clear hs a ha h0 h1 he
                  intro a hs
                  obtain ⟨w1, hw, hc, hf, hv, h⟩ := h
                  refine t_skip hs rfl rfl (e_store rfl rfl rfl sz_5 hw hc hf hv) ?_
                  clear hs a hw hc hf hv
                  intro a hs
                  refine hK53 _ _ ?_
                  refine wp_region_lit ?_
                  obtain ⟨t102, he, h⟩ := h
                  refine t_pure hs rfl rfl (by decide) (Pure.int he (p_add rfl rfl rfl)) ?_
                  clear hs a he
                  intro a hs
                  refine t_pure hs rfl rfl (by decide) (p_move rfl rfl) ?_
                  clear hs a
                  intro a hs
                  rw [← hX8] at h
                  exact ⟨t102, hs.to ⟨rfl, rfl, rfl, rfl, rfl, rfl, rfl, rfl, trivial⟩, h⟩
                · replace h := h.2 hb
                  clear hb
                  refine wp_exit ?_
                  exact J2 _ _ (hs.to ⟨rfl, rfl, rfl, rfl, rfl, trivial⟩) h
            clear hK48
            refine wp_region_lit ?_
            refine t_pure hs rfl rfl (by decide) (p_move rfl rfl) ?_
            clear hs a
            intro a hs
            refine t_pure hs rfl rfl (by decide) (p_move rfl rfl) ?_
            clear hs a
            intro a hs
            refine t_call hs rfl rfl (by decide) (e_call rfl rfl rfl cb_33) h ?_
            clear hs a h
            intro v a w hk hs
            obtain ⟨t84, rfl, h⟩ := hk
            refine t_pure hs rfl rfl (by decide) (p_not rfl rfl) ?_
            clear hs a
            intro a hs
            refine t_pure hs rfl rfl (by decide) (p_move rfl rfl) ?_
            clear hs a
            intro a hs
            refine split_bool (!t84) (fun hb => ?_) (fun hb => ?_)
            · replace h := h.1 hb
              rw [hb] at hs
              clear hb
              refine t_no hs rfl rfl (by decide) ?_
              clear hs a
              intro a hs
              refine t_no hs rfl rfl (by decide) ?_
              clear hs a
              intro a hs
              refine t_no hs rfl rfl (by decide) ?_
              clear hs a
              intro a hs
              replace hs := hs.to (τ := [(5, (.pointer t25)), (6, (.pointer t27)), (11, (.pointer (some p11))), (30, (Sl.val script1)), (31, (.int .i64 (script1.n : Int))), (32, (.int .i64 t32_1)), (86, (.bool true)), (89, undef)]) ⟨rfl, rfl, rfl, rfl, rfl, rfl, rfl, rfl, trivial⟩
              refine t_no hs rfl rfl (by decide) ?_
              clear hs a
              intro a hs
              refine t_pure hs rfl rfl (by decide) (p_pick_t rfl rfl rfl) ?_
              clear hs a
              intro a hs
              exact J7 true _ _ (hs.to ⟨rfl, rfl, rfl, rfl, rfl, rfl, rfl, trivial⟩) h
            · replace h := h.2 hb
              rw [hb] at hs
              clear hb
              refine t_yes hs rfl ?_
              refine t_pure hs rfl rfl (by decide) (p_move rfl rfl) ?_
              clear hs a
              intro a hs
              refine t_yes hs rfl ?_
              refine t_pure hs rfl rfl (by decide) (p_move rfl rfl) ?_
              clear hs a
              intro a hs
              refine t_yes hs rfl ?_
              refine t_call hs rfl rfl (by decide) (e_call rfl rfl rfl cb_43) h ?_
              clear hs a h
              intro v a w hk hs
              obtain ⟨t89, rfl, h⟩ := hk
              replace hs := hs.to (τ := [(5, (.pointer t25)), (6, (.pointer t27)), (11, (.pointer (some p11))), (30, (Sl.val script1)), (31, (.int .i64 (script1.n : Int))), (32, (.int .i64 t32_1)), (86, (.bool false)), (89, (.bool t89))]) ⟨rfl, rfl, rfl, rfl, rfl, rfl, rfl, rfl, trivial⟩
              refine t_yes hs rfl ?_
              refine t_pure hs rfl rfl (by decide) (p_not rfl rfl) ?_
              clear hs a
              intro a hs
              refine t_pure hs rfl rfl (by decide) (p_pick_f rfl rfl rfl) ?_
              clear hs a
              intro a hs
              exact J7 (!t89) _ _ (hs.to ⟨rfl, rfl, rfl, rfl, rfl, rfl, rfl, trivial⟩) h
        · replace h := h.2 hb
          clear hb
          refine wp_exit ?_
          refine hK12 _ _ ?_
          refine wp_seq_k fun K55 hK55 => ?_
          refine wp_region_lit ?_
          refine t_pure hs rfl rfl (by decide) (p_assign rfl rfl) ?_
          clear hs a
          intro a hs
          refine hK55 _ _ ?_
          refine wp_ret ?_
          refine f_ret (fn := Try.f11) hs (fun a hs => r_one hs rfl (rfl)) ⟨true, rfl, h⟩
def law19_speaks.s1 (Q : Bool → K)  (a1_1 : (Option Addr)) (b2_1 : (Option Addr)) (t20_1 : Bool) : K :=
  Ite t20_1
    (Q false)
    (link_Link_Packets.call a1_1 fun t22 =>
    Bld #[(.int .u64 0), (.int .u64 0), (.int .u64 0), (.int .u64 0), (Sl.val ⟨none, 0, 0⟩)] (fun i => some (i * 5, 5)) [(0, (.agg #[(.int .u64 1), (.int .u64 0), (.int .u64 0), (.int .u64 0), (Sl.val ⟨none, 0, 0⟩)]))] fun ct25 =>
    New 36 ct25 fun t25 =>
    ref19_SamePackets.call t22 (Sl.mk (some t25) 1 1) fun t26 =>
    Ite (!t26)
      (Q false)
      (Idx t22 0 5 fun t31 =>
      LdN t31 5 fun t32 =>
      link_Link_Receive.call b2_1 t32 fun t33x0 t33x1 =>
      Bld #[(.int .u64 0), (.int .u64 0), (.int .u64 0), (.int .u64 0), (Sl.val ⟨none, 0, 0⟩)] (fun i => some (i * 5, 5)) [(0, (.agg #[(.int .u64 2), (.int .u64 1), (.int .u64 0), (.int .u64 0), (Sl.val ⟨none, 0, 0⟩)]))] fun ct38 =>
      New 36 ct38 fun t38 =>
      ref19_SamePackets.call t33x1 (Sl.mk (some t38) 1 1) fun t39 =>
      Ite (!t39)
        (Q false)
        (Idx t33x1 0 5 fun t43 =>
        LdN t43 5 fun t44 =>
        link_Link_Receive.call a1_1 t44 fun t45x0 t45x1 =>
        link_Link_Packets.call a1_1 fun t47 =>
        New 5 #[(.int .u8 120)] fun t48 =>
        Do Try.prog (convert 22 22 (Sl.val (Sl.mk (some t48) 1 1))) Sl.val fun t49 =>
        Bld #[(.int .u64 0), (.int .u64 0), (.int .u64 0), (.int .u64 0), (Sl.val ⟨none, 0, 0⟩)] (fun i => some (i * 5, 5)) [(0, (.agg #[(.int .u64 1), (.int .u64 2), (.int .u64 1), (.int .u64 0), (Sl.val t49)]))] fun ct51 =>
        New 36 ct51 fun t51 =>
        ref19_SamePackets.call t47 (Sl.mk (some t51) 1 1) fun t52 =>
        Q t52)))
def law19_speaks  (Q : Bool → K) : K :=
  link_New.call 1 fun t6 =>
  link_New.call 2 fun t7 =>
  Ite ((t6).isNone)
    (law19_speaks.s1 Q t6 t7 true)
    (Ite ((t7).isNone)
      (law19_speaks.s1 Q t6 t7 true)
      (New 5 #[(.int .u8 120)] fun t16 =>
      Do Try.prog (convert 22 22 (Sl.val (Sl.mk (some t16) 1 1))) Sl.val fun t17 =>
      link_Link_Send.call t6 t17 fun t18 =>
      law19_speaks.s1 Q t6 t7 (decide (t18 ≠ 0))))
theorem law19_speaks_ok  (Q : Bool → K) (w : World) (h : law19_speaks  Q w) : law19_speaks.call  Q w := by
  unfold law19_speaks.call CallF
  refine f_start (args := []) Try.func28 rfl (Nat.le_of_ble_eq_true rfl) ?_
  intro a hs
  unfold law19_speaks at h
  refine wp_seq_k fun K1 hK1 => ?_
  refine wp_region_lit ?_
  refine t_pure hs rfl rfl (by decide) (p_assign rfl rfl) ?_
  clear hs a
  intro a hs
  refine hK1 _ _ ?_
  refine wp_seq_k fun K2 hK2 => ?_
  refine wp_region_lit ?_
  refine t_call hs rfl rfl (by decide) (e_call rfl rfl rfl cb_29) h ?_
  clear hs a h
  intro v a w hk hs
  obtain ⟨t6, rfl, h⟩ := hk
  refine t_call hs rfl rfl (by decide) (e_call rfl rfl rfl cb_29) h ?_
  clear hs a h
  intro v a w hk hs
  obtain ⟨t7, rfl, h⟩ := hk
  refine t_pure hs rfl rfl (by decide) (p_assign rfl rfl) ?_
  clear hs a
  intro a hs
  refine t_pure hs rfl rfl (by decide) (p_assign rfl rfl) ?_
  clear hs a
  intro a hs
  refine hK2 _ _ ?_
  refine wp_seq_k fun K3 hK3 => ?_
  refine wp_seq_k fun K4 hK4 => ?_
  have J1 : ∀ (t20_1 : Bool) (a : Act) (w : World), Slots a 53 [(1, (.pointer t6)), (2, (.pointer t7)), (20, (.bool t20_1))] → law19_speaks.s1 Q t6 t7 t20_1 w → K4 a w := by
    clear h hs
    intro t20_1 a w hs h
    refine hK4 _ _ ?_
    unfold law19_speaks.s1 at h
    refine c_cond hs rfl (fun hb => ?_) (fun hb => ?_)
    · replace h := h.1 hb
      clear hb
      refine wp_seq_k fun K5 hK5 => ?_
      refine wp_region_lit ?_
      refine t_pure hs rfl rfl (by decide) (p_assign rfl rfl) ?_
      clear hs a
      intro a hs
      refine hK5 _ _ ?_
      refine wp_ret ?_
      refine f_ret (fn := Try.f28) hs (fun a hs => r_one hs rfl (rfl)) ⟨false, rfl, h⟩
    · replace h := h.2 hb
      clear hb
      refine wp_skip ?_
      refine hK3 _ _ ?_
      refine wp_seq_k fun K6 hK6 => ?_
      refine wp_region_lit ?_
      refine t_pure hs rfl rfl (by decide) (p_move rfl rfl) ?_
      clear hs a
      intro a hs
      refine t_call hs rfl rfl (by decide) (e_call rfl rfl rfl cb_32) h ?_
      clear hs a h
      intro v a w hk hs
      obtain ⟨t22, rfl, h⟩ := hk
      refine t_pure hs rfl rfl (by decide) (p_assign rfl rfl) ?_
      clear hs a
      intro a hs
      refine hK6 _ _ ?_
      refine wp_seq_k fun K7 hK7 => ?_
      refine wp_seq_k fun K8 hK8 => ?_
      refine wp_region_lit ?_
      refine t_pure hs rfl rfl (by decide) (p_move rfl rfl) ?_
      clear hs a
      intro a hs
      refine t_pure hs rfl rfl (by decide) (e_build (cs := #[(.int .u64 1), (.int .u64 0), (.int .u64 0), (.int .u64 0), (Sl.val ⟨none, 0, 0⟩)]) rfl zt_36 pl_36 rfl rfl) ?_
      clear hs a
      intro a hs
      obtain ⟨ct25, hb, t25, w1, ha, hw, h⟩ := h
      refine t_eff hs rfl rfl (by decide) (e_buildSlice (z := #[(.int .u64 0), (.int .u64 0), (.int .u64 0), (.int .u64 0), (Sl.val ⟨none, 0, 0⟩)]) rfl sl_60 zt_36 (by decide) rfl rz_36_1 hb ha hw) ?_
      clear hs a hb ha hw
      intro a hs
      refine t_call hs rfl rfl (by decide) (e_call rfl rfl rfl cb_43) h ?_
      clear hs a h
      intro v a w hk hs
      obtain ⟨t26, rfl, h⟩ := hk
      refine t_pure hs rfl rfl (by decide) (p_not rfl rfl) ?_
      clear hs a
      intro a hs
      refine hK8 _ _ ?_
      refine c_cond hs rfl (fun hb => ?_) (fun hb => ?_)
      · replace h := h.1 hb
        clear hb
        refine wp_seq_k fun K9 hK9 => ?_
        refine wp_region_lit ?_
        refine t_pure hs rfl rfl (by decide) (p_assign rfl rfl) ?_
        clear hs a
        intro a hs
        refine hK9 _ _ ?_
        refine wp_ret ?_
        refine f_ret (fn := Try.f28) hs (fun a hs => r_one hs rfl (rfl)) ⟨false, rfl, h⟩
      · replace h := h.2 hb
        clear hb
        refine wp_skip ?_
        refine hK7 _ _ ?_
        refine wp_seq_k fun K10 hK10 => ?_
        refine wp_region_lit ?_
        refine t_pure hs rfl rfl (by decide) (p_move rfl rfl) ?_
        clear hs a
        intro a hs
        refine t_pure hs rfl rfl (by decide) (p_move rfl rfl) ?_
        clear hs a
        intro a hs
        obtain ⟨qt31, t31, ha, h0, h1, he, h⟩ := h
        refine t_pure hs rfl rfl (by decide) (Pure.adr he (p_idx rfl rfl rfl sl_60 ha h0 h1)) ?_
        clear hs a ha h0 h1 he
        intro a hs
        obtain ⟨t32, hn, hv, h⟩ := h
        refine t_eff hs rfl rfl (by decide) (e_loadN rfl rfl at_36 hn hv) ?_
        clear hs a hn hv
        intro a hs
        refine t_call hs rfl rfl (by decide) (e_call rfl rfl rfl cb_31) h ?_
        clear hs a h
        intro v a w hk hs
        obtain ⟨t33x0, t33x1, rfl, h⟩ := hk
        refine t_pure hs rfl rfl (by decide) (p_move rfl rfl) ?_
        clear hs a
        intro a hs
        refine t_pure hs rfl rfl (by decide) (p_extract rfl rfl rfl) ?_
        clear hs a
        intro a hs
        refine t_pure hs rfl rfl (by decide) (p_extract rfl rfl rfl) ?_
        clear hs a
        intro a hs
        replace hs := hs.to (τ := [(1, (.pointer t6)), (34, (Sl.val t33x0)), (35, (Sl.val t33x1))]) ⟨rfl, rfl, rfl, trivial⟩
        refine t_pure hs rfl rfl (by decide) (p_assign rfl rfl) ?_
        clear hs a
        intro a hs
        refine t_pure hs rfl rfl (by decide) (p_assign rfl rfl) ?_
        clear hs a
        intro a hs
        refine hK10 _ _ ?_
        refine wp_seq_k fun K11 hK11 => ?_
        refine wp_seq_k fun K12 hK12 => ?_
        refine wp_region_lit ?_
        refine t_pure hs rfl rfl (by decide) (p_move rfl rfl) ?_
        clear hs a
        intro a hs
        refine t_pure hs rfl rfl (by decide) (e_build (cs := #[(.int .u64 2), (.int .u64 1), (.int .u64 0), (.int .u64 0), (Sl.val ⟨none, 0, 0⟩)]) rfl zt_36 pl_36 rfl rfl) ?_
        clear hs a
        intro a hs
        obtain ⟨ct38, hb, t38, w1, ha, hw, h⟩ := h
        refine t_eff hs rfl rfl (by decide) (e_buildSlice (z := #[(.int .u64 0), (.int .u64 0), (.int .u64 0), (.int .u64 0), (Sl.val ⟨none, 0, 0⟩)]) rfl sl_60 zt_36 (by decide) rfl rz_36_1 hb ha hw) ?_
        clear hs a hb ha hw
        intro a hs
        refine t_call hs rfl rfl (by decide) (e_call rfl rfl rfl cb_43) h ?_
        clear hs a h
        intro v a w hk hs
        obtain ⟨t39, rfl, h⟩ := hk
        refine t_pure hs rfl rfl (by decide) (p_not rfl rfl) ?_
        clear hs a
        intro a hs
        refine hK12 _ _ ?_
        refine c_cond hs rfl (fun hb => ?_) (fun hb => ?_)
        · replace h := h.1 hb
          clear hb
          refine wp_seq_k fun K13 hK13 => ?_
          refine wp_region_lit ?_
          refine t_pure hs rfl rfl (by decide) (p_assign rfl rfl) ?_
          clear hs a
          intro a hs
          refine hK13 _ _ ?_
          refine wp_ret ?_
          refine f_ret (fn := Try.f28) hs (fun a hs => r_one hs rfl (rfl)) ⟨false, rfl, h⟩
        · replace h := h.2 hb
          clear hb
          refine wp_skip ?_
          refine hK11 _ _ ?_
          refine wp_seq_k fun K14 hK14 => ?_
          refine wp_region_lit ?_
          refine t_pure hs rfl rfl (by decide) (p_move rfl rfl) ?_
          clear hs a
          intro a hs
          refine t_pure hs rfl rfl (by decide) (p_move rfl rfl) ?_
          clear hs a
          intro a hs
          obtain ⟨qt43, t43, ha, h0, h1, he, h⟩ := h
          refine t_pure hs rfl rfl (by decide) (Pure.adr he (p_idx rfl rfl rfl sl_60 ha h0 h1)) ?_
          clear hs a ha h0 h1 he
          intro a hs
          obtain ⟨t44, hn, hv, h⟩ := h
          refine t_eff hs rfl rfl (by decide) (e_loadN rfl rfl at_36 hn hv) ?_
          clear hs a hn hv
          intro a hs
          refine t_call hs rfl rfl (by decide) (e_call rfl rfl rfl cb_31) h ?_
          clear hs a h
          intro v a w hk hs
          obtain ⟨t45x0, t45x1, rfl, h⟩ := hk
          refine hK14 _ _ ?_
          refine wp_seq_k fun K15 hK15 => ?_
          refine wp_region_lit ?_
          refine t_pure hs rfl rfl (by decide) (p_move rfl rfl) ?_
          clear hs a
          intro a hs
          refine t_call hs rfl rfl (by decide) (e_call rfl rfl rfl cb_32) h ?_
          clear hs a h
          intro v a w hk hs
          obtain ⟨t47, rfl, h⟩ := hk
          obtain ⟨t48, w1, ha, hw, h⟩ := h
          refine t_eff hs rfl rfl (by decide) (e_buildSlice (z := #[(.int .u8 0)]) (cs := #[(.int .u8 120)]) rfl sl_22 zt_5 (by decide) rfl rz_5_1 (by rfl) ha hw) ?_
          clear hs a ha hw
          intro a hs
          obtain ⟨t49, w1, hd, h⟩ := h
          refine t_eff hs rfl rfl (by decide) (e_convert rfl rfl hd) ?_
          clear hs a hd
          intro a hs
          refine t_pure hs rfl rfl (by decide) (e_build (cs := #[(.int .u64 1), (.int .u64 2), (.int .u64 1), (.int .u64 0), (Sl.val t49)]) rfl zt_36 pl_36 rfl rfl) ?_
          clear hs a
          intro a hs
          obtain ⟨ct51, hb, t51, w1, ha, hw, h⟩ := h
          refine t_eff hs rfl rfl (by decide) (e_buildSlice (z := #[(.int .u64 0), (.int .u64 0), (.int .u64 0), (.int .u64 0), (Sl.val ⟨none, 0, 0⟩)]) rfl sl_60 zt_36 (by decide) rfl rz_36_1 hb ha hw) ?_
          clear hs a hb ha hw
          intro a hs
          refine t_call hs rfl rfl (by decide) (e_call rfl rfl rfl cb_43) h ?_
          clear hs a h
          intro v a w hk hs
          obtain ⟨t52, rfl, h⟩ := hk
          refine t_pure hs rfl rfl (by decide) (p_assign rfl rfl) ?_
          clear hs a
          intro a hs
          refine hK15 _ _ ?_
          refine wp_ret ?_
          refine f_ret (fn := Try.f28) hs (fun a hs => r_one hs rfl (rfl)) ⟨t52, rfl, h⟩
  clear hK4
  refine wp_region_lit ?_
  refine t_pure hs rfl rfl (by decide) (p_move rfl rfl) ?_
  clear hs a
  intro a hs
  refine t_pure hs rfl rfl (by decide) (p_eq_nil rfl rfl rfl Try.underlying57) ?_
  clear hs a
  intro a hs
  refine t_pure hs rfl rfl (by decide) (p_move rfl rfl) ?_
  clear hs a
  intro a hs
  refine split_bool ((t6).isNone) (fun hb => ?_) (fun hb => ?_)
  · replace h := h.1 hb
    rw [hb] at hs
    clear hb
    refine t_no hs rfl rfl (by decide) ?_
    clear hs a
    intro a hs
    refine t_no hs rfl rfl (by decide) ?_
    clear hs a
    intro a hs
    refine t_pure hs rfl rfl (by decide) (p_pick_t rfl rfl rfl) ?_
    clear hs a
    intro a hs
    refine t_pure hs rfl rfl (by decide) (p_move rfl rfl) ?_
    clear hs a
    intro a hs
    refine t_no hs rfl rfl (by decide) ?_
    clear hs a
    intro a hs
    replace hs := hs.to (τ := [(1, (.pointer t6)), (2, (.pointer t7)), (14, (.bool true)), (15, undef)]) ⟨rfl, rfl, rfl, rfl, trivial⟩
    refine t_no hs rfl rfl (by decide) ?_
    clear hs a
    intro a hs
    refine t_no hs rfl rfl (by decide) ?_
    clear hs a
    intro a hs
    refine t_no hs rfl rfl (by decide) ?_
    clear hs a
    intro a hs
    refine t_no hs rfl rfl (by decide) ?_
    clear hs a
    intro a hs
    refine t_pure hs rfl rfl (by decide) (p_pick_t rfl rfl rfl) ?_
    clear hs a
    intro a hs
    exact J1 true _ _ (hs.to ⟨rfl, rfl, rfl, trivial⟩) h
  · replace h := h.2 hb
    rw [hb] at hs
    clear hb
    refine t_yes hs rfl ?_
    refine t_pure hs rfl rfl (by decide) (p_move rfl rfl) ?_
    clear hs a
    intro a hs
    refine t_yes hs rfl ?_
    refine t_pure hs rfl rfl (by decide) (p_eq_nil rfl rfl rfl Try.underlying57) ?_
    clear hs a
    intro a hs
    refine t_pure hs rfl rfl (by decide) (p_pick_f rfl rfl rfl) ?_
    clear hs a
    intro a hs
    refine t_pure hs rfl rfl (by decide) (p_move rfl rfl) ?_
    clear hs a
    intro a hs
    refine split_bool ((t7).isNone) (fun hb => ?_) (fun hb => ?_)
    · replace h := h.1 hb
      rw [hb] at hs
      clear hb
      refine t_no hs rfl rfl (by decide) ?_
      clear hs a
      intro a hs
      replace hs := hs.to (τ := [(1, (.pointer t6)), (2, (.pointer t7)), (14, (.bool true)), (15, undef)]) ⟨rfl, rfl, rfl, rfl, trivial⟩
      refine t_no hs rfl rfl (by decide) ?_
      clear hs a
      intro a hs
      refine t_no hs rfl rfl (by decide) ?_
      clear hs a
      intro a hs
      refine t_no hs rfl rfl (by decide) ?_
      clear hs a
      intro a hs
      refine t_no hs rfl rfl (by decide) ?_
      clear hs a
      intro a hs
      refine t_pure hs rfl rfl (by decide) (p_pick_t rfl rfl rfl) ?_
      clear hs a
      intro a hs
      exact J1 true _ _ (hs.to ⟨rfl, rfl, rfl, trivial⟩) h
    · replace h := h.2 hb
      rw [hb] at hs
      clear hb
      refine t_yes hs rfl ?_
      refine t_pure hs rfl rfl (by decide) (p_move rfl rfl) ?_
      clear hs a
      intro a hs
      replace hs := hs.to (τ := [(1, (.pointer t6)), (2, (.pointer t7)), (14, (.bool false)), (15, (.pointer t6))]) ⟨rfl, rfl, rfl, rfl, trivial⟩
      refine t_yes hs rfl ?_
      obtain ⟨t16, w1, ha, hw, h⟩ := h
      refine t_eff hs rfl rfl (by decide) (e_buildSlice (z := #[(.int .u8 0)]) (cs := #[(.int .u8 120)]) rfl sl_22 zt_5 (by decide) rfl rz_5_1 (by rfl) ha hw) ?_
      clear hs a ha hw
      intro a hs
      refine t_yes hs rfl ?_
      obtain ⟨t17, w1, hd, h⟩ := h
      refine t_eff hs rfl rfl (by decide) (e_convert rfl rfl hd) ?_
      clear hs a hd
      intro a hs
      refine t_yes hs rfl ?_
      refine t_call hs rfl rfl (by decide) (e_call rfl rfl rfl cb_30) h ?_
      clear hs a h
      intro v a w hk hs
      obtain ⟨t18, rfl, h⟩ := hk
      refine t_yes hs rfl ?_
      refine t_pure hs rfl rfl (by decide) (p_ne rfl rfl rfl) ?_
      clear hs a
      intro a hs
      refine t_pure hs rfl rfl (by decide) (p_pick_f rfl rfl rfl) ?_
      clear hs a
      intro a hs
      exact J1 (decide (t18 ≠ 0)) _ _ (hs.to ⟨rfl, rfl, rfl, trivial⟩) h
end Go.Proofs.Ytilejcnbacmdnaa
