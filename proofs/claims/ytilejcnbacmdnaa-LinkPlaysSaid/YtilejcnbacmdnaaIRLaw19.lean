/- Plain forms of functions, and that their code comes to them (package law19). -/
import Derived.Test.YtilejcnbacmdnaaCalls
namespace Go.Proofs.Ytilejcnbacmdnaa
open Go Go.Sep
set_option linter.unusedVariables false
set_option linter.unusedSimpArgs false
set_option maxRecDepth 100000
set_option maxHeartbeats 4000000
def law19_LinkAgain.s4 (Q : Bool → K) (X3 : Sl → Int → K) (picks1_4 : Sl) (a5_4 : (Option Addr)) (b6_4 : (Option Addr)) (sent7_4 : Sl) (t39_4 : Sl) (t40_4 : Int) (t41_4 : Int) : K :=
  Ar (IntKind.wrap .i64 (t41_4 + 1)) fun t56 =>
  X3 sent7_4 t56
def law19_LinkAgain.s6 (Q : Bool → K) (X3 : Sl → Int → K) (X5 : Sl → Int → K) (picks1_6 : Sl) (b6_6 : (Option Addr)) (sent7_6 : Sl) (packets10_6 : Sl) (got11_6 : Sl) (n12_6 : Int) : K :=
  Ar (IntKind.wrap .i64 (n12_6 + 1)) fun t79 =>
  X5 got11_6 t79
def law19_LinkAgain.s8 (Q : Bool → K) (X3 : Sl → Int → K) (X5 : Sl → Int → K) (picks1_8 : Sl) (b6_8 : (Option Addr)) (sent7_8 : Sl) (packets10_8 : Sl) (got11_8 : Sl) (n12_8 : Int) (k13_8 : Int) (t97_8 : Bool) : K :=
  Ite t97_8
    (law19_LinkAgain.s6 Q X3 X5 picks1_8 b6_8 sent7_8 packets10_8 got11_8 n12_8)
    (Idx packets10_8 k13_8 5 fun t102 =>
    LdN t102 5 fun t103 =>
    link_Link_Receive.call b6_8 t103 fun t104x0 t104x1 =>
    Do Try.prog (Builtin.append_ #[56, 56] 56 #[(Sl.val got11_8), (Sl.val t104x0)]) Sl.val fun t109 =>
    law19_LinkAgain.s6 Q X3 X5 picks1_8 b6_8 sent7_8 packets10_8 t109 n12_8)
def law19_LinkAgain.s7 (Q : Bool → K) (X3 : Sl → Int → K) (X5 : Sl → Int → K) (picks1_7 : Sl) (b6_7 : (Option Addr)) (sent7_7 : Sl) (packets10_7 : Sl) (got11_7 : Sl) (n12_7 : Int) (k13_7 : Int) : K :=
  Ite (decide (k13_7 < 0))
    (law19_LinkAgain.s8 Q X3 X5 picks1_7 b6_7 sent7_7 packets10_7 got11_7 n12_7 k13_7 true)
    (law19_LinkAgain.s8 Q X3 X5 picks1_7 b6_7 sent7_7 packets10_7 got11_7 n12_7 k13_7 (decide ((packets10_7.n : Int) ≤ k13_7)))
def law19_LinkAgain.b9 (Q : Bool → K) (X3 : Sl → Int → K) (X5 : Sl → Int → K) (X9 : Int → K) (b6_9 : (Option Addr)) (sent7_9 : Sl) (got11_9 : Sl) (t110_9 : Sl) (t111_9 : Int) (t112_9 : Int) : K :=
  Ite (decide (t112_9 < t111_9))
    (Idx t110_9 t112_9 5 fun t114 =>
    LdN t114 5 fun t115 =>
    New 36 #[(.int .u64 0), (.int .u64 0), (.int .u64 0), (.int .u64 0), (Sl.val ⟨none, 0, 0⟩)] fun p17 =>
    StN p17 5 t115 <|
    LdN p17 5 fun t118 =>
    link_Link_Receive.call b6_9 t118 fun t119x0 t119x1 =>
    Ite (decide ((t119x0.n : Int) ≠ 0))
      (Q false)
      (Ar (IntKind.wrap .i64 (t112_9 + 1)) fun t125 =>
      X9 t125))
    (ref19_SameData.call got11_9 sent7_9 fun t128 =>
    Q t128)
def law19_LinkAgain.b5 (Q : Bool → K) (X3 : Sl → Int → K) (X5 : Sl → Int → K) (picks1_5 : Sl) (b6_5 : (Option Addr)) (sent7_5 : Sl) (packets10_5 : Sl) (got11_5 : Sl) (n12_5 : Int) : K :=
  Ar (IntKind.wrap .i64 ((picks1_5.n : Int) + (packets10_5.n : Int))) fun t76 =>
  Ite (decide (n12_5 < t76))
    (Ar (IntKind.wrap .i64 (n12_5 - (picks1_5.n : Int))) fun t83 =>
    Ite (decide (t83 < 0))
      (Idx picks1_5 n12_5 1 fun t88 =>
      Ld t88 (Value.int .i64) fun t89 =>
      law19_LinkAgain.s7 Q X3 X5 picks1_5 b6_5 sent7_5 packets10_5 got11_5 n12_5 t89)
      (law19_LinkAgain.s7 Q X3 X5 picks1_5 b6_5 sent7_5 packets10_5 got11_5 n12_5 t83))
    (LoopK (α := Int) (fun X x => law19_LinkAgain.b9 Q X3 X5 X b6_5 sent7_5 got11_5 packets10_5 (packets10_5.n : Int) x) 0)
def law19_LinkAgain.b3 (Q : Bool → K)  (X3 : Sl → Int → K) (picks1_3 : Sl) (a5_3 : (Option Addr)) (b6_3 : (Option Addr)) (t39_3 : Sl) (t40_3 : Int) (sent7_3 : Sl) (t41_3 : Int) : K :=
  Ite (decide (t41_3 < t40_3))
    (Idx t39_3 t41_3 1 fun t43 =>
    Ld t43 Sl.val fun t44 =>
    Ite (decide ((500 : Int) < (t44.n : Int)))
      (Q true)
      (link_Link_Send.call a5_3 t44 fun t50 =>
      Ite (decide (t50 = 0))
        (New 22 #[(Sl.val t44)] fun t54 =>
        Do Try.prog (Builtin.append_ #[56, 56] 56 #[(Sl.val sent7_3), (Sl.val (Sl.mk (some t54) 1 1))]) Sl.val fun t55 =>
        law19_LinkAgain.s4 Q X3 picks1_3 a5_3 b6_3 t55 t39_3 t40_3 t41_3)
        (law19_LinkAgain.s4 Q X3 picks1_3 a5_3 b6_3 sent7_3 t39_3 t40_3 t41_3)))
    (link_Link_Receive.call a5_3 #[(.int .u64 9), (.int .u64 0), (.int .u64 0), (.int .u64 0), (Sl.val ⟨none, 0, 0⟩)] fun t59x0 t59x1 =>
    link_Link_Receive.call b6_3 #[(.int .u64 2), (.int .u64 0), (.int .u64 0), (.int .u64 0), (Sl.val ⟨none, 0, 0⟩)] fun t62x0 t62x1 =>
    link_Link_Packets.call a5_3 fun t64 =>
    New 22 #[] fun t65 =>
    Ite (decide ((t64.n : Int) ≠ (sent7_3.n : Int)))
      (Q false)
      (LoopK (α := Sl × Int) (fun X x => law19_LinkAgain.b5 Q X3 (fun got11_5 n12_5 => X (got11_5, n12_5)) picks1_3 b6_3 sent7_3 t64 x.1 x.2) ((Sl.mk (some t65) 0 0), 0)))
def law19_LinkAgain.s2 (Q : Bool → K)  (list0_2 : Sl) (picks1_2 : Sl) (a5_2 : (Option Addr)) (b6_2 : (Option Addr)) (t37_2 : Bool) : K :=
  Ite t37_2
    (Q false)
    (New 22 #[] fun t38 =>
    LoopK (α := Sl × Int) (fun X x => law19_LinkAgain.b3 Q (fun sent7_3 t41_3 => X (sent7_3, t41_3)) picks1_2 a5_2 b6_2 list0_2 (list0_2.n : Int) x.1 x.2) ((Sl.mk (some t38) 0 0), 0))
def law19_LinkAgain.s1 (Q : Bool → K)  (list0_1 : Sl) (picks1_1 : Sl) (t29_1 : Bool) : K :=
  Ite t29_1
    (Q true)
    (link_New.call 2 fun t30 =>
    link_New.call 9 fun t31 =>
    Ite ((t30).isNone)
      (law19_LinkAgain.s2 Q list0_1 picks1_1 t30 t31 true)
      (law19_LinkAgain.s2 Q list0_1 picks1_1 t30 t31 ((t31).isNone)))
def law19_LinkAgain (list0 : Sl) (picks1 : Sl) (Q : Bool → K) : K :=
  law19_speaks.call  fun t20 =>
  Ite (!t20)
    (Q false)
    (Ite (decide ((30 : Int) < (list0.n : Int)))
      (law19_LinkAgain.s1 Q list0 picks1 true)
      (law19_LinkAgain.s1 Q list0 picks1 (decide ((100 : Int) < (picks1.n : Int)))))
theorem law19_LinkAgain_ok (list0 : Sl) (picks1 : Sl) (Q : Bool → K) (w : World) (h : law19_LinkAgain list0 picks1 Q w) : law19_LinkAgain.call list0 picks1 Q w := by
  unfold law19_LinkAgain.call CallF
  refine f_start (args := [(Sl.val list0), (Sl.val picks1)]) Try.func7 rfl (Nat.le_of_ble_eq_true rfl) ?_
  intro a hs
  unfold law19_LinkAgain at h
  refine wp_seq_k fun K1 hK1 => ?_
  refine wp_region_lit ?_
  refine t_pure hs rfl rfl (by decide) (p_assign rfl rfl) ?_
  clear hs a
  intro a hs
  refine hK1 _ _ ?_
  refine wp_seq_k fun K2 hK2 => ?_
  refine wp_seq_k fun K3 hK3 => ?_
  refine wp_region_lit ?_
  refine t_call hs rfl rfl (by decide) (e_call rfl rfl rfl cb_28) h ?_
  clear hs a h
  intro v a w hk hs
  obtain ⟨t20, rfl, h⟩ := hk
  refine t_pure hs rfl rfl (by decide) (p_not rfl rfl) ?_
  clear hs a
  intro a hs
  refine hK3 _ _ ?_
  refine c_cond hs rfl (fun hb => ?_) (fun hb => ?_)
  · replace h := h.1 hb
    clear hb
    refine wp_seq_k fun K4 hK4 => ?_
    refine wp_region_lit ?_
    refine t_pure hs rfl rfl (by decide) (p_assign rfl rfl) ?_
    clear hs a
    intro a hs
    refine hK4 _ _ ?_
    refine wp_ret ?_
    refine f_ret (fn := Try.f7) hs (fun a hs => r_one hs rfl (rfl)) ⟨false, rfl, h⟩
  · replace h := h.2 hb
    clear hb
    refine wp_skip ?_
    refine hK2 _ _ ?_
    refine wp_seq_k fun K5 hK5 => ?_
    refine wp_seq_k fun K6 hK6 => ?_
    have J1 : ∀ (t29_1 : Bool) (a : Act) (w : World), Slots a 129 [(0, (Sl.val list0)), (1, (Sl.val picks1)), (29, (.bool t29_1))] → law19_LinkAgain.s1 Q list0 picks1 t29_1 w → K6 a w := by
      clear h hs
      intro t29_1 a w hs h
      refine hK6 _ _ ?_
      unfold law19_LinkAgain.s1 at h
      refine c_cond hs rfl (fun hb => ?_) (fun hb => ?_)
      · replace h := h.1 hb
        clear hb
        refine wp_seq_k fun K7 hK7 => ?_
        refine wp_region_lit ?_
        refine t_pure hs rfl rfl (by decide) (p_assign rfl rfl) ?_
        clear hs a
        intro a hs
        refine hK7 _ _ ?_
        refine wp_ret ?_
        refine f_ret (fn := Try.f7) hs (fun a hs => r_one hs rfl (rfl)) ⟨true, rfl, h⟩
      · replace h := h.2 hb
        clear hb
        refine wp_skip ?_
        refine hK5 _ _ ?_
        refine wp_seq_k fun K8 hK8 => ?_
        refine wp_region_lit ?_
        refine t_call hs rfl rfl (by decide) (e_call rfl rfl rfl cb_29) h ?_
        clear hs a h
        intro v a w hk hs
        obtain ⟨t30, rfl, h⟩ := hk
        refine t_call hs rfl rfl (by decide) (e_call rfl rfl rfl cb_29) h ?_
        clear hs a h
        intro v a w hk hs
        obtain ⟨t31, rfl, h⟩ := hk
        refine t_pure hs rfl rfl (by decide) (p_assign rfl rfl) ?_
        clear hs a
        intro a hs
        refine t_pure hs rfl rfl (by decide) (p_assign rfl rfl) ?_
        clear hs a
        intro a hs
        refine hK8 _ _ ?_
        refine wp_seq_k fun K9 hK9 => ?_
        refine wp_seq_k fun K10 hK10 => ?_
        have J2 : ∀ (t37_2 : Bool) (a : Act) (w : World), Slots a 129 [(0, (Sl.val list0)), (1, (Sl.val picks1)), (5, (.pointer t30)), (6, (.pointer t31)), (37, (.bool t37_2))] → law19_LinkAgain.s2 Q list0 picks1 t30 t31 t37_2 w → K10 a w := by
          clear h hs
          intro t37_2 a w hs h
          refine hK10 _ _ ?_
          unfold law19_LinkAgain.s2 at h
          refine c_cond hs rfl (fun hb => ?_) (fun hb => ?_)
          · replace h := h.1 hb
            clear hb
            refine wp_seq_k fun K11 hK11 => ?_
            refine wp_region_lit ?_
            refine t_pure hs rfl rfl (by decide) (p_assign rfl rfl) ?_
            clear hs a
            intro a hs
            refine hK11 _ _ ?_
            refine wp_ret ?_
            refine f_ret (fn := Try.f7) hs (fun a hs => r_one hs rfl (rfl)) ⟨false, rfl, h⟩
          · replace h := h.2 hb
            clear hb
            refine wp_skip ?_
            refine hK9 _ _ ?_
            refine wp_seq_k fun K12 hK12 => ?_
            refine wp_region_lit ?_
            obtain ⟨t38, w1, ha, hw, h⟩ := h
            refine t_eff hs rfl rfl (by decide) (e_buildSlice (z := #[]) (cs := #[]) rfl sl_56 zt_22 (by decide) rfl rz_22_0 (by rfl) ha hw) ?_
            clear hs a ha hw
            intro a hs
            refine t_pure hs rfl rfl (by decide) (p_assign rfl rfl) ?_
            clear hs a
            intro a hs
            refine hK12 _ _ ?_
            refine wp_seq_k fun K13 hK13 => ?_
            refine wp_seq_k fun K14 hK14 => ?_
            refine wp_region_lit ?_
            refine t_pure hs rfl rfl (by decide) (p_move rfl rfl) ?_
            clear hs a
            intro a hs
            refine t_pure hs rfl rfl (by decide) (p_len rfl rfl sl_56) ?_
            clear hs a
            intro a hs
            refine t_pure hs rfl rfl (by decide) (p_move rfl rfl) ?_
            clear hs a
            intro a hs
            refine hK14 _ _ ?_
            refine wp_block ?_
            obtain ⟨I3, μ3, h0, hr⟩ := h
            refine c_loop (α := Sl × Int) I3 μ3 (fun x a => Slots a 129 [(1, (Sl.val picks1)), (5, (.pointer t30)), (6, (.pointer t31)), (7, (Sl.val x.1)), (39, (Sl.val list0)), (40, (.int .i64 (list0.n : Int))), (41, (.int .i64 x.2))]) ((Sl.mk (some t38) 0 0), 0) h0 (hs.to ⟨rfl, rfl, rfl, rfl, rfl, rfl, rfl, trivial⟩) ?_
            clear h0 hs a
            rintro ⟨sent7_3, t41_3⟩ a w hI hs
            have h : law19_LinkAgain.b3 Q (fun sent7_3n t41_3n w' => I3 (sent7_3n, t41_3n) w' ∧ μ3 (sent7_3n, t41_3n) w' < μ3 (sent7_3, t41_3) w) picks1 t30 t31 list0 (list0.n : Int) sent7_3 t41_3 w := hr (sent7_3, t41_3) w hI
            clear hr hI
            generalize hX3 : (fun sent7_3n t41_3n w' => I3 (sent7_3n, t41_3n) w' ∧ μ3 (sent7_3n, t41_3n) w' < μ3 (sent7_3, t41_3) w) = X3 at h
            unfold law19_LinkAgain.b3 at h
            replace hs : Slots a 129 [(1, (Sl.val picks1)), (5, (.pointer t30)), (6, (.pointer t31)), (7, (Sl.val sent7_3)), (39, (Sl.val list0)), (40, (.int .i64 (list0.n : Int))), (41, (.int .i64 t41_3))] := hs
            refine wp_seq_k fun K15 hK15 => ?_
            refine wp_region_lit ?_
            refine t_pure hs rfl rfl (by decide) (p_lt rfl rfl rfl) ?_
            clear hs a
            intro a hs
            refine hK15 _ _ ?_
            refine wp_seq_k fun K16 hK16 => ?_
            refine c_cond hs rfl (fun hb => ?_) (fun hb => ?_)
            · replace h := h.1 hb
              clear hb
              refine wp_skip ?_
              refine hK16 _ _ ?_
              refine wp_seq_k fun K17 hK17 => ?_
              have J4 : ∀ (sent7_4 : Sl) (a : Act) (w : World), Slots a 129 [(1, (Sl.val picks1)), (5, (.pointer t30)), (6, (.pointer t31)), (7, (Sl.val sent7_4)), (39, (Sl.val list0)), (40, (.int .i64 (list0.n : Int))), (41, (.int .i64 t41_3))] → law19_LinkAgain.s4 Q X3 picks1 t30 t31 sent7_4 list0 (list0.n : Int) t41_3 w → K17 a w := by
                clear h hs
                intro sent7_4 a w hs h
                refine hK17 _ _ ?_
                unfold law19_LinkAgain.s4 at h
                refine wp_region_lit ?_
                obtain ⟨t56, he, h⟩ := h
                refine t_pure hs rfl rfl (by decide) (Pure.int he (p_add rfl rfl rfl)) ?_
                clear hs a he
                intro a hs
                refine t_pure hs rfl rfl (by decide) (p_move rfl rfl) ?_
                clear hs a
                intro a hs
                rw [← hX3] at h
                exact ⟨(sent7_4, t56), hs.to ⟨rfl, rfl, rfl, rfl, rfl, rfl, rfl, trivial⟩, h⟩
              clear hK17
              refine wp_block ?_
              refine wp_seq_k fun K18 hK18 => ?_
              refine wp_region_lit ?_
              obtain ⟨qt43, t43, ha, h0, h1, he, h⟩ := h
              refine t_pure hs rfl rfl (by decide) (Pure.adr he (p_idx rfl rfl rfl sl_56 ha h0 h1)) ?_
              clear hs a ha h0 h1 he
              intro a hs
              obtain ⟨t44, hv, h⟩ := h
              refine t_eff hs rfl rfl (by decide) (e_load rfl rfl ct_22 hv) ?_
              clear hs a hv
              intro a hs
              refine t_pure hs rfl rfl (by decide) (p_assign rfl rfl) ?_
              clear hs a
              intro a hs
              refine hK18 _ _ ?_
              refine wp_seq_k fun K19 hK19 => ?_
              refine wp_seq_k fun K20 hK20 => ?_
              refine wp_region_lit ?_
              refine t_pure hs rfl rfl (by decide) (p_move rfl rfl) ?_
              clear hs a
              intro a hs
              refine t_pure hs rfl rfl (by decide) (p_len rfl rfl sl_22) ?_
              clear hs a
              intro a hs
              refine t_pure hs rfl rfl (by decide) (p_gt rfl rfl rfl) ?_
              clear hs a
              intro a hs
              refine hK20 _ _ ?_
              refine c_cond hs rfl (fun hb => ?_) (fun hb => ?_)
              · replace h := h.1 hb
                clear hb
                refine wp_seq_k fun K21 hK21 => ?_
                refine wp_region_lit ?_
                refine t_pure hs rfl rfl (by decide) (p_assign rfl rfl) ?_
                clear hs a
                intro a hs
                refine hK21 _ _ ?_
                refine wp_ret ?_
                refine f_ret (fn := Try.f7) hs (fun a hs => r_one hs rfl (rfl)) ⟨true, rfl, h⟩
              · replace h := h.2 hb
                clear hb
                refine wp_skip ?_
                refine hK19 _ _ ?_
                refine wp_seq_k fun K22 hK22 => ?_
                refine wp_region_lit ?_
                refine t_pure hs rfl rfl (by decide) (p_move rfl rfl) ?_
                clear hs a
                intro a hs
                refine t_pure hs rfl rfl (by decide) (p_move rfl rfl) ?_
                clear hs a
                intro a hs
                refine t_call hs rfl rfl (by decide) (e_call rfl rfl rfl cb_30) h ?_
                clear hs a h
                intro v a w hk hs
                obtain ⟨t50, rfl, h⟩ := hk
                refine t_pure hs rfl rfl (by decide) (p_eq rfl rfl rfl) ?_
                clear hs a
                intro a hs
                refine hK22 _ _ ?_
                refine c_cond hs rfl (fun hb => ?_) (fun hb => ?_)
                · replace h := h.1 hb
                  clear hb
                  refine wp_region_lit ?_
                  refine t_pure hs rfl rfl (by decide) (p_move rfl rfl) ?_
                  clear hs a
                  intro a hs
                  refine t_pure hs rfl rfl (by decide) (p_move rfl rfl) ?_
                  clear hs a
                  intro a hs
                  obtain ⟨t54, w1, ha, hw, h⟩ := h
                  refine t_eff hs rfl rfl (by decide) (e_buildSlice (z := #[(Sl.val ⟨none, 0, 0⟩)]) (cs := #[(Sl.val t44)]) rfl sl_56 zt_22 (by decide) rfl rz_22_1 (by rfl) ha hw) ?_
                  clear hs a ha hw
                  intro a hs
                  obtain ⟨t55, w1, hd, h⟩ := h
                  refine t_eff hs rfl rfl (by decide) (e_append rfl rfl rfl rfl hd) ?_
                  clear hs a hd
                  intro a hs
                  refine t_pure hs rfl rfl (by decide) (p_assign rfl rfl) ?_
                  clear hs a
                  intro a hs
                  exact J4 t55 _ _ (hs.to ⟨rfl, rfl, rfl, rfl, rfl, rfl, rfl, trivial⟩) h
                · replace h := h.2 hb
                  clear hb
                  refine wp_skip ?_
                  exact J4 sent7_3 _ _ (hs.to ⟨rfl, rfl, rfl, rfl, rfl, rfl, rfl, trivial⟩) h
            · replace h := h.2 hb
              clear hb
              refine wp_exit ?_
              refine hK13 _ _ ?_
              refine wp_seq_k fun K23 hK23 => ?_
              refine wp_region_lit ?_
              refine t_pure hs rfl rfl (by decide) (p_move rfl rfl) ?_
              clear hs a
              intro a hs
              refine t_pure hs rfl rfl (by decide) (e_build (cs := #[(.int .u64 9), (.int .u64 0), (.int .u64 0), (.int .u64 0), (Sl.val ⟨none, 0, 0⟩)]) rfl zt_36 pl_36 rfl rfl) ?_
              clear hs a
              intro a hs
              refine t_call hs rfl rfl (by decide) (e_call rfl rfl rfl cb_31) h ?_
              clear hs a h
              intro v a w hk hs
              obtain ⟨t59x0, t59x1, rfl, h⟩ := hk
              refine hK23 _ _ ?_
              refine wp_seq_k fun K24 hK24 => ?_
              refine wp_region_lit ?_
              refine t_pure hs rfl rfl (by decide) (p_move rfl rfl) ?_
              clear hs a
              intro a hs
              refine t_pure hs rfl rfl (by decide) (e_build (cs := #[(.int .u64 2), (.int .u64 0), (.int .u64 0), (.int .u64 0), (Sl.val ⟨none, 0, 0⟩)]) rfl zt_36 pl_36 rfl rfl) ?_
              clear hs a
              intro a hs
              refine t_call hs rfl rfl (by decide) (e_call rfl rfl rfl cb_31) h ?_
              clear hs a h
              intro v a w hk hs
              obtain ⟨t62x0, t62x1, rfl, h⟩ := hk
              refine hK24 _ _ ?_
              refine wp_seq_k fun K25 hK25 => ?_
              refine wp_region_lit ?_
              refine t_pure hs rfl rfl (by decide) (p_move rfl rfl) ?_
              clear hs a
              intro a hs
              refine t_call hs rfl rfl (by decide) (e_call rfl rfl rfl cb_32) h ?_
              clear hs a h
              intro v a w hk hs
              obtain ⟨t64, rfl, h⟩ := hk
              obtain ⟨t65, w1, ha, hw, h⟩ := h
              refine t_eff hs rfl rfl (by decide) (e_buildSlice (z := #[]) (cs := #[]) rfl sl_56 zt_22 (by decide) rfl rz_22_0 (by rfl) ha hw) ?_
              clear hs a ha hw
              intro a hs
              refine t_pure hs rfl rfl (by decide) (p_assign rfl rfl) ?_
              clear hs a
              intro a hs
              refine t_pure hs rfl rfl (by decide) (p_assign rfl rfl) ?_
              clear hs a
              intro a hs
              refine hK25 _ _ ?_
              refine wp_seq_k fun K26 hK26 => ?_
              refine wp_seq_k fun K27 hK27 => ?_
              refine wp_region_lit ?_
              refine t_pure hs rfl rfl (by decide) (p_move rfl rfl) ?_
              clear hs a
              intro a hs
              refine t_pure hs rfl rfl (by decide) (p_len rfl rfl sl_60) ?_
              clear hs a
              intro a hs
              refine t_pure hs rfl rfl (by decide) (p_move rfl rfl) ?_
              clear hs a
              intro a hs
              refine t_pure hs rfl rfl (by decide) (p_len rfl rfl sl_56) ?_
              clear hs a
              intro a hs
              refine t_pure hs rfl rfl (by decide) (p_ne rfl rfl rfl) ?_
              clear hs a
              intro a hs
              refine hK27 _ _ ?_
              refine c_cond hs rfl (fun hb => ?_) (fun hb => ?_)
              · replace h := h.1 hb
                clear hb
                refine wp_seq_k fun K28 hK28 => ?_
                refine wp_region_lit ?_
                refine t_pure hs rfl rfl (by decide) (p_assign rfl rfl) ?_
                clear hs a
                intro a hs
                refine hK28 _ _ ?_
                refine wp_ret ?_
                refine f_ret (fn := Try.f7) hs (fun a hs => r_one hs rfl (rfl)) ⟨false, rfl, h⟩
              · replace h := h.2 hb
                clear hb
                refine wp_skip ?_
                refine hK26 _ _ ?_
                refine wp_seq_k fun K29 hK29 => ?_
                refine wp_seq_k fun K30 hK30 => ?_
                refine wp_region_lit ?_
                refine t_pure hs rfl rfl (by decide) (p_assign rfl rfl) ?_
                clear hs a
                intro a hs
                refine hK30 _ _ ?_
                refine wp_block ?_
                obtain ⟨I5, μ5, h0, hr⟩ := h
                refine c_loop (α := Sl × Int) I5 μ5 (fun x a => Slots a 129 [(1, (Sl.val picks1)), (6, (.pointer t31)), (7, (Sl.val sent7_3)), (10, (Sl.val t64)), (11, (Sl.val x.1)), (12, (.int .i64 x.2))]) ((Sl.mk (some t65) 0 0), 0) h0 (hs.to ⟨rfl, rfl, rfl, rfl, rfl, rfl, trivial⟩) ?_
                clear h0 hs a
                rintro ⟨got11_5, n12_5⟩ a w hI hs
                have h : law19_LinkAgain.b5 Q X3 (fun got11_5n n12_5n w' => I5 (got11_5n, n12_5n) w' ∧ μ5 (got11_5n, n12_5n) w' < μ5 (got11_5, n12_5) w) picks1 t31 sent7_3 t64 got11_5 n12_5 w := hr (got11_5, n12_5) w hI
                clear hr hI
                generalize hX5 : (fun got11_5n n12_5n w' => I5 (got11_5n, n12_5n) w' ∧ μ5 (got11_5n, n12_5n) w' < μ5 (got11_5, n12_5) w) = X5 at h
                unfold law19_LinkAgain.b5 at h
                replace hs : Slots a 129 [(1, (Sl.val picks1)), (6, (.pointer t31)), (7, (Sl.val sent7_3)), (10, (Sl.val t64)), (11, (Sl.val got11_5)), (12, (.int .i64 n12_5))] := hs
                refine wp_seq_k fun K31 hK31 => ?_
                refine wp_seq_k fun K32 hK32 => ?_
                refine wp_region_lit ?_
                refine t_pure hs rfl rfl (by decide) (p_move rfl rfl) ?_
                clear hs a
                intro a hs
                refine t_pure hs rfl rfl (by decide) (p_move rfl rfl) ?_
                clear hs a
                intro a hs
                refine t_pure hs rfl rfl (by decide) (p_len rfl rfl sl_32) ?_
                clear hs a
                intro a hs
                refine t_pure hs rfl rfl (by decide) (p_move rfl rfl) ?_
                clear hs a
                intro a hs
                refine t_pure hs rfl rfl (by decide) (p_len rfl rfl sl_60) ?_
                clear hs a
                intro a hs
                obtain ⟨t76, he, h⟩ := h
                refine t_pure hs rfl rfl (by decide) (Pure.int he (p_add rfl rfl rfl)) ?_
                clear hs a he
                intro a hs
                refine t_pure hs rfl rfl (by decide) (p_lt rfl rfl rfl) ?_
                clear hs a
                intro a hs
                refine hK32 _ _ ?_
                refine c_cond hs rfl (fun hb => ?_) (fun hb => ?_)
                · replace h := h.1 hb
                  clear hb
                  refine wp_skip ?_
                  refine hK31 _ _ ?_
                  refine wp_seq_k fun K33 hK33 => ?_
                  have J6 : ∀ (got11_6 : Sl) (a : Act) (w : World), Slots a 129 [(1, (Sl.val picks1)), (6, (.pointer t31)), (7, (Sl.val sent7_3)), (10, (Sl.val t64)), (11, (Sl.val got11_6)), (12, (.int .i64 n12_5))] → law19_LinkAgain.s6 Q X3 X5 picks1 t31 sent7_3 t64 got11_6 n12_5 w → K33 a w := by
                    clear h hs
                    intro got11_6 a w hs h
                    refine hK33 _ _ ?_
                    unfold law19_LinkAgain.s6 at h
                    refine wp_region_lit ?_
                    refine t_pure hs rfl rfl (by decide) (p_move rfl rfl) ?_
                    clear hs a
                    intro a hs
                    obtain ⟨t79, he, h⟩ := h
                    refine t_pure hs rfl rfl (by decide) (Pure.int he (p_add rfl rfl rfl)) ?_
                    clear hs a he
                    intro a hs
                    refine t_pure hs rfl rfl (by decide) (p_assign rfl rfl) ?_
                    clear hs a
                    intro a hs
                    rw [← hX5] at h
                    exact ⟨(got11_6, t79), hs.to ⟨rfl, rfl, rfl, rfl, rfl, rfl, trivial⟩, h⟩
                  clear hK33
                  refine wp_block ?_
                  refine wp_seq_k fun K34 hK34 => ?_
                  refine wp_region_lit ?_
                  refine t_pure hs rfl rfl (by decide) (p_move rfl rfl) ?_
                  clear hs a
                  intro a hs
                  refine t_pure hs rfl rfl (by decide) (p_move rfl rfl) ?_
                  clear hs a
                  intro a hs
                  refine t_pure hs rfl rfl (by decide) (p_len rfl rfl sl_32) ?_
                  clear hs a
                  intro a hs
                  obtain ⟨t83, he, h⟩ := h
                  refine t_pure hs rfl rfl (by decide) (Pure.int he (p_sub rfl rfl rfl)) ?_
                  clear hs a he
                  intro a hs
                  refine t_pure hs rfl rfl (by decide) (p_assign rfl rfl) ?_
                  clear hs a
                  intro a hs
                  refine hK34 _ _ ?_
                  refine wp_seq_k fun K35 hK35 => ?_
                  have J7 : ∀ (k13_7 : Int) (a : Act) (w : World), Slots a 129 [(1, (Sl.val picks1)), (6, (.pointer t31)), (7, (Sl.val sent7_3)), (10, (Sl.val t64)), (11, (Sl.val got11_5)), (12, (.int .i64 n12_5)), (13, (.int .i64 k13_7))] → law19_LinkAgain.s7 Q X3 X5 picks1 t31 sent7_3 t64 got11_5 n12_5 k13_7 w → K35 a w := by
                    clear h hs
                    intro k13_7 a w hs h
                    refine hK35 _ _ ?_
                    unfold law19_LinkAgain.s7 at h
                    refine wp_seq_k fun K36 hK36 => ?_
                    refine wp_seq_k fun K37 hK37 => ?_
                    have J8 : ∀ (t97_8 : Bool) (a : Act) (w : World), Slots a 129 [(1, (Sl.val picks1)), (6, (.pointer t31)), (7, (Sl.val sent7_3)), (10, (Sl.val t64)), (11, (Sl.val got11_5)), (12, (.int .i64 n12_5)), (13, (.int .i64 k13_7)), (97, (.bool t97_8))] → law19_LinkAgain.s8 Q X3 X5 picks1 t31 sent7_3 t64 got11_5 n12_5 k13_7 t97_8 w → K37 a w := by
                      clear h hs
                      intro t97_8 a w hs h
                      refine hK37 _ _ ?_
                      unfold law19_LinkAgain.s8 at h
                      refine c_cond hs rfl (fun hb => ?_) (fun hb => ?_)
                      · replace h := h.1 hb
                        clear hb
                        refine wp_exit ?_
                        exact J6 got11_5 _ _ (hs.to ⟨rfl, rfl, rfl, rfl, rfl, rfl, trivial⟩) h
                      · replace h := h.2 hb
                        clear hb
                        refine wp_skip ?_
                        refine hK36 _ _ ?_
                        refine wp_seq_k fun K38 hK38 => ?_
                        refine wp_region_lit ?_
                        refine t_pure hs rfl rfl (by decide) (p_move rfl rfl) ?_
                        clear hs a
                        intro a hs
                        refine t_pure hs rfl rfl (by decide) (p_move rfl rfl) ?_
                        clear hs a
                        intro a hs
                        refine t_pure hs rfl rfl (by decide) (p_move rfl rfl) ?_
                        clear hs a
                        intro a hs
                        obtain ⟨qt102, t102, ha, h0, h1, he, h⟩ := h
                        refine t_pure hs rfl rfl (by decide) (Pure.adr he (p_idx rfl rfl rfl sl_60 ha h0 h1)) ?_
                        clear hs a ha h0 h1 he
                        intro a hs
                        obtain ⟨t103, hn, hv, h⟩ := h
                        refine t_eff hs rfl rfl (by decide) (e_loadN rfl rfl at_36 hn hv) ?_
                        clear hs a hn hv
                        intro a hs
                        refine t_call hs rfl rfl (by decide) (e_call rfl rfl rfl cb_31) h ?_
                        clear hs a h
                        intro v a w hk hs
                        obtain ⟨t104x0, t104x1, rfl, h⟩ := hk
                        refine t_pure hs rfl rfl (by decide) (p_move rfl rfl) ?_
                        clear hs a
                        intro a hs
                        refine t_pure hs rfl rfl (by decide) (p_extract rfl rfl rfl) ?_
                        clear hs a
                        intro a hs
                        replace hs := hs.to (τ := [(1, (Sl.val picks1)), (6, (.pointer t31)), (7, (Sl.val sent7_3)), (10, (Sl.val t64)), (11, (Sl.val got11_5)), (12, (.int .i64 n12_5)), (98, (.tuple #[(Sl.val t104x0), (Sl.val t104x1)])), (105, (Sl.val t104x0))]) ⟨rfl, rfl, rfl, rfl, rfl, rfl, rfl, rfl, trivial⟩
                        refine t_pure hs rfl rfl (by decide) (p_extract rfl rfl rfl) ?_
                        clear hs a
                        intro a hs
                        refine t_pure hs rfl rfl (by decide) (p_assign rfl rfl) ?_
                        clear hs a
                        intro a hs
                        refine t_pure hs rfl rfl (by decide) (p_assign rfl rfl) ?_
                        clear hs a
                        intro a hs
                        refine hK38 _ _ ?_
                        refine wp_region_lit ?_
                        refine t_pure hs rfl rfl (by decide) (p_move rfl rfl) ?_
                        clear hs a
                        intro a hs
                        refine t_pure hs rfl rfl (by decide) (p_move rfl rfl) ?_
                        clear hs a
                        intro a hs
                        obtain ⟨t109, w1, hd, h⟩ := h
                        refine t_eff hs rfl rfl (by decide) (e_append rfl rfl rfl rfl hd) ?_
                        clear hs a hd
                        intro a hs
                        refine t_pure hs rfl rfl (by decide) (p_assign rfl rfl) ?_
                        clear hs a
                        intro a hs
                        exact J6 t109 _ _ (hs.to ⟨rfl, rfl, rfl, rfl, rfl, rfl, trivial⟩) h
                    clear hK37
                    refine wp_region_lit ?_
                    refine t_pure hs rfl rfl (by decide) (p_move rfl rfl) ?_
                    clear hs a
                    intro a hs
                    refine t_pure hs rfl rfl (by decide) (p_lt rfl rfl rfl) ?_
                    clear hs a
                    intro a hs
                    refine t_pure hs rfl rfl (by decide) (p_move rfl rfl) ?_
                    clear hs a
                    intro a hs
                    refine split_bool (decide (k13_7 < 0)) (fun hb => ?_) (fun hb => ?_)
                    · replace h := h.1 hb
                      rw [hb] at hs
                      clear hb
                      refine t_no hs rfl rfl (by decide) ?_
                      clear hs a
                      intro a hs
                      refine t_no hs rfl rfl (by decide) ?_
                      clear hs a
                      intro a hs
                      refine t_no hs rfl rfl (by decide) ?_
                      clear hs a
                      intro a hs
                      refine t_no hs rfl rfl (by decide) ?_
                      clear hs a
                      intro a hs
                      refine t_pure hs rfl rfl (by decide) (p_pick_t rfl rfl rfl) ?_
                      clear hs a
                      intro a hs
                      exact J8 true _ _ (hs.to ⟨rfl, rfl, rfl, rfl, rfl, rfl, rfl, rfl, trivial⟩) h
                    · replace h := h.2 hb
                      rw [hb] at hs
                      clear hb
                      refine t_yes hs rfl ?_
                      refine t_pure hs rfl rfl (by decide) (p_move rfl rfl) ?_
                      clear hs a
                      intro a hs
                      refine t_yes hs rfl ?_
                      refine t_pure hs rfl rfl (by decide) (p_move rfl rfl) ?_
                      clear hs a
                      intro a hs
                      refine t_yes hs rfl ?_
                      refine t_pure hs rfl rfl (by decide) (p_len rfl rfl sl_60) ?_
                      clear hs a
                      intro a hs
                      refine t_yes hs rfl ?_
                      refine t_pure hs rfl rfl (by decide) (p_ge rfl rfl rfl) ?_
                      clear hs a
                      intro a hs
                      refine t_pure hs rfl rfl (by decide) (p_pick_f rfl rfl rfl) ?_
                      clear hs a
                      intro a hs
                      exact J8 (decide ((t64.n : Int) ≤ k13_7)) _ _ (hs.to ⟨rfl, rfl, rfl, rfl, rfl, rfl, rfl, rfl, trivial⟩) h
                  clear hK35
                  refine wp_seq_k fun K39 hK39 => ?_
                  refine wp_region_lit ?_
                  refine t_pure hs rfl rfl (by decide) (p_move rfl rfl) ?_
                  clear hs a
                  intro a hs
                  refine t_pure hs rfl rfl (by decide) (p_lt rfl rfl rfl) ?_
                  clear hs a
                  intro a hs
                  refine hK39 _ _ ?_
                  refine c_cond hs rfl (fun hb => ?_) (fun hb => ?_)
                  · replace h := h.1 hb
                    clear hb
                    refine wp_region_lit ?_
                    refine t_pure hs rfl rfl (by decide) (p_move rfl rfl) ?_
                    clear hs a
                    intro a hs
                    refine t_pure hs rfl rfl (by decide) (p_move rfl rfl) ?_
                    clear hs a
                    intro a hs
                    obtain ⟨qt88, t88, ha, h0, h1, he, h⟩ := h
                    refine t_pure hs rfl rfl (by decide) (Pure.adr he (p_idx rfl rfl rfl sl_32 ha h0 h1)) ?_
                    clear hs a ha h0 h1 he
                    intro a hs
                    obtain ⟨t89, hv, h⟩ := h
                    refine t_eff hs rfl rfl (by decide) (e_load rfl rfl ct_3 hv) ?_
                    clear hs a hv
                    intro a hs
                    refine t_pure hs rfl rfl (by decide) (p_assign rfl rfl) ?_
                    clear hs a
                    intro a hs
                    exact J7 t89 _ _ (hs.to ⟨rfl, rfl, rfl, rfl, rfl, rfl, rfl, trivial⟩) h
                  · replace h := h.2 hb
                    clear hb
                    refine wp_skip ?_
                    exact J7 t83 _ _ (hs.to ⟨rfl, rfl, rfl, rfl, rfl, rfl, rfl, trivial⟩) h
                · replace h := h.2 hb
                  clear hb
                  refine wp_exit ?_
                  refine hK29 _ _ ?_
                  refine wp_seq_k fun K40 hK40 => ?_
                  refine wp_seq_k fun K41 hK41 => ?_
                  refine wp_region_lit ?_
                  refine t_pure hs rfl rfl (by decide) (p_move rfl rfl) ?_
                  clear hs a
                  intro a hs
                  refine t_pure hs rfl rfl (by decide) (p_len rfl rfl sl_60) ?_
                  clear hs a
                  intro a hs
                  refine t_pure hs rfl rfl (by decide) (p_move rfl rfl) ?_
                  clear hs a
                  intro a hs
                  refine hK41 _ _ ?_
                  refine wp_block ?_
                  obtain ⟨I9, μ9, h0, hr⟩ := h
                  refine c_loop (α := Int) I9 μ9 (fun x a => Slots a 129 [(6, (.pointer t31)), (7, (Sl.val sent7_3)), (11, (Sl.val got11_5)), (110, (Sl.val t64)), (111, (.int .i64 (t64.n : Int))), (112, (.int .i64 x))]) 0 h0 (hs.to ⟨rfl, rfl, rfl, rfl, rfl, rfl, trivial⟩) ?_
                  clear h0 hs a
                  intro t112_9 a w hI hs
                  have h : law19_LinkAgain.b9 Q X3 X5 (fun t112_9n w' => I9 t112_9n w' ∧ μ9 t112_9n w' < μ9 t112_9 w) t31 sent7_3 got11_5 t64 (t64.n : Int) t112_9 w := hr t112_9 w hI
                  clear hr hI
                  generalize hX9 : (fun t112_9n w' => I9 t112_9n w' ∧ μ9 t112_9n w' < μ9 t112_9 w) = X9 at h
                  unfold law19_LinkAgain.b9 at h
                  replace hs : Slots a 129 [(6, (.pointer t31)), (7, (Sl.val sent7_3)), (11, (Sl.val got11_5)), (110, (Sl.val t64)), (111, (.int .i64 (t64.n : Int))), (112, (.int .i64 t112_9))] := hs
                  refine wp_seq_k fun K42 hK42 => ?_
                  refine wp_region_lit ?_
                  refine t_pure hs rfl rfl (by decide) (p_lt rfl rfl rfl) ?_
                  clear hs a
                  intro a hs
                  refine hK42 _ _ ?_
                  refine wp_seq_k fun K43 hK43 => ?_
                  refine c_cond hs rfl (fun hb => ?_) (fun hb => ?_)
                  · replace h := h.1 hb
                    clear hb
                    refine wp_skip ?_
                    refine hK43 _ _ ?_
                    refine wp_seq_k fun K44 hK44 => ?_
                    refine wp_block ?_
                    refine wp_seq_k fun K45 hK45 => ?_
                    refine wp_region_lit ?_
                    obtain ⟨qt114, t114, ha, h0, h1, he, h⟩ := h
                    refine t_pure hs rfl rfl (by decide) (Pure.adr he (p_idx rfl rfl rfl sl_60 ha h0 h1)) ?_
                    clear hs a ha h0 h1 he
                    intro a hs
                    obtain ⟨t115, hn, hv, h⟩ := h
                    refine t_eff hs rfl rfl (by decide) (e_loadN rfl rfl at_36 hn hv) ?_
                    clear hs a hn hv
                    intro a hs
                    obtain ⟨p17, w1, ha, hw, h⟩ := h
                    refine t_eff hs rfl rfl (by decide) (e_alloc rfl zt_36 rfl ha hw) ?_
                    clear hs a ha hw
                    intro a hs
                    obtain ⟨w1, hw, hn, hc, hv, h⟩ := h
                    refine t_skip hs rfl rfl (e_storeN rfl rfl rfl sz_36 hw hn hc hv) ?_
                    clear hs a hw hn hc hv
                    intro a hs
                    refine hK45 _ _ ?_
                    refine wp_seq_k fun K46 hK46 => ?_
                    refine wp_region_lit ?_
                    refine t_pure hs rfl rfl (by decide) (p_move rfl rfl) ?_
                    clear hs a
                    intro a hs
                    obtain ⟨t118, hn, hv, h⟩ := h
                    refine t_eff hs rfl rfl (by decide) (e_loadN rfl rfl at_36 hn hv) ?_
                    clear hs a hn hv
                    intro a hs
                    refine t_call hs rfl rfl (by decide) (e_call rfl rfl rfl cb_31) h ?_
                    clear hs a h
                    intro v a w hk hs
                    obtain ⟨t119x0, t119x1, rfl, h⟩ := hk
                    refine t_pure hs rfl rfl (by decide) (p_move rfl rfl) ?_
                    clear hs a
                    intro a hs
                    refine t_pure hs rfl rfl (by decide) (p_extract rfl rfl rfl) ?_
                    clear hs a
                    intro a hs
                    refine t_pure hs rfl rfl (by decide) (p_extract rfl rfl rfl) ?_
                    clear hs a
                    intro a hs
                    refine t_pure hs rfl rfl (by decide) (p_assign rfl rfl) ?_
                    clear hs a
                    intro a hs
                    refine t_pure hs rfl rfl (by decide) (p_assign rfl rfl) ?_
                    clear hs a
                    intro a hs
                    refine hK46 _ _ ?_
                    refine wp_seq_k fun K47 hK47 => ?_
                    refine wp_region_lit ?_
                    refine t_pure hs rfl rfl (by decide) (p_move rfl rfl) ?_
                    clear hs a
                    intro a hs
                    refine t_pure hs rfl rfl (by decide) (p_len rfl rfl sl_56) ?_
                    clear hs a
                    intro a hs
                    refine t_pure hs rfl rfl (by decide) (p_ne rfl rfl rfl) ?_
                    clear hs a
                    intro a hs
                    refine hK47 _ _ ?_
                    refine c_cond hs rfl (fun hb => ?_) (fun hb => ?_)
                    · replace h := h.1 hb
                      clear hb
                      refine wp_seq_k fun K48 hK48 => ?_
                      refine wp_region_lit ?_
                      refine t_pure hs rfl rfl (by decide) (p_assign rfl rfl) ?_
                      clear hs a
                      intro a hs
                      refine hK48 _ _ ?_
                      refine wp_ret ?_
                      refine f_ret (fn := Try.f7) hs (fun a hs => r_one hs rfl (rfl)) ⟨false, rfl, h⟩
                    · replace h := h.2 hb
                      clear hb
                      refine wp_skip ?_
                      refine hK44 _ _ ?_
                      refine wp_region_lit ?_
                      obtain ⟨t125, he, h⟩ := h
                      refine t_pure hs rfl rfl (by decide) (Pure.int he (p_add rfl rfl rfl)) ?_
                      clear hs a he
                      intro a hs
                      refine t_pure hs rfl rfl (by decide) (p_move rfl rfl) ?_
                      clear hs a
                      intro a hs
                      rw [← hX9] at h
                      exact ⟨t125, hs.to ⟨rfl, rfl, rfl, rfl, rfl, rfl, trivial⟩, h⟩
                  · replace h := h.2 hb
                    clear hb
                    refine wp_exit ?_
                    refine hK40 _ _ ?_
                    refine wp_seq_k fun K49 hK49 => ?_
                    refine wp_region_lit ?_
                    refine t_pure hs rfl rfl (by decide) (p_move rfl rfl) ?_
                    clear hs a
                    intro a hs
                    refine t_pure hs rfl rfl (by decide) (p_move rfl rfl) ?_
                    clear hs a
                    intro a hs
                    refine t_call hs rfl rfl (by decide) (e_call rfl rfl rfl cb_33) h ?_
                    clear hs a h
                    intro v a w hk hs
                    obtain ⟨t128, rfl, h⟩ := hk
                    refine t_pure hs rfl rfl (by decide) (p_assign rfl rfl) ?_
                    clear hs a
                    intro a hs
                    refine hK49 _ _ ?_
                    refine wp_ret ?_
                    refine f_ret (fn := Try.f7) hs (fun a hs => r_one hs rfl (rfl)) ⟨t128, rfl, h⟩
        clear hK10
        refine wp_region_lit ?_
        refine t_pure hs rfl rfl (by decide) (p_move rfl rfl) ?_
        clear hs a
        intro a hs
        refine t_pure hs rfl rfl (by decide) (p_eq_nil rfl rfl rfl Try.underlying57) ?_
        clear hs a
        intro a hs
        refine t_pure hs rfl rfl (by decide) (p_move rfl rfl) ?_
        clear hs a
        intro a hs
        refine split_bool ((t30).isNone) (fun hb => ?_) (fun hb => ?_)
        · replace h := h.1 hb
          rw [hb] at hs
          clear hb
          refine t_no hs rfl rfl (by decide) ?_
          clear hs a
          intro a hs
          refine t_no hs rfl rfl (by decide) ?_
          clear hs a
          intro a hs
          refine t_pure hs rfl rfl (by decide) (p_pick_t rfl rfl rfl) ?_
          clear hs a
          intro a hs
          exact J2 true _ _ (hs.to ⟨rfl, rfl, rfl, rfl, rfl, trivial⟩) h
        · replace h := h.2 hb
          rw [hb] at hs
          clear hb
          refine t_yes hs rfl ?_
          refine t_pure hs rfl rfl (by decide) (p_move rfl rfl) ?_
          clear hs a
          intro a hs
          refine t_yes hs rfl ?_
          refine t_pure hs rfl rfl (by decide) (p_eq_nil rfl rfl rfl Try.underlying57) ?_
          clear hs a
          intro a hs
          refine t_pure hs rfl rfl (by decide) (p_pick_f rfl rfl rfl) ?_
          clear hs a
          intro a hs
          exact J2 ((t31).isNone) _ _ (hs.to ⟨rfl, rfl, rfl, rfl, rfl, trivial⟩) h
    clear hK6
    refine wp_region_lit ?_
    refine t_pure hs rfl rfl (by decide) (p_move rfl rfl) ?_
    clear hs a
    intro a hs
    refine t_pure hs rfl rfl (by decide) (p_len rfl rfl sl_56) ?_
    clear hs a
    intro a hs
    refine t_pure hs rfl rfl (by decide) (p_gt rfl rfl rfl) ?_
    clear hs a
    intro a hs
    refine t_pure hs rfl rfl (by decide) (p_move rfl rfl) ?_
    clear hs a
    intro a hs
    refine split_bool (decide ((30 : Int) < (list0.n : Int))) (fun hb => ?_) (fun hb => ?_)
    · replace h := h.1 hb
      rw [hb] at hs
      clear hb
      refine t_no hs rfl rfl (by decide) ?_
      clear hs a
      intro a hs
      refine t_no hs rfl rfl (by decide) ?_
      clear hs a
      intro a hs
      refine t_no hs rfl rfl (by decide) ?_
      clear hs a
      intro a hs
      refine t_pure hs rfl rfl (by decide) (p_pick_t rfl rfl rfl) ?_
      clear hs a
      intro a hs
      exact J1 true _ _ (hs.to ⟨rfl, rfl, rfl, trivial⟩) h
    · replace h := h.2 hb
      rw [hb] at hs
      clear hb
      refine t_yes hs rfl ?_
      refine t_pure hs rfl rfl (by decide) (p_move rfl rfl) ?_
      clear hs a
      intro a hs
      refine t_yes hs rfl ?_
      refine t_pure hs rfl rfl (by decide) (p_len rfl rfl sl_32) ?_
      clear hs a
      intro a hs
      refine t_yes hs rfl ?_
      refine t_pure hs rfl rfl (by decide) (p_gt rfl rfl rfl) ?_
      clear hs a
      intro a hs
      refine t_pure hs rfl rfl (by decide) (p_pick_f rfl rfl rfl) ?_
      clear hs a
      intro a hs
      exact J1 (decide ((100 : Int) < (picks1.n : Int))) _ _ (hs.to ⟨rfl, rfl, rfl, trivial⟩) h
end Go.Proofs.Ytilejcnbacmdnaa
