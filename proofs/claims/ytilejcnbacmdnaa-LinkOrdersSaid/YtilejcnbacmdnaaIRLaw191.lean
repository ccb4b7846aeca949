/- Plain forms of functions, and that their code comes to them (package law19). -/
import Derived.Test.YtilejcnbacmdnaaCalls
namespace Go.Proofs.Ytilejcnbacmdnaa
open Go Go.Sep
set_option linter.unusedVariables false
set_option linter.unusedSimpArgs false
set_option maxRecDepth 100000
set_option maxHeartbeats 4000000
def law19_LinkOrders.b6 (Q : Bool → K) (X2 : Int → K) (X3 : Int → K) (X4 : Int → K) (X5 : Int → K) (X6 : Int → K) (p3_6 : Addr) (turn6_6 : Int) (side7_6 : Int) (t88_6 : Sl) (t89_6 : Int) (t90_6 : Int) : K :=
  Ite (decide (t90_6 < t89_6))
    (Idx t88_6 t90_6 5 fun t92 =>
    LdN t92 5 fun t93 =>
    New 36 #[(.int .u64 0), (.int .u64 0), (.int .u64 0), (.int .u64 0), (Sl.val ⟨none, 0, 0⟩)] fun x11 =>
    StN x11 5 t93 <|
    LdN x11 5 fun t96 =>
    law19_pair_come.call (some p3_6) side7_6 t96 <|
    Ar (IntKind.wrap .i64 (t90_6 + 1)) fun t98 =>
    X6 t98)
    (IdxA (p3_6.add 2) 2 side7_6 1 fun t103 =>
    St t103 (Sl.val (Sl.mk none 0 0)) <|
    Ar (IntKind.wrap .i64 (side7_6 + 1)) fun t64 =>
    X4 t64)
def law19_LinkOrders.b5 (Q : Bool → K) (X2 : Int → K) (X3 : Int → K) (X4 : Int → K) (X5 : Int → K) (p3_5 : Addr) (turn6_5 : Int) (side7_5 : Int) (t71_5 : Sl) (t72_5 : Int) (t73_5 : Int) : K :=
  Ite (decide (t73_5 < t72_5))
    (Idx t71_5 t73_5 5 fun t75 =>
    LdN t75 5 fun t76 =>
    New 36 #[(.int .u64 0), (.int .u64 0), (.int .u64 0), (.int .u64 0), (Sl.val ⟨none, 0, 0⟩)] fun x9 =>
    StN x9 5 t76 <|
    Ar (IntKind.wrap .i64 (1 - side7_5)) fun t79 =>
    LdN x9 5 fun t80 =>
    law19_pair_come.call (some p3_5) t79 t80 <|
    Ar (IntKind.wrap .i64 (t73_5 + 1)) fun t82 =>
    X5 t82)
    (IdxA (p3_5.add 2) 2 side7_5 1 fun t87 =>
    Ld t87 Sl.val fun t88 =>
    LoopK (α := Int) (fun X x => law19_LinkOrders.b6 Q X2 X3 X4 X5 X p3_5 turn6_5 side7_5 t88 (t88.n : Int) x) 0)
def law19_LinkOrders.b4 (Q : Bool → K) (X2 : Int → K) (X3 : Int → K) (X4 : Int → K) (p3_4 : Addr) (turn6_4 : Int) (side7_4 : Int) : K :=
  Ite (decide (side7_4 < 2))
    (IdxA p3_4 2 side7_4 1 fun t69 =>
    Ld t69 Value.pointer fun t70 =>
    link_Link_Packets.call t70 fun t71 =>
    LoopK (α := Int) (fun X x => law19_LinkOrders.b5 Q X2 X3 X4 X p3_4 turn6_4 side7_4 t71 (t71.n : Int) x) 0)
    (Ar (IntKind.wrap .i64 (turn6_4 + 1)) fun t60 =>
    X3 t60)
def law19_LinkOrders.s7 (Q : Bool → K) (X2 : Int → K) (X3 : Int → K) (t2_7 : Bool) : K :=
  Q t2_7
def law19_LinkOrders.b3 (Q : Bool → K) (X2 : Int → K) (X3 : Int → K) (p3_3 : Addr) (turn6_3 : Int) : K :=
  Ite (decide (turn6_3 < 6))
    (LoopK (α := Int) (fun X x => law19_LinkOrders.b4 Q X2 X3 X p3_3 turn6_3 x) 0)
    (Dr <| WithS fun S =>
    law19_pair_sound.call (some p3_3) fun t105 =>
    Sv S <|
    Ite t105
      (IdxA (p3_3.add 6) 2 0 1 fun t110 =>
      IdxA (p3_3.add 4) 2 1 1 fun t116 =>
      LdS S t110 Sl.val fun t111 =>
      LdS S t116 Sl.val fun t117 =>
      Ite (decide ((t111.n : Int) = (t117.n : Int)))
        (IdxA (p3_3.add 6) 2 1 1 fun t125 =>
        IdxA (p3_3.add 4) 2 0 1 fun t131 =>
        LdS S t125 Sl.val fun t126 =>
        LdS S t131 Sl.val fun t132 =>
        Ite (decide ((t126.n : Int) = (t132.n : Int)))
          (IdxA p3_3 2 0 1 fun t140 =>
          LdS S t140 Value.pointer fun t141 =>
          link_Link_Open.call t141 fun t142 =>
          Sv S <|
          Ite (decide (t142 = 0))
            (IdxA p3_3 2 1 1 fun t149 =>
            LdS S t149 Value.pointer fun t150 =>
            link_Link_Open.call t150 fun t151 =>
            law19_LinkOrders.s7 Q X2 X3 (decide (t151 = 0)))
            (law19_LinkOrders.s7 Q X2 X3 false))
          (law19_LinkOrders.s7 Q X2 X3 false))
        (law19_LinkOrders.s7 Q X2 X3 false))
      (law19_LinkOrders.s7 Q X2 X3 false))
def law19_LinkOrders.b2 (Q : Bool → K)  (X2 : Int → K) (p3_2 : Addr) (t36_2 : Sl) (t37_2 : Int) (t38_2 : Int) : K :=
  Ite (decide (t38_2 < t37_2))
    (Idx t36_2 t38_2 4 fun t40 =>
    LdN t40 4 fun t41 =>
    New 74 #[(.int .i64 0), (.int .i64 0), (.int .i64 0), (Sl.val ⟨none, 0, 0⟩)] fun s5 =>
    StN s5 4 t41 <|
    Ld (s5.add 3) Sl.val fun t43 =>
    Ite (decide ((500 : Int) < (t43.n : Int)))
      (Q true)
      (LdN s5 4 fun t47 =>
      law19_pair_step.call (some p3_2) t47 <|
      law19_pair_sound.call (some p3_2) fun t50 =>
      Ite (!t50)
        (Q false)
        (Ar (IntKind.wrap .i64 (t38_2 + 1)) fun t52 =>
        X2 t52)))
    (Pu Try.prog (Instr.build 69 [].toArray) Value.agg fun t54 =>
    StN (p3_2.add 2) 2 t54 <|
    LoopK (α := Int) (fun X x => law19_LinkOrders.b3 Q X2 X p3_2 x) 0)
def law19_LinkOrders.s1 (Q : Bool → K)  (script0_1 : Sl) (p3_1 : Addr) (t35_1 : Bool) : K :=
  Ite t35_1
    (Q false)
    (LoopK (α := Int) (fun X x => law19_LinkOrders.b2 Q X p3_1 script0_1 (script0_1.n : Int) x) 0)
def law19_LinkOrders (script0 : Sl) (Q : Bool → K) : K :=
  law19_speaks.call  fun t12 =>
  Ite (!t12)
    (Q false)
    (Ite (decide ((200 : Int) < (script0.n : Int)))
      (Q true)
      (link_New.call 3 fun t17 =>
      link_New.call 5 fun t18 =>
      Pu Try.prog (Instr.build 68 [(0, (.pointer t17)), (1, (.pointer t18))].toArray) Value.agg fun t19 =>
      Bld #[(.pointer none), (.pointer none), (Sl.val ⟨none, 0, 0⟩), (Sl.val ⟨none, 0, 0⟩), (Sl.val ⟨none, 0, 0⟩), (Sl.val ⟨none, 0, 0⟩), (Sl.val ⟨none, 0, 0⟩), (Sl.val ⟨none, 0, 0⟩)] ([(0, 2), (2, 2), (4, 2), (6, 2)][·]?) [(0, (.agg t19))] fun t20 =>
      New 72 t20 fun t21 =>
      IdxA t21 2 0 1 fun t25 =>
      Ld t25 Value.pointer fun t26 =>
      Ite ((t26).isNone)
        (law19_LinkOrders.s1 Q script0 t21 true)
        (IdxA t21 2 1 1 fun t32 =>
        Ld t32 Value.pointer fun t33 =>
        law19_LinkOrders.s1 Q script0 t21 ((t33).isNone))))
theorem law19_LinkOrders_ok (script0 : Sl) (Q : Bool → K) (w : World) (h : law19_LinkOrders script0 Q w) : law19_LinkOrders.call script0 Q w := by
  unfold law19_LinkOrders.call CallF
  refine f_start (args := [(Sl.val script0)]) Try.func8 rfl (Nat.le_of_ble_eq_true rfl) ?_
  intro a hs
  unfold law19_LinkOrders at h
  refine wp_seq_k fun K1 hK1 => ?_
  refine wp_region_lit ?_
  refine t_pure hs rfl rfl (by decide) (p_assign rfl rfl) ?_
  clear hs a
  intro a hs
  refine hK1 _ _ ?_
  refine wp_seq_k fun K2 hK2 => ?_
  refine wp_seq_k fun K3 hK3 => ?_
  refine wp_region_lit ?_
  refine t_call hs rfl rfl (by decide) (e_call rfl rfl rfl cb_28) h ?_
  clear hs a h
  intro v a w hk hs
  obtain ⟨t12, rfl, h⟩ := hk
  refine t_pure hs rfl rfl (by decide) (p_not rfl rfl) ?_
  clear hs a
  intro a hs
  refine hK3 _ _ ?_
  refine c_cond hs rfl (fun hb => ?_) (fun hb => ?_)
  · replace h := h.1 hb
    clear hb
    refine wp_seq_k fun K4 hK4 => ?_
    refine wp_region_lit ?_
    refine t_pure hs rfl rfl (by decide) (p_assign rfl rfl) ?_
    clear hs a
    intro a hs
    refine hK4 _ _ ?_
    refine wp_ret ?_
    refine f_ret (fn := Try.f8) hs (fun a hs => r_one hs rfl (rfl)) ⟨false, rfl, h⟩
  · replace h := h.2 hb
    clear hb
    refine wp_skip ?_
    refine hK2 _ _ ?_
    refine wp_seq_k fun K5 hK5 => ?_
    refine wp_seq_k fun K6 hK6 => ?_
    refine wp_region_lit ?_
    refine t_pure hs rfl rfl (by decide) (p_move rfl rfl) ?_
    clear hs a
    intro a hs
    refine t_pure hs rfl rfl (by decide) (p_len rfl rfl sl_66) ?_
    clear hs a
    intro a hs
    refine t_pure hs rfl rfl (by decide) (p_gt rfl rfl rfl) ?_
    clear hs a
    intro a hs
    refine hK6 _ _ ?_
    refine c_cond hs rfl (fun hb => ?_) (fun hb => ?_)
    · replace h := h.1 hb
      clear hb
      refine wp_seq_k fun K7 hK7 => ?_
      refine wp_region_lit ?_
      refine t_pure hs rfl rfl (by decide) (p_assign rfl rfl) ?_
      clear hs a
      intro a hs
      refine hK7 _ _ ?_
      refine wp_ret ?_
      refine f_ret (fn := Try.f8) hs (fun a hs => r_one hs rfl (rfl)) ⟨true, rfl, h⟩
    · replace h := h.2 hb
      clear hb
      refine wp_skip ?_
      refine hK5 _ _ ?_
      refine wp_seq_k fun K8 hK8 => ?_
      refine wp_region_lit ?_
      refine t_call hs rfl rfl (by decide) (e_call rfl rfl rfl cb_29) h ?_
      clear hs a h
      intro v a w hk hs
      obtain ⟨t17, rfl, h⟩ := hk
      refine t_call hs rfl rfl (by decide) (e_call rfl rfl rfl cb_29) h ?_
      clear hs a h
      intro v a w hk hs
      obtain ⟨t18, rfl, h⟩ := hk
      obtain ⟨t19, hd, h⟩ := h
      refine t_pure hs rfl rfl (by decide) (p_sem (fun w => e_buildg rfl rfl (hd w))) ?_
      clear hs a hd
      intro a hs
      obtain ⟨t20, hb, h⟩ := h
      refine t_pure hs rfl rfl (by decide) (e_build rfl zt_72 pl_72 rfl hb) ?_
      clear hs a hb
      intro a hs
      obtain ⟨t21, w1, ha, hw, h⟩ := h
      refine t_eff hs rfl rfl (by decide) (e_box rfl rfl rfl ha hw) ?_
      clear hs a ha hw
      intro a hs
      refine t_pure hs rfl rfl (by decide) (p_assign rfl rfl) ?_
      clear hs a
      intro a hs
      refine hK8 _ _ ?_
      refine wp_seq_k fun K9 hK9 => ?_
      refine wp_seq_k fun K10 hK10 => ?_
      have J1 : ∀ (t35_1 : Bool) (a : Act) (w : World), Slots a 154 [(0, (Sl.val script0)), (3, (.pointer (some t21))), (35, (.bool t35_1))] → law19_LinkOrders.s1 Q script0 t21 t35_1 w → K10 a w := by
        clear h hs
        intro t35_1 a w hs h
        refine hK10 _ _ ?_
        unfold law19_LinkOrders.s1 at h
        refine c_cond hs rfl (fun hb => ?_) (fun hb => ?_)
        · replace h := h.1 hb
          clear hb
          refine wp_seq_k fun K11 hK11 => ?_
          refine wp_region_lit ?_
          refine t_pure hs rfl rfl (by decide) (p_assign rfl rfl) ?_
          clear hs a
          intro a hs
          refine hK11 _ _ ?_
          refine wp_ret ?_
          refine f_ret (fn := Try.f8) hs (fun a hs => r_one hs rfl (rfl)) ⟨false, rfl, h⟩
        · replace h := h.2 hb
          clear hb
          refine wp_skip ?_
          refine hK9 _ _ ?_
          refine wp_seq_k fun K12 hK12 => ?_
          refine wp_seq_k fun K13 hK13 => ?_
          refine wp_region_lit ?_
          refine t_pure hs rfl rfl (by decide) (p_move rfl rfl) ?_
          clear hs a
          intro a hs
          refine t_pure hs rfl rfl (by decide) (p_len rfl rfl sl_66) ?_
          clear hs a
          intro a hs
          refine t_pure hs rfl rfl (by decide) (p_move rfl rfl) ?_
          clear hs a
          intro a hs
          refine hK13 _ _ ?_
          refine wp_block ?_
          obtain ⟨I2, μ2, h0, hr⟩ := h
          refine c_loop (α := Int) I2 μ2 (fun x a => Slots a 154 [(3, (.pointer (some t21))), (36, (Sl.val script0)), (37, (.int .i64 (script0.n : Int))), (38, (.int .i64 x))]) 0 h0 (hs.to ⟨rfl, rfl, rfl, rfl, trivial⟩) ?_
          clear h0 hs a
          intro t38_2 a w hI hs
          have h : law19_LinkOrders.b2 Q (fun t38_2n w' => I2 t38_2n w' ∧ μ2 t38_2n w' < μ2 t38_2 w) t21 script0 (script0.n : Int) t38_2 w := hr t38_2 w hI
          clear hr hI
          generalize hX2 : (fun t38_2n w' => I2 t38_2n w' ∧ μ2 t38_2n w' < μ2 t38_2 w) = X2 at h
          unfold law19_LinkOrders.b2 at h
          replace hs : Slots a 154 [(3, (.pointer (some t21))), (36, (Sl.val script0)), (37, (.int .i64 (script0.n : Int))), (38, (.int .i64 t38_2))] := hs
          refine wp_seq_k fun K14 hK14 => ?_
          refine wp_region_lit ?_
          refine t_pure hs rfl rfl (by decide) (p_lt rfl rfl rfl) ?_
          clear hs a
          intro a hs
          refine hK14 _ _ ?_
          refine wp_seq_k fun K15 hK15 => ?_
          refine c_cond hs rfl (fun hb => ?_) (fun hb => ?_)
          · replace h := h.1 hb
            clear hb
            refine wp_skip ?_
            refine hK15 _ _ ?_
            refine wp_seq_k fun K16 hK16 => ?_
            refine wp_block ?_
            refine wp_seq_k fun K17 hK17 => ?_
            refine wp_region_lit ?_
            obtain ⟨qt40, t40, ha, h0, h1, he, h⟩ := h
            refine t_pure hs rfl rfl (by decide) (Pure.adr he (p_idx rfl rfl rfl sl_66 ha h0 h1)) ?_
            clear hs a ha h0 h1 he
            intro a hs
            obtain ⟨t41, hn, hv, h⟩ := h
            refine t_eff hs rfl rfl (by decide) (e_loadN rfl rfl at_74 hn hv) ?_
            clear hs a hn hv
            intro a hs
            obtain ⟨s5, w1, ha, hw, h⟩ := h
            refine t_eff hs rfl rfl (by decide) (e_alloc rfl zt_74 rfl ha hw) ?_
            clear hs a ha hw
            intro a hs
            obtain ⟨w1, hw, hn, hc, hv, h⟩ := h
            refine t_skip hs rfl rfl (e_storeN rfl rfl rfl sz_74 hw hn hc hv) ?_
            clear hs a hw hn hc hv
            intro a hs
            refine hK17 _ _ ?_
            refine wp_seq_k fun K18 hK18 => ?_
            refine wp_seq_k fun K19 hK19 => ?_
            refine wp_region_lit ?_
            refine t_pure hs rfl rfl (by decide) (p_fieldAddr rfl rfl ft_74_3) ?_
            clear hs a
            intro a hs
            obtain ⟨t43, hv, h⟩ := h
            refine t_eff hs rfl rfl (by decide) (e_load rfl rfl ct_22 hv) ?_
            clear hs a hv
            intro a hs
            refine t_pure hs rfl rfl (by decide) (p_len rfl rfl sl_22) ?_
            clear hs a
            intro a hs
            refine t_pure hs rfl rfl (by decide) (p_gt rfl rfl rfl) ?_
            clear hs a
            intro a hs
            refine hK19 _ _ ?_
            refine c_cond hs rfl (fun hb => ?_) (fun hb => ?_)
            · replace h := h.1 hb
              clear hb
              refine wp_seq_k fun K20 hK20 => ?_
              refine wp_region_lit ?_
              refine t_pure hs rfl rfl (by decide) (p_assign rfl rfl) ?_
              clear hs a
              intro a hs
              refine hK20 _ _ ?_
              refine wp_ret ?_
              refine f_ret (fn := Try.f8) hs (fun a hs => r_one hs rfl (rfl)) ⟨true, rfl, h⟩
            · replace h := h.2 hb
              clear hb
              refine wp_skip ?_
              refine hK18 _ _ ?_
              refine wp_seq_k fun K21 hK21 => ?_
              refine wp_region_lit ?_
              refine t_pure hs rfl rfl (by decide) (p_move rfl rfl) ?_
              clear hs a
              intro a hs
              obtain ⟨t47, hn, hv, h⟩ := h
              refine t_eff hs rfl rfl (by decide) (e_loadN rfl rfl at_74 hn hv) ?_
              clear hs a hn hv
              intro a hs
              refine t_call hs rfl rfl (by decide) (e_call rfl rfl rfl cb_34) h ?_
              clear hs a h
              intro v a w hk hs
              obtain ⟨rfl, h⟩ := hk
              refine hK21 _ _ ?_
              refine wp_seq_k fun K22 hK22 => ?_
              refine wp_region_lit ?_
              refine t_pure hs rfl rfl (by decide) (p_move rfl rfl) ?_
              clear hs a
              intro a hs
              refine t_call hs rfl rfl (by decide) (e_call rfl rfl rfl cb_35) h ?_
              clear hs a h
              intro v a w hk hs
              obtain ⟨t50, rfl, h⟩ := hk
              refine t_pure hs rfl rfl (by decide) (p_not rfl rfl) ?_
              clear hs a
              intro a hs
              refine hK22 _ _ ?_
              refine c_cond hs rfl (fun hb => ?_) (fun hb => ?_)
              · replace h := h.1 hb
                clear hb
                refine wp_seq_k fun K23 hK23 => ?_
                refine wp_region_lit ?_
                refine t_pure hs rfl rfl (by decide) (p_assign rfl rfl) ?_
                clear hs a
                intro a hs
                refine hK23 _ _ ?_
                refine wp_ret ?_
                refine f_ret (fn := Try.f8) hs (fun a hs => r_one hs rfl (rfl)) ⟨false, rfl, h⟩
              · replace h := h.2 hb
                clear hb
                refine wp_skip ?_
                refine hK16 _ _ ?_
                refine wp_region_lit ?_
                obtain ⟨t52, he, h⟩ := h
                refine t_pure hs rfl rfl (by decide) (Pure.int he (p_add rfl rfl rfl)) ?_
                clear hs a he
                intro a hs
                refine t_pure hs rfl rfl (by decide) (p_move rfl rfl) ?_
                clear hs a
                intro a hs
                rw [← hX2] at h
                exact ⟨t52, hs.to ⟨rfl, rfl, rfl, rfl, trivial⟩, h⟩
          · replace h := h.2 hb
            clear hb
            refine wp_exit ?_
            refine hK12 _ _ ?_
            refine wp_seq_k fun K24 hK24 => ?_
            refine wp_region_lit ?_
            refine t_pure hs rfl rfl (by decide) (p_move rfl rfl) ?_
            clear hs a
            intro a hs
            obtain ⟨t54, hd, h⟩ := h
            refine t_pure hs rfl rfl (by decide) (p_sem (fun w => e_buildg rfl rfl (hd w))) ?_
            clear hs a hd
            intro a hs
            refine t_pure hs rfl rfl (by decide) (p_nil rfl rfl) ?_
            clear hs a
            intro a hs
            refine t_pure hs rfl rfl (by decide) (p_fieldAddr rfl rfl ft_72_1) ?_
            clear hs a
            intro a hs
            obtain ⟨w1, hw, hn, hc, hv, h⟩ := h
            refine t_skip hs rfl rfl (e_storeN rfl rfl rfl sz_69 hw hn hc hv) ?_
            clear hs a hw hn hc hv
            intro a hs
            refine hK24 _ _ ?_
            refine wp_seq_k fun K25 hK25 => ?_
            refine wp_seq_k fun K26 hK26 => ?_
            refine wp_region_lit ?_
            refine t_pure hs rfl rfl (by decide) (p_assign rfl rfl) ?_
            clear hs a
            intro a hs
            refine hK26 _ _ ?_
            refine wp_block ?_
            obtain ⟨I3, μ3, h0, hr⟩ := h
            refine c_loop (α := Int) I3 μ3 (fun x a => Slots a 154 [(3, (.pointer (some t21))), (6, (.int .i64 x))]) 0 h0 (hs.to ⟨rfl, rfl, trivial⟩) ?_
            clear h0 hs a
            intro turn6_3 a w hI hs
            have h : law19_LinkOrders.b3 Q X2 (fun turn6_3n w' => I3 turn6_3n w' ∧ μ3 turn6_3n w' < μ3 turn6_3 w) t21 turn6_3 w := hr turn6_3 w hI
            clear hr hI
            generalize hX3 : (fun turn6_3n w' => I3 turn6_3n w' ∧ μ3 turn6_3n w' < μ3 turn6_3 w) = X3 at h
            unfold law19_LinkOrders.b3 at h
            replace hs : Slots a 154 [(3, (.pointer (some t21))), (6, (.int .i64 turn6_3))] := hs
            refine wp_seq_k fun K27 hK27 => ?_
            refine wp_seq_k fun K28 hK28 => ?_
            refine wp_region_lit ?_
            refine t_pure hs rfl rfl (by decide) (p_move rfl rfl) ?_
            clear hs a
            intro a hs
            refine t_pure hs rfl rfl (by decide) (p_lt rfl rfl rfl) ?_
            clear hs a
            intro a hs
            refine hK28 _ _ ?_
            refine c_cond hs rfl (fun hb => ?_) (fun hb => ?_)
            · replace h := h.1 hb
              clear hb
              refine wp_skip ?_
              refine hK27 _ _ ?_
              refine wp_seq_k fun K29 hK29 => ?_
              refine wp_block ?_
              refine wp_seq_k fun K30 hK30 => ?_
              refine wp_region_lit ?_
              refine t_pure hs rfl rfl (by decide) (p_assign rfl rfl) ?_
              clear hs a
              intro a hs
              refine hK30 _ _ ?_
              refine wp_block ?_
              obtain ⟨I4, μ4, h0, hr⟩ := h
              refine c_loop (α := Int) I4 μ4 (fun x a => Slots a 154 [(3, (.pointer (some t21))), (6, (.int .i64 turn6_3)), (7, (.int .i64 x))]) 0 h0 (hs.to ⟨rfl, rfl, rfl, trivial⟩) ?_
              clear h0 hs a
              intro side7_4 a w hI hs
              have h : law19_LinkOrders.b4 Q X2 X3 (fun side7_4n w' => I4 side7_4n w' ∧ μ4 side7_4n w' < μ4 side7_4 w) t21 turn6_3 side7_4 w := hr side7_4 w hI
              clear hr hI
              generalize hX4 : (fun side7_4n w' => I4 side7_4n w' ∧ μ4 side7_4n w' < μ4 side7_4 w) = X4 at h
              unfold law19_LinkOrders.b4 at h
              replace hs : Slots a 154 [(3, (.pointer (some t21))), (6, (.int .i64 turn6_3)), (7, (.int .i64 side7_4))] := hs
              refine wp_seq_k fun K31 hK31 => ?_
              refine wp_seq_k fun K32 hK32 => ?_
              refine wp_region_lit ?_
              refine t_pure hs rfl rfl (by decide) (p_move rfl rfl) ?_
              clear hs a
              intro a hs
              refine t_pure hs rfl rfl (by decide) (p_lt rfl rfl rfl) ?_
              clear hs a
              intro a hs
              refine hK32 _ _ ?_
              refine c_cond hs rfl (fun hb => ?_) (fun hb => ?_)
              · replace h := h.1 hb
                clear hb
                refine wp_skip ?_
                refine hK31 _ _ ?_
                refine wp_seq_k fun K33 hK33 => ?_
                refine wp_block ?_
                refine wp_seq_k fun K34 hK34 => ?_
                refine wp_seq_k fun K35 hK35 => ?_
                refine wp_region_lit ?_
                refine t_pure hs rfl rfl (by decide) (p_move rfl rfl) ?_
                clear hs a
                intro a hs
                refine t_pure hs rfl rfl (by decide) (p_move rfl rfl) ?_
                clear hs a
                intro a hs
                refine t_pure hs rfl rfl (by decide) (p_nil rfl rfl) ?_
                clear hs a
                intro a hs
                refine t_pure hs rfl rfl (by decide) (p_fieldAddr0 rfl rfl ft_72_0) ?_
                clear hs a
                intro a hs
                obtain ⟨t69, h0, h1, he, h⟩ := h
                refine t_pure hs rfl rfl (by decide) (Pure.adr he (p_idxA rfl rfl rfl ar_68 h0 h1)) ?_
                clear hs a h0 h1 he
                intro a hs
                obtain ⟨t70, hv, h⟩ := h
                refine t_eff hs rfl rfl (by decide) (e_load rfl rfl ct_57 hv) ?_
                clear hs a hv
                intro a hs
                refine t_call hs rfl rfl (by decide) (e_call rfl rfl rfl cb_32) h ?_
                clear hs a h
                intro v a w hk hs
                obtain ⟨t71, rfl, h⟩ := hk
                refine t_pure hs rfl rfl (by decide) (p_len rfl rfl sl_60) ?_
                clear hs a
                intro a hs
                replace hs := hs.to (τ := [(3, (.pointer (some t21))), (6, (.int .i64 turn6_3)), (7, (.int .i64 side7_4)), (71, (Sl.val t71)), (72, (.int .i64 (t71.n : Int)))]) ⟨rfl, rfl, rfl, rfl, rfl, trivial⟩
                refine t_pure hs rfl rfl (by decide) (p_move rfl rfl) ?_
                clear hs a
                intro a hs
                refine hK35 _ _ ?_
                refine wp_block ?_
                obtain ⟨I5, μ5, h0, hr⟩ := h
                refine c_loop (α := Int) I5 μ5 (fun x a => Slots a 154 [(3, (.pointer (some t21))), (6, (.int .i64 turn6_3)), (7, (.int .i64 side7_4)), (71, (Sl.val t71)), (72, (.int .i64 (t71.n : Int))), (73, (.int .i64 x))]) 0 h0 (hs.to ⟨rfl, rfl, rfl, rfl, rfl, rfl, trivial⟩) ?_
                clear h0 hs a
                intro t73_5 a w hI hs
                have h : law19_LinkOrders.b5 Q X2 X3 X4 (fun t73_5n w' => I5 t73_5n w' ∧ μ5 t73_5n w' < μ5 t73_5 w) t21 turn6_3 side7_4 t71 (t71.n : Int) t73_5 w := hr t73_5 w hI
                clear hr hI
                generalize hX5 : (fun t73_5n w' => I5 t73_5n w' ∧ μ5 t73_5n w' < μ5 t73_5 w) = X5 at h
                unfold law19_LinkOrders.b5 at h
                replace hs : Slots a 154 [(3, (.pointer (some t21))), (6, (.int .i64 turn6_3)), (7, (.int .i64 side7_4)), (71, (Sl.val t71)), (72, (.int .i64 (t71.n : Int))), (73, (.int .i64 t73_5))] := hs
                refine wp_seq_k fun K36 hK36 => ?_
                refine wp_region_lit ?_
                refine t_pure hs rfl rfl (by decide) (p_lt rfl rfl rfl) ?_
                clear hs a
                intro a hs
                refine hK36 _ _ ?_
                refine wp_seq_k fun K37 hK37 => ?_
                refine c_cond hs rfl (fun hb => ?_) (fun hb => ?_)
                · replace h := h.1 hb
                  clear hb
                  refine wp_skip ?_
                  refine hK37 _ _ ?_
                  refine wp_seq_k fun K38 hK38 => ?_
                  refine wp_block ?_
                  refine wp_seq_k fun K39 hK39 => ?_
                  refine wp_region_lit ?_
                  obtain ⟨qt75, t75, ha, h0, h1, he, h⟩ := h
                  refine t_pure hs rfl rfl (by decide) (Pure.adr he (p_idx rfl rfl rfl sl_60 ha h0 h1)) ?_
                  clear hs a ha h0 h1 he
                  intro a hs
                  obtain ⟨t76, hn, hv, h⟩ := h
                  refine t_eff hs rfl rfl (by decide) (e_loadN rfl rfl at_36 hn hv) ?_
                  clear hs a hn hv
                  intro a hs
                  obtain ⟨x9, w1, ha, hw, h⟩ := h
                  refine t_eff hs rfl rfl (by decide) (e_alloc rfl zt_36 rfl ha hw) ?_
                  clear hs a ha hw
                  intro a hs
                  obtain ⟨w1, hw, hn, hc, hv, h⟩ := h
                  refine t_skip hs rfl rfl (e_storeN rfl rfl rfl sz_36 hw hn hc hv) ?_
                  clear hs a hw hn hc hv
                  intro a hs
                  refine hK39 _ _ ?_
                  refine wp_region_lit ?_
                  refine t_pure hs rfl rfl (by decide) (p_move rfl rfl) ?_
                  clear hs a
                  intro a hs
                  refine t_pure hs rfl rfl (by decide) (p_move rfl rfl) ?_
                  clear hs a
                  intro a hs
                  obtain ⟨t79, he, h⟩ := h
                  refine t_pure hs rfl rfl (by decide) (Pure.int he (p_sub rfl rfl rfl)) ?_
                  clear hs a he
                  intro a hs
                  obtain ⟨t80, hn, hv, h⟩ := h
                  refine t_eff hs rfl rfl (by decide) (e_loadN rfl rfl at_36 hn hv) ?_
                  clear hs a hn hv
                  intro a hs
                  refine t_call hs rfl rfl (by decide) (e_call rfl rfl rfl cb_36) h ?_
                  clear hs a h
                  intro v a w hk hs
                  obtain ⟨rfl, h⟩ := hk
                  refine hK38 _ _ ?_
                  refine wp_region_lit ?_
                  obtain ⟨t82, he, h⟩ := h
                  refine t_pure hs rfl rfl (by decide) (Pure.int he (p_add rfl rfl rfl)) ?_
                  clear hs a he
                  intro a hs
                  refine t_pure hs rfl rfl (by decide) (p_move rfl rfl) ?_
                  clear hs a
                  intro a hs
                  rw [← hX5] at h
                  exact ⟨t82, hs.to ⟨rfl, rfl, rfl, rfl, rfl, rfl, trivial⟩, h⟩
                · replace h := h.2 hb
                  clear hb
                  refine wp_exit ?_
                  refine hK34 _ _ ?_
                  refine wp_seq_k fun K40 hK40 => ?_
                  refine wp_seq_k fun K41 hK41 => ?_
                  refine wp_region_lit ?_
                  refine t_pure hs rfl rfl (by decide) (p_move rfl rfl) ?_
                  clear hs a
                  intro a hs
                  refine t_pure hs rfl rfl (by decide) (p_move rfl rfl) ?_
                  clear hs a
                  intro a hs
                  refine t_pure hs rfl rfl (by decide) (p_nil rfl rfl) ?_
                  clear hs a
                  intro a hs
                  refine t_pure hs rfl rfl (by decide) (p_fieldAddr rfl rfl ft_72_1) ?_
                  clear hs a
                  intro a hs
                  obtain ⟨t87, h0, h1, he, h⟩ := h
                  refine t_pure hs rfl rfl (by decide) (Pure.adr he (p_idxA rfl rfl rfl ar_69 h0 h1)) ?_
                  clear hs a h0 h1 he
                  intro a hs
                  obtain ⟨t88, hv, h⟩ := h
                  refine t_eff hs rfl rfl (by decide) (e_load rfl rfl ct_60 hv) ?_
                  clear hs a hv
                  intro a hs
                  refine t_pure hs rfl rfl (by decide) (p_len rfl rfl sl_60) ?_
                  clear hs a
                  intro a hs
                  refine t_pure hs rfl rfl (by decide) (p_move rfl rfl) ?_
                  clear hs a
                  intro a hs
                  refine hK41 _ _ ?_
                  refine wp_block ?_
                  obtain ⟨I6, μ6, h0, hr⟩ := h
                  refine c_loop (α := Int) I6 μ6 (fun x a => Slots a 154 [(3, (.pointer (some t21))), (6, (.int .i64 turn6_3)), (7, (.int .i64 side7_4)), (88, (Sl.val t88)), (89, (.int .i64 (t88.n : Int))), (90, (.int .i64 x))]) 0 h0 (hs.to ⟨rfl, rfl, rfl, rfl, rfl, rfl, trivial⟩) ?_
                  clear h0 hs a
                  intro t90_6 a w hI hs
                  have h : law19_LinkOrders.b6 Q X2 X3 X4 X5 (fun t90_6n w' => I6 t90_6n w' ∧ μ6 t90_6n w' < μ6 t90_6 w) t21 turn6_3 side7_4 t88 (t88.n : Int) t90_6 w := hr t90_6 w hI
                  clear hr hI
                  generalize hX6 : (fun t90_6n w' => I6 t90_6n w' ∧ μ6 t90_6n w' < μ6 t90_6 w) = X6 at h
                  unfold law19_LinkOrders.b6 at h
                  replace hs : Slots a 154 [(3, (.pointer (some t21))), (6, (.int .i64 turn6_3)), (7, (.int .i64 side7_4)), (88, (Sl.val t88)), (89, (.int .i64 (t88.n : Int))), (90, (.int .i64 t90_6))] := hs
                  refine wp_seq_k fun K42 hK42 => ?_
                  refine wp_region_lit ?_
                  refine t_pure hs rfl rfl (by decide) (p_lt rfl rfl rfl) ?_
                  clear hs a
                  intro a hs
                  refine hK42 _ _ ?_
                  refine wp_seq_k fun K43 hK43 => ?_
                  refine c_cond hs rfl (fun hb => ?_) (fun hb => ?_)
                  · replace h := h.1 hb
                    clear hb
                    refine wp_skip ?_
                    refine hK43 _ _ ?_
                    refine wp_seq_k fun K44 hK44 => ?_
                    refine wp_block ?_
                    refine wp_seq_k fun K45 hK45 => ?_
                    refine wp_region_lit ?_
                    obtain ⟨qt92, t92, ha, h0, h1, he, h⟩ := h
                    refine t_pure hs rfl rfl (by decide) (Pure.adr he (p_idx rfl rfl rfl sl_60 ha h0 h1)) ?_
                    clear hs a ha h0 h1 he
                    intro a hs
                    obtain ⟨t93, hn, hv, h⟩ := h
                    refine t_eff hs rfl rfl (by decide) (e_loadN rfl rfl at_36 hn hv) ?_
                    clear hs a hn hv
                    intro a hs
                    obtain ⟨x11, w1, ha, hw, h⟩ := h
                    refine t_eff hs rfl rfl (by decide) (e_alloc rfl zt_36 rfl ha hw) ?_
                    clear hs a ha hw
                    intro a hs
                    obtain ⟨w1, hw, hn, hc, hv, h⟩ := h
                    refine t_skip hs rfl rfl (e_storeN rfl rfl rfl sz_36 hw hn hc hv) ?_
                    clear hs a hw hn hc hv
                    intro a hs
                    refine hK45 _ _ ?_
                    refine wp_region_lit ?_
                    refine t_pure hs rfl rfl (by decide) (p_move rfl rfl) ?_
                    clear hs a
                    intro a hs
                    refine t_pure hs rfl rfl (by decide) (p_move rfl rfl) ?_
                    clear hs a
                    intro a hs
                    obtain ⟨t96, hn, hv, h⟩ := h
                    refine t_eff hs rfl rfl (by decide) (e_loadN rfl rfl at_36 hn hv) ?_
                    clear hs a hn hv
                    intro a hs
                    refine t_call hs rfl rfl (by decide) (e_call rfl rfl rfl cb_36) h ?_
                    clear hs a h
                    intro v a w hk hs
                    obtain ⟨rfl, h⟩ := hk
                    refine hK44 _ _ ?_
                    refine wp_region_lit ?_
                    obtain ⟨t98, he, h⟩ := h
                    refine t_pure hs rfl rfl (by decide) (Pure.int he (p_add rfl rfl rfl)) ?_
                    clear hs a he
                    intro a hs
                    refine t_pure hs rfl rfl (by decide) (p_move rfl rfl) ?_
                    clear hs a
                    intro a hs
                    rw [← hX6] at h
                    exact ⟨t98, hs.to ⟨rfl, rfl, rfl, rfl, rfl, rfl, trivial⟩, h⟩
                  · replace h := h.2 hb
                    clear hb
                    refine wp_exit ?_
                    refine hK40 _ _ ?_
                    refine wp_region_lit ?_
                    refine t_pure hs rfl rfl (by decide) (p_move rfl rfl) ?_
                    clear hs a
                    intro a hs
                    refine t_pure hs rfl rfl (by decide) (p_move rfl rfl) ?_
                    clear hs a
                    intro a hs
                    refine t_pure hs rfl rfl (by decide) (p_nil rfl rfl) ?_
                    clear hs a
                    intro a hs
                    refine t_pure hs rfl rfl (by decide) (p_fieldAddr rfl rfl ft_72_1) ?_
                    clear hs a
                    intro a hs
                    obtain ⟨t103, h0, h1, he, h⟩ := h
                    refine t_pure hs rfl rfl (by decide) (Pure.adr he (p_idxA rfl rfl rfl ar_69 h0 h1)) ?_
                    clear hs a h0 h1 he
                    intro a hs
                    obtain ⟨w1, hw, hc, hf, hv, h⟩ := h
                    refine t_skip hs rfl rfl (e_store rfl rfl rfl sz_60 hw hc hf hv) ?_
                    clear hs a hw hc hf hv
                    intro a hs
                    refine hK33 _ _ ?_
                    refine wp_region_lit ?_
                    refine t_pure hs rfl rfl (by decide) (p_move rfl rfl) ?_
                    clear hs a
                    intro a hs
                    obtain ⟨t64, he, h⟩ := h
                    refine t_pure hs rfl rfl (by decide) (Pure.int he (p_add rfl rfl rfl)) ?_
                    clear hs a he
                    intro a hs
                    refine t_pure hs rfl rfl (by decide) (p_assign rfl rfl) ?_
                    clear hs a
                    intro a hs
                    rw [← hX4] at h
                    exact ⟨t64, hs.to ⟨rfl, rfl, rfl, trivial⟩, h⟩
              · replace h := h.2 hb
                clear hb
                refine wp_exit ?_
                refine hK29 _ _ ?_
                refine wp_region_lit ?_
                refine t_pure hs rfl rfl (by decide) (p_move rfl rfl) ?_
                clear hs a
                intro a hs
                obtain ⟨t60, he, h⟩ := h
                refine t_pure hs rfl rfl (by decide) (Pure.int he (p_add rfl rfl rfl)) ?_
                clear hs a he
                intro a hs
                refine t_pure hs rfl rfl (by decide) (p_assign rfl rfl) ?_
                clear hs a
                intro a hs
                rw [← hX3] at h
                exact ⟨t60, hs.to ⟨rfl, rfl, trivial⟩, h⟩
            · replace h := h.2 hb
              clear hb
              refine wp_exit ?_
              refine hK25 _ _ ?_
              refine wp_seq_k fun K46 hK46 => ?_
              have J7 : ∀ (t2_7 : Bool) (a : Act) (w : World), Slots a 154 [(2, (.bool t2_7))] → law19_LinkOrders.s7 Q X2 X3 t2_7 w → K46 a w := by
                clear h hs
                intro t2_7 a w hs h
                refine hK46 _ _ ?_
                unfold law19_LinkOrders.s7 at h
                refine wp_ret ?_
                refine f_ret (fn := Try.f8) hs (fun a hs => r_one hs rfl (rfl)) ⟨t2_7, rfl, h⟩
              clear hK46
              obtain ⟨w1, hw1, h⟩ := h
              obtain ⟨S, hS, h⟩ := h
              subst hw1
              refine d_start (S := S) (ds := [47]) #[false, false, false, false, false, false, false, false, false, false, false, false, false, false, false, false, false, false, false, false, false, false, false, false, false, false, false, false, false, false, false, false, false, false, false, false, false, false, false, false, false, false, false, false, false, false, false, false, false, false, false] mixed rfl rfl ?_
              refine d_pure hs #[true, false, false, false, false, false, false, false, false, false, false, false, false, false, false, false, false, false, false, false, false, false, false, false, false, false, false, false, false, false, false, false, false, false, false, false, false, false, false, false, false, false, false, false, false, false, false, false, false, false, false] (i := 0) rfl rfl rfl (by decide) (by kernel_rfl) (tight_body (P := Try.prog) (fn := Try.f8)) (p_move rfl rfl) ?_
              clear hs a
              intro a hs
              refine d_all [1] (by kernel_rfl) (by decide) ?_
              refine AllS.cons ?_ AllS.nil
              refine d_call hs #[true, true, false, false, false, false, false, false, false, false, false, false, false, false, false, false, false, false, false, false, false, false, false, false, false, false, false, false, false, false, false, false, false, false, false, false, false, false, false, false, false, false, false, false, false, false, false, false, false, false, false] (i := 1) rfl rfl rfl (by decide) rfl (e_call rfl rfl rfl cb_35) h (fun v w'' hk => by obtain ⟨t105, _, hS, _⟩ := hk; exact fun _ _ => hS) ?_
              clear hs a h
              intro v a w hk hs
              obtain ⟨t105, rfl, h⟩ := hk
              obtain ⟨hS, h⟩ := h
              refine d_pure hs #[true, true, true, false, false, false, false, false, false, false, false, false, false, false, false, false, false, false, false, false, false, false, false, false, false, false, false, false, false, false, false, false, false, false, false, false, false, false, false, false, false, false, false, false, false, false, false, false, false, false, false] (i := 2) rfl rfl rfl (by decide) (by kernel_rfl) (tight_body (P := Try.prog) (fn := Try.f8)) (p_move rfl rfl) ?_
              clear hs a
              intro a hs
              refine split_bool t105 (fun hb => ?_) (fun hb => ?_)
              · replace h := h.1 hb
                rw [hb] at hs
                clear hb
                refine d_pure hs #[true, true, true, true, false, false, false, false, false, false, false, false, false, false, false, false, false, false, false, false, false, false, false, false, false, false, false, false, false, false, false, false, false, false, false, false, false, false, false, false, false, false, false, false, false, false, false, false, false, false, false] (i := 3) rfl rfl rfl (by decide) (by kernel_rfl) (tight_body (P := Try.prog) (fn := Try.f8)) (p_move rfl rfl) ?_
                clear hs a
                intro a hs
                refine d_pure hs #[true, true, true, true, true, false, false, false, false, false, false, false, false, false, false, false, false, false, false, false, false, false, false, false, false, false, false, false, false, false, false, false, false, false, false, false, false, false, false, false, false, false, false, false, false, false, false, false, false, false, false] (i := 4) rfl rfl rfl (by decide) (by kernel_rfl) (tight_body (P := Try.prog) (fn := Try.f8)) (p_nil rfl rfl) ?_
                clear hs a
                intro a hs
                refine d_pure hs #[true, true, true, true, true, true, false, false, false, false, false, false, false, false, false, false, false, false, false, false, false, false, false, false, false, false, false, false, false, false, false, false, false, false, false, false, false, false, false, false, false, false, false, false, false, false, false, false, false, false, false] (i := 5) rfl rfl rfl (by decide) (by kernel_rfl) (tight_body (P := Try.prog) (fn := Try.f8)) (p_fieldAddr rfl rfl ft_72_3) ?_
                clear hs a
                intro a hs
                obtain ⟨t110, h0, h1, he, h⟩ := h
                refine d_pure hs #[true, true, true, true, true, true, true, false, false, false, false, false, false, false, false, false, false, false, false, false, false, false, false, false, false, false, false, false, false, false, false, false, false, false, false, false, false, false, false, false, false, false, false, false, false, false, false, false, false, false, false] (i := 6) rfl rfl rfl (by decide) (by kernel_rfl) (tight_body (P := Try.prog) (fn := Try.f8)) (Pure.adr he (p_idxA rfl rfl rfl ar_70 h0 h1)) ?_
                clear hs a h0 h1 he
                intro a hs
                refine d_pure hs #[true, true, true, true, true, true, true, false, false, true, false, false, false, false, false, false, false, false, false, false, false, false, false, false, false, false, false, false, false, false, false, false, false, false, false, false, false, false, false, false, false, false, false, false, false, false, false, false, false, false, false] (i := 9) rfl rfl rfl (by decide) (by kernel_rfl) (tight_body (P := Try.prog) (fn := Try.f8)) (p_move rfl rfl) ?_
                clear hs a
                intro a hs
                replace hs := hs.to (τ := [(3, (.pointer (some t21))), (106, (.bool true)), (110, (.pointer (some t110))), (113, (.pointer (some t21)))]) ⟨rfl, rfl, rfl, rfl, trivial⟩
                refine d_pure hs #[true, true, true, true, true, true, true, false, false, true, true, false, false, false, false, false, false, false, false, false, false, false, false, false, false, false, false, false, false, false, false, false, false, false, false, false, false, false, false, false, false, false, false, false, false, false, false, false, false, false, false] (i := 10) rfl rfl rfl (by decide) (by kernel_rfl) (tight_body (P := Try.prog) (fn := Try.f8)) (p_nil rfl rfl) ?_
                clear hs a
                intro a hs
                refine d_pure hs #[true, true, true, true, true, true, true, false, false, true, true, true, false, false, false, false, false, false, false, false, false, false, false, false, false, false, false, false, false, false, false, false, false, false, false, false, false, false, false, false, false, false, false, false, false, false, false, false, false, false, false] (i := 11) rfl rfl rfl (by decide) (by kernel_rfl) (tight_body (P := Try.prog) (fn := Try.f8)) (p_fieldAddr rfl rfl ft_72_2) ?_
                clear hs a
                intro a hs
                obtain ⟨t116, h0, h1, he, h⟩ := h
                refine d_pure hs #[true, true, true, true, true, true, true, false, false, true, true, true, true, false, false, false, false, false, false, false, false, false, false, false, false, false, false, false, false, false, false, false, false, false, false, false, false, false, false, false, false, false, false, false, false, false, false, false, false, false, false] (i := 12) rfl rfl rfl (by decide) (by kernel_rfl) (tight_body (P := Try.prog) (fn := Try.f8)) (Pure.adr he (p_idxA rfl rfl rfl ar_70 h0 h1)) ?_
                clear hs a h0 h1 he
                intro a hs
                obtain ⟨t111, hv, h⟩ := h
                refine d_read hs #[true, true, true, true, true, true, true, true, false, true, true, true, true, false, false, false, false, false, false, false, false, false, false, false, false, false, false, false, false, false, false, false, false, false, false, false, false, false, false, false, false, false, false, false, false, false, false, false, false, false, false] (i := 7) rfl rfl rfl (by decide) (by kernel_rfl) (by kernel_rfl) (tight_body (P := Try.prog) (fn := Try.f8)) hS (fun w h' => e_load rfl rfl ct_56 (hv w h')) ?_
                clear hs a hv
                intro a hs
                refine d_pure hs #[true, true, true, true, true, true, true, true, true, true, true, true, true, false, false, false, false, false, false, false, false, false, false, false, false, false, false, false, false, false, false, false, false, false, false, false, false, false, false, false, false, false, false, false, false, false, false, false, false, false, false] (i := 8) rfl rfl rfl (by decide) (by kernel_rfl) (tight_body (P := Try.prog) (fn := Try.f8)) (p_len rfl rfl sl_56) ?_
                clear hs a
                intro a hs
                obtain ⟨t117, hv, h⟩ := h
                refine d_read hs #[true, true, true, true, true, true, true, true, true, true, true, true, true, true, false, false, false, false, false, false, false, false, false, false, false, false, false, false, false, false, false, false, false, false, false, false, false, false, false, false, false, false, false, false, false, false, false, false, false, false, false] (i := 13) rfl rfl rfl (by decide) (by kernel_rfl) (by kernel_rfl) (tight_body (P := Try.prog) (fn := Try.f8)) hS (fun w h' => e_load rfl rfl ct_56 (hv w h')) ?_
                clear hs a hv
                intro a hs
                refine d_pure hs #[true, true, true, true, true, true, true, true, true, true, true, true, true, true, true, false, false, false, false, false, false, false, false, false, false, false, false, false, false, false, false, false, false, false, false, false, false, false, false, false, false, false, false, false, false, false, false, false, false, false, false] (i := 14) rfl rfl rfl (by decide) (by kernel_rfl) (tight_body (P := Try.prog) (fn := Try.f8)) (p_len rfl rfl sl_56) ?_
                clear hs a
                intro a hs
                refine d_pure hs #[true, true, true, true, true, true, true, true, true, true, true, true, true, true, true, true, false, false, false, false, false, false, false, false, false, false, false, false, false, false, false, false, false, false, false, false, false, false, false, false, false, false, false, false, false, false, false, false, false, false, false] (i := 15) rfl rfl rfl (by decide) (by kernel_rfl) (tight_body (P := Try.prog) (fn := Try.f8)) (p_eq rfl rfl rfl) ?_
                clear hs a
                intro a hs
                replace hs := hs.to (τ := [(3, (.pointer (some t21))), (106, (.bool true)), (119, (.bool (decide ((t111.n : Int) = (t117.n : Int)))))]) ⟨rfl, rfl, rfl, trivial⟩
                refine d_pure hs #[true, true, true, true, true, true, true, true, true, true, true, true, true, true, true, true, true, false, false, false, false, false, false, false, false, false, false, false, false, false, false, false, false, false, false, false, false, false, false, false, false, false, false, false, false, false, false, false, false, false, false] (i := 16) rfl rfl rfl (by decide) (by kernel_rfl) (tight_body (P := Try.prog) (fn := Try.f8)) (p_pick_t rfl rfl rfl) ?_
                clear hs a
                intro a hs
                refine d_pure hs #[true, true, true, true, true, true, true, true, true, true, true, true, true, true, true, true, true, true, false, false, false, false, false, false, false, false, false, false, false, false, false, false, false, false, false, false, false, false, false, false, false, false, false, false, false, false, false, false, false, false, false] (i := 17) rfl rfl rfl (by decide) (by kernel_rfl) (tight_body (P := Try.prog) (fn := Try.f8)) (p_move rfl rfl) ?_
                clear hs a
                intro a hs
                refine split_bool (decide ((t111.n : Int) = (t117.n : Int))) (fun hb => ?_) (fun hb => ?_)
                · replace h := h.1 hb
                  rw [hb] at hs
                  clear hb
                  refine d_pure hs #[true, true, true, true, true, true, true, true, true, true, true, true, true, true, true, true, true, true, true, false, false, false, false, false, false, false, false, false, false, false, false, false, false, false, false, false, false, false, false, false, false, false, false, false, false, false, false, false, false, false, false] (i := 18) rfl rfl rfl (by decide) (by kernel_rfl) (tight_body (P := Try.prog) (fn := Try.f8)) (p_move rfl rfl) ?_
                  clear hs a
                  intro a hs
                  refine d_pure hs #[true, true, true, true, true, true, true, true, true, true, true, true, true, true, true, true, true, true, true, true, false, false, false, false, false, false, false, false, false, false, false, false, false, false, false, false, false, false, false, false, false, false, false, false, false, false, false, false, false, false, false] (i := 19) rfl rfl rfl (by decide) (by kernel_rfl) (tight_body (P := Try.prog) (fn := Try.f8)) (p_nil rfl rfl) ?_
                  clear hs a
                  intro a hs
                  refine d_pure hs #[true, true, true, true, true, true, true, true, true, true, true, true, true, true, true, true, true, true, true, true, true, false, false, false, false, false, false, false, false, false, false, false, false, false, false, false, false, false, false, false, false, false, false, false, false, false, false, false, false, false, false] (i := 20) rfl rfl rfl (by decide) (by kernel_rfl) (tight_body (P := Try.prog) (fn := Try.f8)) (p_fieldAddr rfl rfl ft_72_3) ?_
                  clear hs a
                  intro a hs
                  obtain ⟨t125, h0, h1, he, h⟩ := h
                  refine d_pure hs #[true, true, true, true, true, true, true, true, true, true, true, true, true, true, true, true, true, true, true, true, true, true, false, false, false, false, false, false, false, false, false, false, false, false, false, false, false, false, false, false, false, false, false, false, false, false, false, false, false, false, false] (i := 21) rfl rfl rfl (by decide) (by kernel_rfl) (tight_body (P := Try.prog) (fn := Try.f8)) (Pure.adr he (p_idxA rfl rfl rfl ar_70 h0 h1)) ?_
                  clear hs a h0 h1 he
                  intro a hs
                  refine d_pure hs #[true, true, true, true, true, true, true, true, true, true, true, true, true, true, true, true, true, true, true, true, true, true, false, false, true, false, false, false, false, false, false, false, false, false, false, false, false, false, false, false, false, false, false, false, false, false, false, false, false, false, false] (i := 24) rfl rfl rfl (by decide) (by kernel_rfl) (tight_body (P := Try.prog) (fn := Try.f8)) (p_move rfl rfl) ?_
                  clear hs a
                  intro a hs
                  refine d_pure hs #[true, true, true, true, true, true, true, true, true, true, true, true, true, true, true, true, true, true, true, true, true, true, false, false, true, true, false, false, false, false, false, false, false, false, false, false, false, false, false, false, false, false, false, false, false, false, false, false, false, false, false] (i := 25) rfl rfl rfl (by decide) (by kernel_rfl) (tight_body (P := Try.prog) (fn := Try.f8)) (p_nil rfl rfl) ?_
                  clear hs a
                  intro a hs
                  replace hs := hs.to (τ := [(3, (.pointer (some t21))), (121, (.bool true)), (125, (.pointer (some t125))), (129, (.pointer (some t21)))]) ⟨rfl, rfl, rfl, rfl, trivial⟩
                  refine d_pure hs #[true, true, true, true, true, true, true, true, true, true, true, true, true, true, true, true, true, true, true, true, true, true, false, false, true, true, true, false, false, false, false, false, false, false, false, false, false, false, false, false, false, false, false, false, false, false, false, false, false, false, false] (i := 26) rfl rfl rfl (by decide) (by kernel_rfl) (tight_body (P := Try.prog) (fn := Try.f8)) (p_fieldAddr rfl rfl ft_72_2) ?_
                  clear hs a
                  intro a hs
                  obtain ⟨t131, h0, h1, he, h⟩ := h
                  refine d_pure hs #[true, true, true, true, true, true, true, true, true, true, true, true, true, true, true, true, true, true, true, true, true, true, false, false, true, true, true, true, false, false, false, false, false, false, false, false, false, false, false, false, false, false, false, false, false, false, false, false, false, false, false] (i := 27) rfl rfl rfl (by decide) (by kernel_rfl) (tight_body (P := Try.prog) (fn := Try.f8)) (Pure.adr he (p_idxA rfl rfl rfl ar_70 h0 h1)) ?_
                  clear hs a h0 h1 he
                  intro a hs
                  obtain ⟨t126, hv, h⟩ := h
                  refine d_read hs #[true, true, true, true, true, true, true, true, true, true, true, true, true, true, true, true, true, true, true, true, true, true, true, false, true, true, true, true, false, false, false, false, false, false, false, false, false, false, false, false, false, false, false, false, false, false, false, false, false, false, false] (i := 22) rfl rfl rfl (by decide) (by kernel_rfl) (by kernel_rfl) (tight_body (P := Try.prog) (fn := Try.f8)) hS (fun w h' => e_load rfl rfl ct_56 (hv w h')) ?_
                  clear hs a hv
                  intro a hs
                  refine d_pure hs #[true, true, true, true, true, true, true, true, true, true, true, true, true, true, true, true, true, true, true, true, true, true, true, true, true, true, true, true, false, false, false, false, false, false, false, false, false, false, false, false, false, false, false, false, false, false, false, false, false, false, false] (i := 23) rfl rfl rfl (by decide) (by kernel_rfl) (tight_body (P := Try.prog) (fn := Try.f8)) (p_len rfl rfl sl_56) ?_
                  clear hs a
                  intro a hs
                  obtain ⟨t132, hv, h⟩ := h
                  refine d_read hs #[true, true, true, true, true, true, true, true, true, true, true, true, true, true, true, true, true, true, true, true, true, true, true, true, true, true, true, true, true, false, false, false, false, false, false, false, false, false, false, false, false, false, false, false, false, false, false, false, false, false, false] (i := 28) rfl rfl rfl (by decide) (by kernel_rfl) (by kernel_rfl) (tight_body (P := Try.prog) (fn := Try.f8)) hS (fun w h' => e_load rfl rfl ct_56 (hv w h')) ?_
                  clear hs a hv
                  intro a hs
                  refine d_pure hs #[true, true, true, true, true, true, true, true, true, true, true, true, true, true, true, true, true, true, true, true, true, true, true, true, true, true, true, true, true, true, false, false, false, false, false, false, false, false, false, false, false, false, false, false, false, false, false, false, false, false, false] (i := 29) rfl rfl rfl (by decide) (by kernel_rfl) (tight_body (P := Try.prog) (fn := Try.f8)) (p_len rfl rfl sl_56) ?_
                  clear hs a
                  intro a hs
                  refine d_pure hs #[true, true, true, true, true, true, true, true, true, true, true, true, true, true, true, true, true, true, true, true, true, true, true, true, true, true, true, true, true, true, true, false, false, false, false, false, false, false, false, false, false, false, false, false, false, false, false, false, false, false, false] (i := 30) rfl rfl rfl (by decide) (by kernel_rfl) (tight_body (P := Try.prog) (fn := Try.f8)) (p_eq rfl rfl rfl) ?_
                  clear hs a
                  intro a hs
                  refine d_pure hs #[true, true, true, true, true, true, true, true, true, true, true, true, true, true, true, true, true, true, true, true, true, true, true, true, true, true, true, true, true, true, true, true, false, false, false, false, false, false, false, false, false, false, false, false, false, false, false, false, false, false, false] (i := 31) rfl rfl rfl (by decide) (by kernel_rfl) (tight_body (P := Try.prog) (fn := Try.f8)) (p_pick_t rfl rfl rfl) ?_
                  clear hs a
                  intro a hs
                  replace hs := hs.to (τ := [(3, (.pointer (some t21))), (135, (.bool (decide ((t126.n : Int) = (t132.n : Int)))))]) ⟨rfl, rfl, trivial⟩
                  refine d_pure hs #[true, true, true, true, true, true, true, true, true, true, true, true, true, true, true, true, true, true, true, true, true, true, true, true, true, true, true, true, true, true, true, true, true, false, false, false, false, false, false, false, false, false, false, false, false, false, false, false, false, false, false] (i := 32) rfl rfl rfl (by decide) (by kernel_rfl) (tight_body (P := Try.prog) (fn := Try.f8)) (p_move rfl rfl) ?_
                  clear hs a
                  intro a hs
                  refine split_bool (decide ((t126.n : Int) = (t132.n : Int))) (fun hb => ?_) (fun hb => ?_)
                  · replace h := h.1 hb
                    rw [hb] at hs
                    clear hb
                    refine d_pure hs #[true, true, true, true, true, true, true, true, true, true, true, true, true, true, true, true, true, true, true, true, true, true, true, true, true, true, true, true, true, true, true, true, true, true, false, false, false, false, false, false, false, false, false, false, false, false, false, false, false, false, false] (i := 33) rfl rfl rfl (by decide) (by kernel_rfl) (tight_body (P := Try.prog) (fn := Try.f8)) (p_move rfl rfl) ?_
                    clear hs a
                    intro a hs
                    refine d_pure hs #[true, true, true, true, true, true, true, true, true, true, true, true, true, true, true, true, true, true, true, true, true, true, true, true, true, true, true, true, true, true, true, true, true, true, true, false, false, false, false, false, false, false, false, false, false, false, false, false, false, false, false] (i := 34) rfl rfl rfl (by decide) (by kernel_rfl) (tight_body (P := Try.prog) (fn := Try.f8)) (p_nil rfl rfl) ?_
                    clear hs a
                    intro a hs
                    refine d_pure hs #[true, true, true, true, true, true, true, true, true, true, true, true, true, true, true, true, true, true, true, true, true, true, true, true, true, true, true, true, true, true, true, true, true, true, true, true, false, false, false, false, false, false, false, false, false, false, false, false, false, false, false] (i := 35) rfl rfl rfl (by decide) (by kernel_rfl) (tight_body (P := Try.prog) (fn := Try.f8)) (p_fieldAddr0 rfl rfl ft_72_0) ?_
                    clear hs a
                    intro a hs
                    obtain ⟨t140, h0, h1, he, h⟩ := h
                    refine d_pure hs #[true, true, true, true, true, true, true, true, true, true, true, true, true, true, true, true, true, true, true, true, true, true, true, true, true, true, true, true, true, true, true, true, true, true, true, true, true, false, false, false, false, false, false, false, false, false, false, false, false, false, false] (i := 36) rfl rfl rfl (by decide) (by kernel_rfl) (tight_body (P := Try.prog) (fn := Try.f8)) (Pure.adr he (p_idxA rfl rfl rfl ar_68 h0 h1)) ?_
                    clear hs a h0 h1 he
                    intro a hs
                    obtain ⟨t141, hv, h⟩ := h
                    refine d_read hs #[true, true, true, true, true, true, true, true, true, true, true, true, true, true, true, true, true, true, true, true, true, true, true, true, true, true, true, true, true, true, true, true, true, true, true, true, true, true, false, false, false, false, false, false, false, false, false, false, false, false, false] (i := 37) rfl rfl rfl (by decide) (by kernel_rfl) (by kernel_rfl) (tight_body (P := Try.prog) (fn := Try.f8)) hS (fun w h' => e_load rfl rfl ct_57 (hv w h')) ?_
                    clear hs a hv
                    intro a hs
                    refine d_all [38] (by kernel_rfl) (by decide) ?_
                    refine AllS.cons ?_ AllS.nil
                    refine d_call hs #[true, true, true, true, true, true, true, true, true, true, true, true, true, true, true, true, true, true, true, true, true, true, true, true, true, true, true, true, true, true, true, true, true, true, true, true, true, true, true, false, false, false, false, false, false, false, false, false, false, false, false] (i := 38) rfl rfl rfl (by decide) rfl (e_call rfl rfl rfl cb_37) h (fun v w'' hk => by obtain ⟨t142, _, hS, _⟩ := hk; exact fun _ _ => hS) ?_
                    clear hs a h
                    intro v a w hk hs
                    obtain ⟨t142, rfl, h⟩ := hk
                    obtain ⟨hS, h⟩ := h
                    refine d_pure hs #[true, true, true, true, true, true, true, true, true, true, true, true, true, true, true, true, true, true, true, true, true, true, true, true, true, true, true, true, true, true, true, true, true, true, true, true, true, true, true, true, false, false, false, false, false, false, false, false, false, false, false] (i := 39) rfl rfl rfl (by decide) (by kernel_rfl) (tight_body (P := Try.prog) (fn := Try.f8)) (p_eq rfl rfl rfl) ?_
                    clear hs a
                    intro a hs
                    replace hs := hs.to (τ := [(3, (.pointer (some t21))), (136, (.bool true)), (143, (.bool (decide (t142 = 0))))]) ⟨rfl, rfl, rfl, trivial⟩
                    refine d_pure hs #[true, true, true, true, true, true, true, true, true, true, true, true, true, true, true, true, true, true, true, true, true, true, true, true, true, true, true, true, true, true, true, true, true, true, true, true, true, true, true, true, true, false, false, false, false, false, false, false, false, false, false] (i := 40) rfl rfl rfl (by decide) (by kernel_rfl) (tight_body (P := Try.prog) (fn := Try.f8)) (p_pick_t rfl rfl rfl) ?_
                    clear hs a
                    intro a hs
                    refine d_pure hs #[true, true, true, true, true, true, true, true, true, true, true, true, true, true, true, true, true, true, true, true, true, true, true, true, true, true, true, true, true, true, true, true, true, true, true, true, true, true, true, true, true, true, false, false, false, false, false, false, false, false, false] (i := 41) rfl rfl rfl (by decide) (by kernel_rfl) (tight_body (P := Try.prog) (fn := Try.f8)) (p_move rfl rfl) ?_
                    clear hs a
                    intro a hs
                    refine split_bool (decide (t142 = 0)) (fun hb => ?_) (fun hb => ?_)
                    · replace h := h.1 hb
                      rw [hb] at hs
                      clear hb
                      refine d_pure hs #[true, true, true, true, true, true, true, true, true, true, true, true, true, true, true, true, true, true, true, true, true, true, true, true, true, true, true, true, true, true, true, true, true, true, true, true, true, true, true, true, true, true, true, false, false, false, false, false, false, false, false] (i := 42) rfl rfl rfl (by decide) (by kernel_rfl) (tight_body (P := Try.prog) (fn := Try.f8)) (p_move rfl rfl) ?_
                      clear hs a
                      intro a hs
                      refine d_pure hs #[true, true, true, true, true, true, true, true, true, true, true, true, true, true, true, true, true, true, true, true, true, true, true, true, true, true, true, true, true, true, true, true, true, true, true, true, true, true, true, true, true, true, true, true, false, false, false, false, false, false, false] (i := 43) rfl rfl rfl (by decide) (by kernel_rfl) (tight_body (P := Try.prog) (fn := Try.f8)) (p_nil rfl rfl) ?_
                      clear hs a
                      intro a hs
                      refine d_pure hs #[true, true, true, true, true, true, true, true, true, true, true, true, true, true, true, true, true, true, true, true, true, true, true, true, true, true, true, true, true, true, true, true, true, true, true, true, true, true, true, true, true, true, true, true, true, false, false, false, false, false, false] (i := 44) rfl rfl rfl (by decide) (by kernel_rfl) (tight_body (P := Try.prog) (fn := Try.f8)) (p_fieldAddr0 rfl rfl ft_72_0) ?_
                      clear hs a
                      intro a hs
                      obtain ⟨t149, h0, h1, he, h⟩ := h
                      refine d_pure hs #[true, true, true, true, true, true, true, true, true, true, true, true, true, true, true, true, true, true, true, true, true, true, true, true, true, true, true, true, true, true, true, true, true, true, true, true, true, true, true, true, true, true, true, true, true, true, false, false, false, false, false] (i := 45) rfl rfl rfl (by decide) (by kernel_rfl) (tight_body (P := Try.prog) (fn := Try.f8)) (Pure.adr he (p_idxA rfl rfl rfl ar_68 h0 h1)) ?_
                      clear hs a h0 h1 he
                      intro a hs
                      obtain ⟨t150, hv, h⟩ := h
                      refine d_read hs #[true, true, true, true, true, true, true, true, true, true, true, true, true, true, true, true, true, true, true, true, true, true, true, true, true, true, true, true, true, true, true, true, true, true, true, true, true, true, true, true, true, true, true, true, true, true, true, false, false, false, false] (i := 46) rfl rfl rfl (by decide) (by kernel_rfl) (by kernel_rfl) (tight_body (P := Try.prog) (fn := Try.f8)) hS (fun w h' => e_load rfl rfl ct_57 (hv w h')) ?_
                      clear hs a hv
                      intro a hs
                      refine d_all [47] (by kernel_rfl) (by decide) ?_
                      refine AllS.cons ?_ AllS.nil
                      refine d_call hs #[true, true, true, true, true, true, true, true, true, true, true, true, true, true, true, true, true, true, true, true, true, true, true, true, true, true, true, true, true, true, true, true, true, true, true, true, true, true, true, true, true, true, true, true, true, true, true, true, false, false, false] (i := 47) rfl rfl rfl (by decide) rfl (e_call rfl rfl rfl cb_37) h (fun _ _ _ hn => (hn (by decide)).elim) ?_
                      clear hs a h
                      intro v a w hk hs
                      obtain ⟨t151, rfl, h⟩ := hk
                      replace hs := hs.to (τ := [(145, (.bool true)), (151, (.int .i64 t151))]) ⟨rfl, rfl, trivial⟩
                      refine d_pure hs #[true, true, true, true, true, true, true, true, true, true, true, true, true, true, true, true, true, true, true, true, true, true, true, true, true, true, true, true, true, true, true, true, true, true, true, true, true, true, true, true, true, true, true, true, true, true, true, true, true, false, false] (i := 48) rfl rfl rfl (by decide) (by kernel_rfl) (tight_body (P := Try.prog) (fn := Try.f8)) (p_eq rfl rfl rfl) ?_
                      clear hs a
                      intro a hs
                      refine d_pure hs #[true, true, true, true, true, true, true, true, true, true, true, true, true, true, true, true, true, true, true, true, true, true, true, true, true, true, true, true, true, true, true, true, true, true, true, true, true, true, true, true, true, true, true, true, true, true, true, true, true, true, false] (i := 49) rfl rfl rfl (by decide) (by kernel_rfl) (tight_body (P := Try.prog) (fn := Try.f8)) (p_pick_t rfl rfl rfl) ?_
                      clear hs a
                      intro a hs
                      refine d_pure hs #[true, true, true, true, true, true, true, true, true, true, true, true, true, true, true, true, true, true, true, true, true, true, true, true, true, true, true, true, true, true, true, true, true, true, true, true, true, true, true, true, true, true, true, true, true, true, true, true, true, true, true] (i := 50) rfl rfl rfl (by decide) (by kernel_rfl) (tight_body (P := Try.prog) (fn := Try.f8)) (p_assign rfl rfl) ?_
                      clear hs a
                      intro a hs
                      refine d_done (by kernel_rfl) ?_ _
                      clear hS
                      exact J7 (decide (t151 = 0)) _ _ (hs.to ⟨rfl, trivial⟩) h
                    · replace h := h.2 hb
                      rw [hb] at hs
                      clear hb
                      refine d_no hs #[true, true, true, true, true, true, true, true, true, true, true, true, true, true, true, true, true, true, true, true, true, true, true, true, true, true, true, true, true, true, true, true, true, true, true, true, true, true, true, true, true, true, true, false, false, false, false, false, false, false, false] (i := 42) rfl rfl rfl (by decide) (by kernel_rfl) (tight_body (P := Try.prog) (fn := Try.f8)) ?_
                      clear hs a
                      intro a hs
                      refine d_no hs #[true, true, true, true, true, true, true, true, true, true, true, true, true, true, true, true, true, true, true, true, true, true, true, true, true, true, true, true, true, true, true, true, true, true, true, true, true, true, true, true, true, true, true, true, false, false, false, false, false, false, false] (i := 43) rfl rfl rfl (by decide) (by kernel_rfl) (tight_body (P := Try.prog) (fn := Try.f8)) ?_
                      clear hs a
                      intro a hs
                      refine d_no hs #[true, true, true, true, true, true, true, true, true, true, true, true, true, true, true, true, true, true, true, true, true, true, true, true, true, true, true, true, true, true, true, true, true, true, true, true, true, true, true, true, true, true, true, true, true, false, false, false, false, false, false] (i := 44) rfl rfl rfl (by decide) (by kernel_rfl) (tight_body (P := Try.prog) (fn := Try.f8)) ?_
                      clear hs a
                      intro a hs
                      refine d_no hs #[true, true, true, true, true, true, true, true, true, true, true, true, true, true, true, true, true, true, true, true, true, true, true, true, true, true, true, true, true, true, true, true, true, true, true, true, true, true, true, true, true, true, true, true, true, true, false, false, false, false, false] (i := 45) rfl rfl rfl (by decide) (by kernel_rfl) (tight_body (P := Try.prog) (fn := Try.f8)) ?_
                      clear hs a
                      intro a hs
                      refine d_no hs #[true, true, true, true, true, true, true, true, true, true, true, true, true, true, true, true, true, true, true, true, true, true, true, true, true, true, true, true, true, true, true, true, true, true, true, true, true, true, true, true, true, true, true, true, true, true, true, false, false, false, false] (i := 46) rfl rfl rfl (by decide) (by kernel_rfl) (tight_body (P := Try.prog) (fn := Try.f8)) ?_
                      clear hs a
                      intro a hs
                      refine d_no hs #[true, true, true, true, true, true, true, true, true, true, true, true, true, true, true, true, true, true, true, true, true, true, true, true, true, true, true, true, true, true, true, true, true, true, true, true, true, true, true, true, true, true, true, true, true, true, true, true, false, false, false] (i := 47) rfl rfl rfl (by decide) (by kernel_rfl) (tight_body (P := Try.prog) (fn := Try.f8)) ?_
                      clear hs a
                      intro a hs
                      replace hs := hs.to (τ := [(145, (.bool false)), (151, undef)]) ⟨rfl, rfl, trivial⟩
                      refine d_no hs #[true, true, true, true, true, true, true, true, true, true, true, true, true, true, true, true, true, true, true, true, true, true, true, true, true, true, true, true, true, true, true, true, true, true, true, true, true, true, true, true, true, true, true, true, true, true, true, true, true, false, false] (i := 48) rfl rfl rfl (by decide) (by kernel_rfl) (tight_body (P := Try.prog) (fn := Try.f8)) ?_
                      clear hs a
                      intro a hs
                      refine d_pure hs #[true, true, true, true, true, true, true, true, true, true, true, true, true, true, true, true, true, true, true, true, true, true, true, true, true, true, true, true, true, true, true, true, true, true, true, true, true, true, true, true, true, true, true, true, true, true, true, true, true, true, false] (i := 49) rfl rfl rfl (by decide) (by kernel_rfl) (tight_body (P := Try.prog) (fn := Try.f8)) (p_pick_f rfl rfl rfl) ?_
                      clear hs a
                      intro a hs
                      refine d_pure hs #[true, true, true, true, true, true, true, true, true, true, true, true, true, true, true, true, true, true, true, true, true, true, true, true, true, true, true, true, true, true, true, true, true, true, true, true, true, true, true, true, true, true, true, true, true, true, true, true, true, true, true] (i := 50) rfl rfl rfl (by decide) (by kernel_rfl) (tight_body (P := Try.prog) (fn := Try.f8)) (p_assign rfl rfl) ?_
                      clear hs a
                      intro a hs
                      refine d_done (by kernel_rfl) ?_ _
                      clear hS
                      exact J7 false _ _ (hs.to ⟨rfl, trivial⟩) h
                  · replace h := h.2 hb
                    rw [hb] at hs
                    clear hb
                    refine d_no hs #[true, true, true, true, true, true, true, true, true, true, true, true, true, true, true, true, true, true, true, true, true, true, true, true, true, true, true, true, true, true, true, true, true, true, false, false, false, false, false, false, false, false, false, false, false, false, false, false, false, false, false] (i := 33) rfl rfl rfl (by decide) (by kernel_rfl) (tight_body (P := Try.prog) (fn := Try.f8)) ?_
                    clear hs a
                    intro a hs
                    refine d_no hs #[true, true, true, true, true, true, true, true, true, true, true, true, true, true, true, true, true, true, true, true, true, true, true, true, true, true, true, true, true, true, true, true, true, true, true, false, false, false, false, false, false, false, false, false, false, false, false, false, false, false, false] (i := 34) rfl rfl rfl (by decide) (by kernel_rfl) (tight_body (P := Try.prog) (fn := Try.f8)) ?_
                    clear hs a
                    intro a hs
                    refine d_no hs #[true, true, true, true, true, true, true, true, true, true, true, true, true, true, true, true, true, true, true, true, true, true, true, true, true, true, true, true, true, true, true, true, true, true, true, true, false, false, false, false, false, false, false, false, false, false, false, false, false, false, false] (i := 35) rfl rfl rfl (by decide) (by kernel_rfl) (tight_body (P := Try.prog) (fn := Try.f8)) ?_
                    clear hs a
                    intro a hs
                    refine d_no hs #[true, true, true, true, true, true, true, true, true, true, true, true, true, true, true, true, true, true, true, true, true, true, true, true, true, true, true, true, true, true, true, true, true, true, true, true, true, false, false, false, false, false, false, false, false, false, false, false, false, false, false] (i := 36) rfl rfl rfl (by decide) (by kernel_rfl) (tight_body (P := Try.prog) (fn := Try.f8)) ?_
                    clear hs a
                    intro a hs
                    refine d_no hs #[true, true, true, true, true, true, true, true, true, true, true, true, true, true, true, true, true, true, true, true, true, true, true, true, true, true, true, true, true, true, true, true, true, true, true, true, true, true, false, false, false, false, false, false, false, false, false, false, false, false, false] (i := 37) rfl rfl rfl (by decide) (by kernel_rfl) (tight_body (P := Try.prog) (fn := Try.f8)) ?_
                    clear hs a
                    intro a hs
                    refine d_no hs #[true, true, true, true, true, true, true, true, true, true, true, true, true, true, true, true, true, true, true, true, true, true, true, true, true, true, true, true, true, true, true, true, true, true, true, true, true, true, true, false, false, false, false, false, false, false, false, false, false, false, false] (i := 38) rfl rfl rfl (by decide) (by kernel_rfl) (tight_body (P := Try.prog) (fn := Try.f8)) ?_
                    clear hs a
                    intro a hs
                    refine d_no hs #[true, true, true, true, true, true, true, true, true, true, true, true, true, true, true, true, true, true, true, true, true, true, true, true, true, true, true, true, true, true, true, true, true, true, true, true, true, true, true, true, false, false, false, false, false, false, false, false, false, false, false] (i := 39) rfl rfl rfl (by decide) (by kernel_rfl) (tight_body (P := Try.prog) (fn := Try.f8)) ?_
                    clear hs a
                    intro a hs
                    replace hs := hs.to (τ := [(3, (.pointer (some t21))), (136, (.bool false)), (143, undef)]) ⟨rfl, rfl, rfl, trivial⟩
                    refine d_pure hs #[true, true, true, true, true, true, true, true, true, true, true, true, true, true, true, true, true, true, true, true, true, true, true, true, true, true, true, true, true, true, true, true, true, true, true, true, true, true, true, true, true, false, false, false, false, false, false, false, false, false, false] (i := 40) rfl rfl rfl (by decide) (by kernel_rfl) (tight_body (P := Try.prog) (fn := Try.f8)) (p_pick_f rfl rfl rfl) ?_
                    clear hs a
                    intro a hs
                    refine d_pure hs #[true, true, true, true, true, true, true, true, true, true, true, true, true, true, true, true, true, true, true, true, true, true, true, true, true, true, true, true, true, true, true, true, true, true, true, true, true, true, true, true, true, true, false, false, false, false, false, false, false, false, false] (i := 41) rfl rfl rfl (by decide) (by kernel_rfl) (tight_body (P := Try.prog) (fn := Try.f8)) (p_move rfl rfl) ?_
                    clear hs a
                    intro a hs
                    refine d_no hs #[true, true, true, true, true, true, true, true, true, true, true, true, true, true, true, true, true, true, true, true, true, true, true, true, true, true, true, true, true, true, true, true, true, true, true, true, true, true, true, true, true, true, true, false, false, false, false, false, false, false, false] (i := 42) rfl rfl rfl (by decide) (by kernel_rfl) (tight_body (P := Try.prog) (fn := Try.f8)) ?_
                    clear hs a
                    intro a hs
                    refine d_no hs #[true, true, true, true, true, true, true, true, true, true, true, true, true, true, true, true, true, true, true, true, true, true, true, true, true, true, true, true, true, true, true, true, true, true, true, true, true, true, true, true, true, true, true, true, false, false, false, false, false, false, false] (i := 43) rfl rfl rfl (by decide) (by kernel_rfl) (tight_body (P := Try.prog) (fn := Try.f8)) ?_
                    clear hs a
                    intro a hs
                    refine d_no hs #[true, true, true, true, true, true, true, true, true, true, true, true, true, true, true, true, true, true, true, true, true, true, true, true, true, true, true, true, true, true, true, true, true, true, true, true, true, true, true, true, true, true, true, true, true, false, false, false, false, false, false] (i := 44) rfl rfl rfl (by decide) (by kernel_rfl) (tight_body (P := Try.prog) (fn := Try.f8)) ?_
                    clear hs a
                    intro a hs
                    refine d_no hs #[true, true, true, true, true, true, true, true, true, true, true, true, true, true, true, true, true, true, true, true, true, true, true, true, true, true, true, true, true, true, true, true, true, true, true, true, true, true, true, true, true, true, true, true, true, true, false, false, false, false, false] (i := 45) rfl rfl rfl (by decide) (by kernel_rfl) (tight_body (P := Try.prog) (fn := Try.f8)) ?_
                    clear hs a
                    intro a hs
                    refine d_no hs #[true, true, true, true, true, true, true, true, true, true, true, true, true, true, true, true, true, true, true, true, true, true, true, true, true, true, true, true, true, true, true, true, true, true, true, true, true, true, true, true, true, true, true, true, true, true, true, false, false, false, false] (i := 46) rfl rfl rfl (by decide) (by kernel_rfl) (tight_body (P := Try.prog) (fn := Try.f8)) ?_
                    clear hs a
                    intro a hs
                    refine d_no hs #[true, true, true, true, true, true, true, true, true, true, true, true, true, true, true, true, true, true, true, true, true, true, true, true, true, true, true, true, true, true, true, true, true, true, true, true, true, true, true, true, true, true, true, true, true, true, true, true, false, false, false] (i := 47) rfl rfl rfl (by decide) (by kernel_rfl) (tight_body (P := Try.prog) (fn := Try.f8)) ?_
                    clear hs a
                    intro a hs
                    replace hs := hs.to (τ := [(145, (.bool false)), (151, undef)]) ⟨rfl, rfl, trivial⟩
                    refine d_no hs #[true, true, true, true, true, true, true, true, true, true, true, true, true, true, true, true, true, true, true, true, true, true, true, true, true, true, true, true, true, true, true, true, true, true, true, true, true, true, true, true, true, true, true, true, true, true, true, true, true, false, false] (i := 48) rfl rfl rfl (by decide) (by kernel_rfl) (tight_body (P := Try.prog) (fn := Try.f8)) ?_
                    clear hs a
                    intro a hs
                    refine d_pure hs #[true, true, true, true, true, true, true, true, true, true, true, true, true, true, true, true, true, true, true, true, true, true, true, true, true, true, true, true, true, true, true, true, true, true, true, true, true, true, true, true, true, true, true, true, true, true, true, true, true, true, false] (i := 49) rfl rfl rfl (by decide) (by kernel_rfl) (tight_body (P := Try.prog) (fn := Try.f8)) (p_pick_f rfl rfl rfl) ?_
                    clear hs a
                    intro a hs
                    refine d_pure hs #[true, true, true, true, true, true, true, true, true, true, true, true, true, true, true, true, true, true, true, true, true, true, true, true, true, true, true, true, true, true, true, true, true, true, true, true, true, true, true, true, true, true, true, true, true, true, true, true, true, true, true] (i := 50) rfl rfl rfl (by decide) (by kernel_rfl) (tight_body (P := Try.prog) (fn := Try.f8)) (p_assign rfl rfl) ?_
                    clear hs a
                    intro a hs
                    refine d_done (by kernel_rfl) ?_ _
                    clear hS
                    exact J7 false _ _ (hs.to ⟨rfl, trivial⟩) h
                · replace h := h.2 hb
                  rw [hb] at hs
                  clear hb
                  refine d_no hs #[true, true, true, true, true, true, true, true, true, true, true, true, true, true, true, true, true, true, true, false, false, false, false, false, false, false, false, false, false, false, false, false, false, false, false, false, false, false, false, false, false, false, false, false, false, false, false, false, false, false, false] (i := 18) rfl rfl rfl (by decide) (by kernel_rfl) (tight_body (P := Try.prog) (fn := Try.f8)) ?_
                  clear hs a
                  intro a hs
                  refine d_no hs #[true, true, true, true, true, true, true, true, true, true, true, true, true, true, true, true, true, true, true, true, false, false, false, false, false, false, false, false, false, false, false, false, false, false, false, false, false, false, false, false, false, false, false, false, false, false, false, false, false, false, false] (i := 19) rfl rfl rfl (by decide) (by kernel_rfl) (tight_body (P := Try.prog) (fn := Try.f8)) ?_
                  clear hs a
                  intro a hs
                  refine d_no hs #[true, true, true, true, true, true, true, true, true, true, true, true, true, true, true, true, true, true, true, true, true, false, false, false, false, false, false, false, false, false, false, false, false, false, false, false, false, false, false, false, false, false, false, false, false, false, false, false, false, false, false] (i := 20) rfl rfl rfl (by decide) (by kernel_rfl) (tight_body (P := Try.prog) (fn := Try.f8)) ?_
                  clear hs a
                  intro a hs
                  refine d_no hs #[true, true, true, true, true, true, true, true, true, true, true, true, true, true, true, true, true, true, true, true, true, true, false, false, false, false, false, false, false, false, false, false, false, false, false, false, false, false, false, false, false, false, false, false, false, false, false, false, false, false, false] (i := 21) rfl rfl rfl (by decide) (by kernel_rfl) (tight_body (P := Try.prog) (fn := Try.f8)) ?_
                  clear hs a
                  intro a hs
                  refine d_no hs #[true, true, true, true, true, true, true, true, true, true, true, true, true, true, true, true, true, true, true, true, true, true, true, false, false, false, false, false, false, false, false, false, false, false, false, false, false, false, false, false, false, false, false, false, false, false, false, false, false, false, false] (i := 22) rfl rfl rfl (by decide) (by kernel_rfl) (tight_body (P := Try.prog) (fn := Try.f8)) ?_
                  clear hs a
                  intro a hs
                  refine d_no hs #[true, true, true, true, true, true, true, true, true, true, true, true, true, true, true, true, true, true, true, true, true, true, true, true, false, false, false, false, false, false, false, false, false, false, false, false, false, false, false, false, false, false, false, false, false, false, false, false, false, false, false] (i := 23) rfl rfl rfl (by decide) (by kernel_rfl) (tight_body (P := Try.prog) (fn := Try.f8)) ?_
                  clear hs a
                  intro a hs
                  replace hs := hs.to (τ := [(3, (.pointer (some t21))), (121, (.bool false)), (127, undef)]) ⟨rfl, rfl, rfl, trivial⟩
                  refine d_no hs #[true, true, true, true, true, true, true, true, true, true, true, true, true, true, true, true, true, true, true, true, true, true, true, true, true, false, false, false, false, false, false, false, false, false, false, false, false, false, false, false, false, false, false, false, false, false, false, false, false, false, false] (i := 24) rfl rfl rfl (by decide) (by kernel_rfl) (tight_body (P := Try.prog) (fn := Try.f8)) ?_
                  clear hs a
                  intro a hs
                  refine d_no hs #[true, true, true, true, true, true, true, true, true, true, true, true, true, true, true, true, true, true, true, true, true, true, true, true, true, true, false, false, false, false, false, false, false, false, false, false, false, false, false, false, false, false, false, false, false, false, false, false, false, false, false] (i := 25) rfl rfl rfl (by decide) (by kernel_rfl) (tight_body (P := Try.prog) (fn := Try.f8)) ?_
                  clear hs a
                  intro a hs
                  refine d_no hs #[true, true, true, true, true, true, true, true, true, true, true, true, true, true, true, true, true, true, true, true, true, true, true, true, true, true, true, false, false, false, false, false, false, false, false, false, false, false, false, false, false, false, false, false, false, false, false, false, false, false, false] (i := 26) rfl rfl rfl (by decide) (by kernel_rfl) (tight_body (P := Try.prog) (fn := Try.f8)) ?_
                  clear hs a
                  intro a hs
                  refine d_no hs #[true, true, true, true, true, true, true, true, true, true, true, true, true, true, true, true, true, true, true, true, true, true, true, true, true, true, true, true, false, false, false, false, false, false, false, false, false, false, false, false, false, false, false, false, false, false, false, false, false, false, false] (i := 27) rfl rfl rfl (by decide) (by kernel_rfl) (tight_body (P := Try.prog) (fn := Try.f8)) ?_
                  clear hs a
                  intro a hs
                  refine d_no hs #[true, true, true, true, true, true, true, true, true, true, true, true, true, true, true, true, true, true, true, true, true, true, true, true, true, true, true, true, true, false, false, false, false, false, false, false, false, false, false, false, false, false, false, false, false, false, false, false, false, false, false] (i := 28) rfl rfl rfl (by decide) (by kernel_rfl) (tight_body (P := Try.prog) (fn := Try.f8)) ?_
                  clear hs a
                  intro a hs
                  refine d_no hs #[true, true, true, true, true, true, true, true, true, true, true, true, true, true, true, true, true, true, true, true, true, true, true, true, true, true, true, true, true, true, false, false, false, false, false, false, false, false, false, false, false, false, false, false, false, false, false, false, false, false, false] (i := 29) rfl rfl rfl (by decide) (by kernel_rfl) (tight_body (P := Try.prog) (fn := Try.f8)) ?_
                  clear hs a
                  intro a hs
                  refine d_no hs #[true, true, true, true, true, true, true, true, true, true, true, true, true, true, true, true, true, true, true, true, true, true, true, true, true, true, true, true, true, true, true, false, false, false, false, false, false, false, false, false, false, false, false, false, false, false, false, false, false, false, false] (i := 30) rfl rfl rfl (by decide) (by kernel_rfl) (tight_body (P := Try.prog) (fn := Try.f8)) ?_
                  clear hs a
                  intro a hs
                  refine d_pure hs #[true, true, true, true, true, true, true, true, true, true, true, true, true, true, true, true, true, true, true, true, true, true, true, true, true, true, true, true, true, true, true, true, false, false, false, false, false, false, false, false, false, false, false, false, false, false, false, false, false, false, false] (i := 31) rfl rfl rfl (by decide) (by kernel_rfl) (tight_body (P := Try.prog) (fn := Try.f8)) (p_pick_f rfl rfl rfl) ?_
                  clear hs a
                  intro a hs
                  replace hs := hs.to (τ := [(3, (.pointer (some t21))), (135, (.bool false))]) ⟨rfl, rfl, trivial⟩
                  refine d_pure hs #[true, true, true, true, true, true, true, true, true, true, true, true, true, true, true, true, true, true, true, true, true, true, true, true, true, true, true, true, true, true, true, true, true, false, false, false, false, false, false, false, false, false, false, false, false, false, false, false, false, false, false] (i := 32) rfl rfl rfl (by decide) (by kernel_rfl) (tight_body (P := Try.prog) (fn := Try.f8)) (p_move rfl rfl) ?_
                  clear hs a
                  intro a hs
                  refine d_no hs #[true, true, true, true, true, true, true, true, true, true, true, true, true, true, true, true, true, true, true, true, true, true, true, true, true, true, true, true, true, true, true, true, true, true, false, false, false, false, false, false, false, false, false, false, false, false, false, false, false, false, false] (i := 33) rfl rfl rfl (by decide) (by kernel_rfl) (tight_body (P := Try.prog) (fn := Try.f8)) ?_
                  clear hs a
                  intro a hs
                  refine d_no hs #[true, true, true, true, true, true, true, true, true, true, true, true, true, true, true, true, true, true, true, true, true, true, true, true, true, true, true, true, true, true, true, true, true, true, true, false, false, false, false, false, false, false, false, false, false, false, false, false, false, false, false] (i := 34) rfl rfl rfl (by decide) (by kernel_rfl) (tight_body (P := Try.prog) (fn := Try.f8)) ?_
                  clear hs a
                  intro a hs
                  refine d_no hs #[true, true, true, true, true, true, true, true, true, true, true, true, true, true, true, true, true, true, true, true, true, true, true, true, true, true, true, true, true, true, true, true, true, true, true, true, false, false, false, false, false, false, false, false, false, false, false, false, false, false, false] (i := 35) rfl rfl rfl (by decide) (by kernel_rfl) (tight_body (P := Try.prog) (fn := Try.f8)) ?_
                  clear hs a
                  intro a hs
                  refine d_no hs #[true, true, true, true, true, true, true, true, true, true, true, true, true, true, true, true, true, true, true, true, true, true, true, true, true, true, true, true, true, true, true, true, true, true, true, true, true, false, false, false, false, false, false, false, false, false, false, false, false, false, false] (i := 36) rfl rfl rfl (by decide) (by kernel_rfl) (tight_body (P := Try.prog) (fn := Try.f8)) ?_
                  clear hs a
                  intro a hs
                  refine d_no hs #[true, true, true, true, true, true, true, true, true, true, true, true, true, true, true, true, true, true, true, true, true, true, true, true, true, true, true, true, true, true, true, true, true, true, true, true, true, true, false, false, false, false, false, false, false, false, false, false, false, false, false] (i := 37) rfl rfl rfl (by decide) (by kernel_rfl) (tight_body (P := Try.prog) (fn := Try.f8)) ?_
                  clear hs a
                  intro a hs
                  refine d_no hs #[true, true, true, true, true, true, true, true, true, true, true, true, true, true, true, true, true, true, true, true, true, true, true, true, true, true, true, true, true, true, true, true, true, true, true, true, true, true, true, false, false, false, false, false, false, false, false, false, false, false, false] (i := 38) rfl rfl rfl (by decide) (by kernel_rfl) (tight_body (P := Try.prog) (fn := Try.f8)) ?_
                  clear hs a
                  intro a hs
                  refine d_no hs #[true, true, true, true, true, true, true, true, true, true, true, true, true, true, true, true, true, true, true, true, true, true, true, true, true, true, true, true, true, true, true, true, true, true, true, true, true, true, true, true, false, false, false, false, false, false, false, false, false, false, false] (i := 39) rfl rfl rfl (by decide) (by kernel_rfl) (tight_body (P := Try.prog) (fn := Try.f8)) ?_
                  clear hs a
                  intro a hs
                  replace hs := hs.to (τ := [(3, (.pointer (some t21))), (136, (.bool false)), (143, undef)]) ⟨rfl, rfl, rfl, trivial⟩
                  refine d_pure hs #[true, true, true, true, true, true, true, true, true, true, true, true, true, true, true, true, true, true, true, true, true, true, true, true, true, true, true, true, true, true, true, true, true, true, true, true, true, true, true, true, true, false, false, false, false, false, false, false, false, false, false] (i := 40) rfl rfl rfl (by decide) (by kernel_rfl) (tight_body (P := Try.prog) (fn := Try.f8)) (p_pick_f rfl rfl rfl) ?_
                  clear hs a
                  intro a hs
                  refine d_pure hs #[true, true, true, true, true, true, true, true, true, true, true, true, true, true, true, true, true, true, true, true, true, true, true, true, true, true, true, true, true, true, true, true, true, true, true, true, true, true, true, true, true, true, false, false, false, false, false, false, false, false, false] (i := 41) rfl rfl rfl (by decide) (by kernel_rfl) (tight_body (P := Try.prog) (fn := Try.f8)) (p_move rfl rfl) ?_
                  clear hs a
                  intro a hs
                  refine d_no hs #[true, true, true, true, true, true, true, true, true, true, true, true, true, true, true, true, true, true, true, true, true, true, true, true, true, true, true, true, true, true, true, true, true, true, true, true, true, true, true, true, true, true, true, false, false, false, false, false, false, false, false] (i := 42) rfl rfl rfl (by decide) (by kernel_rfl) (tight_body (P := Try.prog) (fn := Try.f8)) ?_
                  clear hs a
                  intro a hs
                  refine d_no hs #[true, true, true, true, true, true, true, true, true, true, true, true, true, true, true, true, true, true, true, true, true, true, true, true, true, true, true, true, true, true, true, true, true, true, true, true, true, true, true, true, true, true, true, true, false, false, false, false, false, false, false] (i := 43) rfl rfl rfl (by decide) (by kernel_rfl) (tight_body (P := Try.prog) (fn := Try.f8)) ?_
                  clear hs a
                  intro a hs
                  refine d_no hs #[true, true, true, true, true, true, true, true, true, true, true, true, true, true, true, true, true, true, true, true, true, true, true, true, true, true, true, true, true, true, true, true, true, true, true, true, true, true, true, true, true, true, true, true, true, false, false, false, false, false, false] (i := 44) rfl rfl rfl (by decide) (by kernel_rfl) (tight_body (P := Try.prog) (fn := Try.f8)) ?_
                  clear hs a
                  intro a hs
                  refine d_no hs #[true, true, true, true, true, true, true, true, true, true, true, true, true, true, true, true, true, true, true, true, true, true, true, true, true, true, true, true, true, true, true, true, true, true, true, true, true, true, true, true, true, true, true, true, true, true, false, false, false, false, false] (i := 45) rfl rfl rfl (by decide) (by kernel_rfl) (tight_body (P := Try.prog) (fn := Try.f8)) ?_
                  clear hs a
                  intro a hs
                  refine d_no hs #[true, true, true, true, true, true, true, true, true, true, true, true, true, true, true, true, true, true, true, true, true, true, true, true, true, true, true, true, true, true, true, true, true, true, true, true, true, true, true, true, true, true, true, true, true, true, true, false, false, false, false] (i := 46) rfl rfl rfl (by decide) (by kernel_rfl) (tight_body (P := Try.prog) (fn := Try.f8)) ?_
                  clear hs a
                  intro a hs
                  refine d_no hs #[true, true, true, true, true, true, true, true, true, true, true, true, true, true, true, true, true, true, true, true, true, true, true, true, true, true, true, true, true, true, true, true, true, true, true, true, true, true, true, true, true, true, true, true, true, true, true, true, false, false, false] (i := 47) rfl rfl rfl (by decide) (by kernel_rfl) (tight_body (P := Try.prog) (fn := Try.f8)) ?_
                  clear hs a
                  intro a hs
                  replace hs := hs.to (τ := [(145, (.bool false)), (151, undef)]) ⟨rfl, rfl, trivial⟩
                  refine d_no hs #[true, true, true, true, true, true, true, true, true, true, true, true, true, true, true, true, true, true, true, true, true, true, true, true, true, true, true, true, true, true, true, true, true, true, true, true, true, true, true, true, true, true, true, true, true, true, true, true, true, false, false] (i := 48) rfl rfl rfl (by decide) (by kernel_rfl) (tight_body (P := Try.prog) (fn := Try.f8)) ?_
                  clear hs a
                  intro a hs
                  refine d_pure hs #[true, true, true, true, true, true, true, true, true, true, true, true, true, true, true, true, true, true, true, true, true, true, true, true, true, true, true, true, true, true, true, true, true, true, true, true, true, true, true, true, true, true, true, true, true, true, true, true, true, true, false] (i := 49) rfl rfl rfl (by decide) (by kernel_rfl) (tight_body (P := Try.prog) (fn := Try.f8)) (p_pick_f rfl rfl rfl) ?_
                  clear hs a
                  intro a hs
                  refine d_pure hs #[true, true, true, true, true, true, true, true, true, true, true, true, true, true, true, true, true, true, true, true, true, true, true, true, true, true, true, true, true, true, true, true, true, true, true, true, true, true, true, true, true, true, true, true, true, true, true, true, true, true, true] (i := 50) rfl rfl rfl (by decide) (by kernel_rfl) (tight_body (P := Try.prog) (fn := Try.f8)) (p_assign rfl rfl) ?_
                  clear hs a
                  intro a hs
                  refine d_done (by kernel_rfl) ?_ _
                  clear hS
                  exact J7 false _ _ (hs.to ⟨rfl, trivial⟩) h
              · replace h := h.2 hb
                rw [hb] at hs
                clear hb
                refine d_no hs #[true, true, true, true, false, false, false, false, false, false, false, false, false, false, false, false, false, false, false, false, false, false, false, false, false, false, false, false, false, false, false, false, false, false, false, false, false, false, false, false, false, false, false, false, false, false, false, false, false, false, false] (i := 3) rfl rfl rfl (by decide) (by kernel_rfl) (tight_body (P := Try.prog) (fn := Try.f8)) ?_
                clear hs a
                intro a hs
                refine d_no hs #[true, true, true, true, true, false, false, false, false, false, false, false, false, false, false, false, false, false, false, false, false, false, false, false, false, false, false, false, false, false, false, false, false, false, false, false, false, false, false, false, false, false, false, false, false, false, false, false, false, false, false] (i := 4) rfl rfl rfl (by decide) (by kernel_rfl) (tight_body (P := Try.prog) (fn := Try.f8)) ?_
                clear hs a
                intro a hs
                refine d_no hs #[true, true, true, true, true, true, false, false, false, false, false, false, false, false, false, false, false, false, false, false, false, false, false, false, false, false, false, false, false, false, false, false, false, false, false, false, false, false, false, false, false, false, false, false, false, false, false, false, false, false, false] (i := 5) rfl rfl rfl (by decide) (by kernel_rfl) (tight_body (P := Try.prog) (fn := Try.f8)) ?_
                clear hs a
                intro a hs
                refine d_no hs #[true, true, true, true, true, true, true, false, false, false, false, false, false, false, false, false, false, false, false, false, false, false, false, false, false, false, false, false, false, false, false, false, false, false, false, false, false, false, false, false, false, false, false, false, false, false, false, false, false, false, false] (i := 6) rfl rfl rfl (by decide) (by kernel_rfl) (tight_body (P := Try.prog) (fn := Try.f8)) ?_
                clear hs a
                intro a hs
                refine d_no hs #[true, true, true, true, true, true, true, true, false, false, false, false, false, false, false, false, false, false, false, false, false, false, false, false, false, false, false, false, false, false, false, false, false, false, false, false, false, false, false, false, false, false, false, false, false, false, false, false, false, false, false] (i := 7) rfl rfl rfl (by decide) (by kernel_rfl) (tight_body (P := Try.prog) (fn := Try.f8)) ?_
                clear hs a
                intro a hs
                replace hs := hs.to (τ := [(3, (.pointer (some t21))), (106, (.bool false)), (111, undef)]) ⟨rfl, rfl, rfl, trivial⟩
                refine d_no hs #[true, true, true, true, true, true, true, true, true, false, false, false, false, false, false, false, false, false, false, false, false, false, false, false, false, false, false, false, false, false, false, false, false, false, false, false, false, false, false, false, false, false, false, false, false, false, false, false, false, false, false] (i := 8) rfl rfl rfl (by decide) (by kernel_rfl) (tight_body (P := Try.prog) (fn := Try.f8)) ?_
                clear hs a
                intro a hs
                refine d_no hs #[true, true, true, true, true, true, true, true, true, true, false, false, false, false, false, false, false, false, false, false, false, false, false, false, false, false, false, false, false, false, false, false, false, false, false, false, false, false, false, false, false, false, false, false, false, false, false, false, false, false, false] (i := 9) rfl rfl rfl (by decide) (by kernel_rfl) (tight_body (P := Try.prog) (fn := Try.f8)) ?_
                clear hs a
                intro a hs
                refine d_no hs #[true, true, true, true, true, true, true, true, true, true, true, false, false, false, false, false, false, false, false, false, false, false, false, false, false, false, false, false, false, false, false, false, false, false, false, false, false, false, false, false, false, false, false, false, false, false, false, false, false, false, false] (i := 10) rfl rfl rfl (by decide) (by kernel_rfl) (tight_body (P := Try.prog) (fn := Try.f8)) ?_
                clear hs a
                intro a hs
                refine d_no hs #[true, true, true, true, true, true, true, true, true, true, true, true, false, false, false, false, false, false, false, false, false, false, false, false, false, false, false, false, false, false, false, false, false, false, false, false, false, false, false, false, false, false, false, false, false, false, false, false, false, false, false] (i := 11) rfl rfl rfl (by decide) (by kernel_rfl) (tight_body (P := Try.prog) (fn := Try.f8)) ?_
                clear hs a
                intro a hs
                refine d_no hs #[true, true, true, true, true, true, true, true, true, true, true, true, true, false, false, false, false, false, false, false, false, false, false, false, false, false, false, false, false, false, false, false, false, false, false, false, false, false, false, false, false, false, false, false, false, false, false, false, false, false, false] (i := 12) rfl rfl rfl (by decide) (by kernel_rfl) (tight_body (P := Try.prog) (fn := Try.f8)) ?_
                clear hs a
                intro a hs
                refine d_no hs #[true, true, true, true, true, true, true, true, true, true, true, true, true, true, false, false, false, false, false, false, false, false, false, false, false, false, false, false, false, false, false, false, false, false, false, false, false, false, false, false, false, false, false, false, false, false, false, false, false, false, false] (i := 13) rfl rfl rfl (by decide) (by kernel_rfl) (tight_body (P := Try.prog) (fn := Try.f8)) ?_
                clear hs a
                intro a hs
                refine d_no hs #[true, true, true, true, true, true, true, true, true, true, true, true, true, true, true, false, false, false, false, false, false, false, false, false, false, false, false, false, false, false, false, false, false, false, false, false, false, false, false, false, false, false, false, false, false, false, false, false, false, false, false] (i := 14) rfl rfl rfl (by decide) (by kernel_rfl) (tight_body (P := Try.prog) (fn := Try.f8)) ?_
                clear hs a
                intro a hs
                refine d_no hs #[true, true, true, true, true, true, true, true, true, true, true, true, true, true, true, true, false, false, false, false, false, false, false, false, false, false, false, false, false, false, false, false, false, false, false, false, false, false, false, false, false, false, false, false, false, false, false, false, false, false, false] (i := 15) rfl rfl rfl (by decide) (by kernel_rfl) (tight_body (P := Try.prog) (fn := Try.f8)) ?_
                clear hs a
                intro a hs
                replace hs := hs.to (τ := [(3, (.pointer (some t21))), (106, (.bool false)), (119, undef)]) ⟨rfl, rfl, rfl, trivial⟩
                refine d_pure hs #[true, true, true, true, true, true, true, true, true, true, true, true, true, true, true, true, true, false, false, false, false, false, false, false, false, false, false, false, false, false, false, false, false, false, false, false, false, false, false, false, false, false, false, false, false, false, false, false, false, false, false] (i := 16) rfl rfl rfl (by decide) (by kernel_rfl) (tight_body (P := Try.prog) (fn := Try.f8)) (p_pick_f rfl rfl rfl) ?_
                clear hs a
                intro a hs
                refine d_pure hs #[true, true, true, true, true, true, true, true, true, true, true, true, true, true, true, true, true, true, false, false, false, false, false, false, false, false, false, false, false, false, false, false, false, false, false, false, false, false, false, false, false, false, false, false, false, false, false, false, false, false, false] (i := 17) rfl rfl rfl (by decide) (by kernel_rfl) (tight_body (P := Try.prog) (fn := Try.f8)) (p_move rfl rfl) ?_
                clear hs a
                intro a hs
                refine d_no hs #[true, true, true, true, true, true, true, true, true, true, true, true, true, true, true, true, true, true, true, false, false, false, false, false, false, false, false, false, false, false, false, false, false, false, false, false, false, false, false, false, false, false, false, false, false, false, false, false, false, false, false] (i := 18) rfl rfl rfl (by decide) (by kernel_rfl) (tight_body (P := Try.prog) (fn := Try.f8)) ?_
                clear hs a
                intro a hs
                refine d_no hs #[true, true, true, true, true, true, true, true, true, true, true, true, true, true, true, true, true, true, true, true, false, false, false, false, false, false, false, false, false, false, false, false, false, false, false, false, false, false, false, false, false, false, false, false, false, false, false, false, false, false, false] (i := 19) rfl rfl rfl (by decide) (by kernel_rfl) (tight_body (P := Try.prog) (fn := Try.f8)) ?_
                clear hs a
                intro a hs
                refine d_no hs #[true, true, true, true, true, true, true, true, true, true, true, true, true, true, true, true, true, true, true, true, true, false, false, false, false, false, false, false, false, false, false, false, false, false, false, false, false, false, false, false, false, false, false, false, false, false, false, false, false, false, false] (i := 20) rfl rfl rfl (by decide) (by kernel_rfl) (tight_body (P := Try.prog) (fn := Try.f8)) ?_
                clear hs a
                intro a hs
                refine d_no hs #[true, true, true, true, true, true, true, true, true, true, true, true, true, true, true, true, true, true, true, true, true, true, false, false, false, false, false, false, false, false, false, false, false, false, false, false, false, false, false, false, false, false, false, false, false, false, false, false, false, false, false] (i := 21) rfl rfl rfl (by decide) (by kernel_rfl) (tight_body (P := Try.prog) (fn := Try.f8)) ?_
                clear hs a
                intro a hs
                refine d_no hs #[true, true, true, true, true, true, true, true, true, true, true, true, true, true, true, true, true, true, true, true, true, true, true, false, false, false, false, false, false, false, false, false, false, false, false, false, false, false, false, false, false, false, false, false, false, false, false, false, false, false, false] (i := 22) rfl rfl rfl (by decide) (by kernel_rfl) (tight_body (P := Try.prog) (fn := Try.f8)) ?_
                clear hs a
                intro a hs
                refine d_no hs #[true, true, true, true, true, true, true, true, true, true, true, true, true, true, true, true, true, true, true, true, true, true, true, true, false, false, false, false, false, false, false, false, false, false, false, false, false, false, false, false, false, false, false, false, false, false, false, false, false, false, false] (i := 23) rfl rfl rfl (by decide) (by kernel_rfl) (tight_body (P := Try.prog) (fn := Try.f8)) ?_
                clear hs a
                intro a hs
                replace hs := hs.to (τ := [(3, (.pointer (some t21))), (121, (.bool false)), (127, undef)]) ⟨rfl, rfl, rfl, trivial⟩
                refine d_no hs #[true, true, true, true, true, true, true, true, true, true, true, true, true, true, true, true, true, true, true, true, true, true, true, true, true, false, false, false, false, false, false, false, false, false, false, false, false, false, false, false, false, false, false, false, false, false, false, false, false, false, false] (i := 24) rfl rfl rfl (by decide) (by kernel_rfl) (tight_body (P := Try.prog) (fn := Try.f8)) ?_
                clear hs a
                intro a hs
                refine d_no hs #[true, true, true, true, true, true, true, true, true, true, true, true, true, true, true, true, true, true, true, true, true, true, true, true, true, true, false, false, false, false, false, false, false, false, false, false, false, false, false, false, false, false, false, false, false, false, false, false, false, false, false] (i := 25) rfl rfl rfl (by decide) (by kernel_rfl) (tight_body (P := Try.prog) (fn := Try.f8)) ?_
                clear hs a
                intro a hs
                refine d_no hs #[true, true, true, true, true, true, true, true, true, true, true, true, true, true, true, true, true, true, true, true, true, true, true, true, true, true, true, false, false, false, false, false, false, false, false, false, false, false, false, false, false, false, false, false, false, false, false, false, false, false, false] (i := 26) rfl rfl rfl (by decide) (by kernel_rfl) (tight_body (P := Try.prog) (fn := Try.f8)) ?_
                clear hs a
                intro a hs
                refine d_no hs #[true, true, true, true, true, true, true, true, true, true, true, true, true, true, true, true, true, true, true, true, true, true, true, true, true, true, true, true, false, false, false, false, false, false, false, false, false, false, false, false, false, false, false, false, false, false, false, false, false, false, false] (i := 27) rfl rfl rfl (by decide) (by kernel_rfl) (tight_body (P := Try.prog) (fn := Try.f8)) ?_
                clear hs a
                intro a hs
                refine d_no hs #[true, true, true, true, true, true, true, true, true, true, true, true, true, true, true, true, true, true, true, true, true, true, true, true, true, true, true, true, true, false, false, false, false, false, false, false, false, false, false, false, false, false, false, false, false, false, false, false, false, false, false] (i := 28) rfl rfl rfl (by decide) (by kernel_rfl) (tight_body (P := Try.prog) (fn := Try.f8)) ?_
                clear hs a
                intro a hs
                refine d_no hs #[true, true, true, true, true, true, true, true, true, true, true, true, true, true, true, true, true, true, true, true, true, true, true, true, true, true, true, true, true, true, false, false, false, false, false, false, false, false, false, false, false, false, false, false, false, false, false, false, false, false, false] (i := 29) rfl rfl rfl (by decide) (by kernel_rfl) (tight_body (P := Try.prog) (fn := Try.f8)) ?_
                clear hs a
                intro a hs
                refine d_no hs #[true, true, true, true, true, true, true, true, true, true, true, true, true, true, true, true, true, true, true, true, true, true, true, true, true, true, true, true, true, true, true, false, false, false, false, false, false, false, false, false, false, false, false, false, false, false, false, false, false, false, false] (i := 30) rfl rfl rfl (by decide) (by kernel_rfl) (tight_body (P := Try.prog) (fn := Try.f8)) ?_
                clear hs a
                intro a hs
                refine d_pure hs #[true, true, true, true, true, true, true, true, true, true, true, true, true, true, true, true, true, true, true, true, true, true, true, true, true, true, true, true, true, true, true, true, false, false, false, false, false, false, false, false, false, false, false, false, false, false, false, false, false, false, false] (i := 31) rfl rfl rfl (by decide) (by kernel_rfl) (tight_body (P := Try.prog) (fn := Try.f8)) (p_pick_f rfl rfl rfl) ?_
                clear hs a
                intro a hs
                replace hs := hs.to (τ := [(3, (.pointer (some t21))), (135, (.bool false))]) ⟨rfl, rfl, trivial⟩
                refine d_pure hs #[true, true, true, true, true, true, true, true, true, true, true, true, true, true, true, true, true, true, true, true, true, true, true, true, true, true, true, true, true, true, true, true, true, false, false, false, false, false, false, false, false, false, false, false, false, false, false, false, false, false, false] (i := 32) rfl rfl rfl (by decide) (by kernel_rfl) (tight_body (P := Try.prog) (fn := Try.f8)) (p_move rfl rfl) ?_
                clear hs a
                intro a hs
                refine d_no hs #[true, true, true, true, true, true, true, true, true, true, true, true, true, true, true, true, true, true, true, true, true, true, true, true, true, true, true, true, true, true, true, true, true, true, false, false, false, false, false, false, false, false, false, false, false, false, false, false, false, false, false] (i := 33) rfl rfl rfl (by decide) (by kernel_rfl) (tight_body (P := Try.prog) (fn := Try.f8)) ?_
                clear hs a
                intro a hs
                refine d_no hs #[true, true, true, true, true, true, true, true, true, true, true, true, true, true, true, true, true, true, true, true, true, true, true, true, true, true, true, true, true, true, true, true, true, true, true, false, false, false, false, false, false, false, false, false, false, false, false, false, false, false, false] (i := 34) rfl rfl rfl (by decide) (by kernel_rfl) (tight_body (P := Try.prog) (fn := Try.f8)) ?_
                clear hs a
                intro a hs
                refine d_no hs #[true, true, true, true, true, true, true, true, true, true, true, true, true, true, true, true, true, true, true, true, true, true, true, true, true, true, true, true, true, true, true, true, true, true, true, true, false, false, false, false, false, false, false, false, false, false, false, false, false, false, false] (i := 35) rfl rfl rfl (by decide) (by kernel_rfl) (tight_body (P := Try.prog) (fn := Try.f8)) ?_
                clear hs a
                intro a hs
                refine d_no hs #[true, true, true, true, true, true, true, true, true, true, true, true, true, true, true, true, true, true, true, true, true, true, true, true, true, true, true, true, true, true, true, true, true, true, true, true, true, false, false, false, false, false, false, false, false, false, false, false, false, false, false] (i := 36) rfl rfl rfl (by decide) (by kernel_rfl) (tight_body (P := Try.prog) (fn := Try.f8)) ?_
                clear hs a
                intro a hs
                refine d_no hs #[true, true, true, true, true, true, true, true, true, true, true, true, true, true, true, true, true, true, true, true, true, true, true, true, true, true, true, true, true, true, true, true, true, true, true, true, true, true, false, false, false, false, false, false, false, false, false, false, false, false, false] (i := 37) rfl rfl rfl (by decide) (by kernel_rfl) (tight_body (P := Try.prog) (fn := Try.f8)) ?_
                clear hs a
                intro a hs
                refine d_no hs #[true, true, true, true, true, true, true, true, true, true, true, true, true, true, true, true, true, true, true, true, true, true, true, true, true, true, true, true, true, true, true, true, true, true, true, true, true, true, true, false, false, false, false, false, false, false, false, false, false, false, false] (i := 38) rfl rfl rfl (by decide) (by kernel_rfl) (tight_body (P := Try.prog) (fn := Try.f8)) ?_
                clear hs a
                intro a hs
                refine d_no hs #[true, true, true, true, true, true, true, true, true, true, true, true, true, true, true, true, true, true, true, true, true, true, true, true, true, true, true, true, true, true, true, true, true, true, true, true, true, true, true, true, false, false, false, false, false, false, false, false, false, false, false] (i := 39) rfl rfl rfl (by decide) (by kernel_rfl) (tight_body (P := Try.prog) (fn := Try.f8)) ?_
                clear hs a
                intro a hs
                replace hs := hs.to (τ := [(3, (.pointer (some t21))), (136, (.bool false)), (143, undef)]) ⟨rfl, rfl, rfl, trivial⟩
                refine d_pure hs #[true, true, true, true, true, true, true, true, true, true, true, true, true, true, true, true, true, true, true, true, true, true, true, true, true, true, true, true, true, true, true, true, true, true, true, true, true, true, true, true, true, false, false, false, false, false, false, false, false, false, false] (i := 40) rfl rfl rfl (by decide) (by kernel_rfl) (tight_body (P := Try.prog) (fn := Try.f8)) (p_pick_f rfl rfl rfl) ?_
                clear hs a
                intro a hs
                refine d_pure hs #[true, true, true, true, true, true, true, true, true, true, true, true, true, true, true, true, true, true, true, true, true, true, true, true, true, true, true, true, true, true, true, true, true, true, true, true, true, true, true, true, true, true, false, false, false, false, false, false, false, false, false] (i := 41) rfl rfl rfl (by decide) (by kernel_rfl) (tight_body (P := Try.prog) (fn := Try.f8)) (p_move rfl rfl) ?_
                clear hs a
                intro a hs
                refine d_no hs #[true, true, true, true, true, true, true, true, true, true, true, true, true, true, true, true, true, true, true, true, true, true, true, true, true, true, true, true, true, true, true, true, true, true, true, true, true, true, true, true, true, true, true, false, false, false, false, false, false, false, false] (i := 42) rfl rfl rfl (by decide) (by kernel_rfl) (tight_body (P := Try.prog) (fn := Try.f8)) ?_
                clear hs a
                intro a hs
                refine d_no hs #[true, true, true, true, true, true, true, true, true, true, true, true, true, true, true, true, true, true, true, true, true, true, true, true, true, true, true, true, true, true, true, true, true, true, true, true, true, true, true, true, true, true, true, true, false, false, false, false, false, false, false] (i := 43) rfl rfl rfl (by decide) (by kernel_rfl) (tight_body (P := Try.prog) (fn := Try.f8)) ?_
                clear hs a
                intro a hs
                refine d_no hs #[true, true, true, true, true, true, true, true, true, true, true, true, true, true, true, true, true, true, true, true, true, true, true, true, true, true, true, true, true, true, true, true, true, true, true, true, true, true, true, true, true, true, true, true, true, false, false, false, false, false, false] (i := 44) rfl rfl rfl (by decide) (by kernel_rfl) (tight_body (P := Try.prog) (fn := Try.f8)) ?_
                clear hs a
                intro a hs
                refine d_no hs #[true, true, true, true, true, true, true, true, true, true, true, true, true, true, true, true, true, true, true, true, true, true, true, true, true, true, true, true, true, true, true, true, true, true, true, true, true, true, true, true, true, true, true, true, true, true, false, false, false, false, false] (i := 45) rfl rfl rfl (by decide) (by kernel_rfl) (tight_body (P := Try.prog) (fn := Try.f8)) ?_
                clear hs a
                intro a hs
                refine d_no hs #[true, true, true, true, true, true, true, true, true, true, true, true, true, true, true, true, true, true, true, true, true, true, true, true, true, true, true, true, true, true, true, true, true, true, true, true, true, true, true, true, true, true, true, true, true, true, true, false, false, false, false] (i := 46) rfl rfl rfl (by decide) (by kernel_rfl) (tight_body (P := Try.prog) (fn := Try.f8)) ?_
                clear hs a
                intro a hs
                refine d_no hs #[true, true, true, true, true, true, true, true, true, true, true, true, true, true, true, true, true, true, true, true, true, true, true, true, true, true, true, true, true, true, true, true, true, true, true, true, true, true, true, true, true, true, true, true, true, true, true, true, false, false, false] (i := 47) rfl rfl rfl (by decide) (by kernel_rfl) (tight_body (P := Try.prog) (fn := Try.f8)) ?_
                clear hs a
                intro a hs
                replace hs := hs.to (τ := [(145, (.bool false)), (151, undef)]) ⟨rfl, rfl, trivial⟩
                refine d_no hs #[true, true, true, true, true, true, true, true, true, true, true, true, true, true, true, true, true, true, true, true, true, true, true, true, true, true, true, true, true, true, true, true, true, true, true, true, true, true, true, true, true, true, true, true, true, true, true, true, true, false, false] (i := 48) rfl rfl rfl (by decide) (by kernel_rfl) (tight_body (P := Try.prog) (fn := Try.f8)) ?_
                clear hs a
                intro a hs
                refine d_pure hs #[true, true, true, true, true, true, true, true, true, true, true, true, true, true, true, true, true, true, true, true, true, true, true, true, true, true, true, true, true, true, true, true, true, true, true, true, true, true, true, true, true, true, true, true, true, true, true, true, true, true, false] (i := 49) rfl rfl rfl (by decide) (by kernel_rfl) (tight_body (P := Try.prog) (fn := Try.f8)) (p_pick_f rfl rfl rfl) ?_
                clear hs a
                intro a hs
                refine d_pure hs #[true, true, true, true, true, true, true, true, true, true, true, true, true, true, true, true, true, true, true, true, true, true, true, true, true, true, true, true, true, true, true, true, true, true, true, true, true, true, true, true, true, true, true, true, true, true, true, true, true, true, true] (i := 50) rfl rfl rfl (by decide) (by kernel_rfl) (tight_body (P := Try.prog) (fn := Try.f8)) (p_assign rfl rfl) ?_
                clear hs a
                intro a hs
                refine d_done (by kernel_rfl) ?_ _
                clear hS
                exact J7 false _ _ (hs.to ⟨rfl, trivial⟩) h
      clear hK10
      refine wp_region_lit ?_
      refine t_pure hs rfl rfl (by decide) (p_move rfl rfl) ?_
      clear hs a
      intro a hs
      refine t_pure hs rfl rfl (by decide) (p_nil rfl rfl) ?_
      clear hs a
      intro a hs
      refine t_pure hs rfl rfl (by decide) (p_fieldAddr0 rfl rfl ft_72_0) ?_
      clear hs a
      intro a hs
      obtain ⟨t25, h0, h1, he, h⟩ := h
      refine t_pure hs rfl rfl (by decide) (Pure.adr he (p_idxA rfl rfl rfl ar_68 h0 h1)) ?_
      clear hs a h0 h1 he
      intro a hs
      obtain ⟨t26, hv, h⟩ := h
      refine t_eff hs rfl rfl (by decide) (e_load rfl rfl ct_57 hv) ?_
      clear hs a hv
      intro a hs
      refine t_pure hs rfl rfl (by decide) (p_eq_nil rfl rfl rfl Try.underlying57) ?_
      clear hs a
      intro a hs
      refine t_pure hs rfl rfl (by decide) (p_move rfl rfl) ?_
      clear hs a
      intro a hs
      refine split_bool ((t26).isNone) (fun hb => ?_) (fun hb => ?_)
      · replace h := h.1 hb
        rw [hb] at hs
        clear hb
        refine t_no hs rfl rfl (by decide) ?_
        clear hs a
        intro a hs
        replace hs := hs.to (τ := [(0, (Sl.val script0)), (3, (.pointer (some t21))), (28, (.bool true)), (29, undef)]) ⟨rfl, rfl, rfl, rfl, trivial⟩
        refine t_no hs rfl rfl (by decide) ?_
        clear hs a
        intro a hs
        refine t_no hs rfl rfl (by decide) ?_
        clear hs a
        intro a hs
        refine t_no hs rfl rfl (by decide) ?_
        clear hs a
        intro a hs
        refine t_no hs rfl rfl (by decide) ?_
        clear hs a
        intro a hs
        refine t_no hs rfl rfl (by decide) ?_
        clear hs a
        intro a hs
        refine t_pure hs rfl rfl (by decide) (p_pick_t rfl rfl rfl) ?_
        clear hs a
        intro a hs
        exact J1 true _ _ (hs.to ⟨rfl, rfl, rfl, trivial⟩) h
      · replace h := h.2 hb
        rw [hb] at hs
        clear hb
        refine t_yes hs rfl ?_
        refine t_pure hs rfl rfl (by decide) (p_move rfl rfl) ?_
        clear hs a
        intro a hs
        replace hs := hs.to (τ := [(0, (Sl.val script0)), (3, (.pointer (some t21))), (28, (.bool false)), (29, (.pointer (some t21)))]) ⟨rfl, rfl, rfl, rfl, trivial⟩
        refine t_yes hs rfl ?_
        refine t_pure hs rfl rfl (by decide) (p_nil rfl rfl) ?_
        clear hs a
        intro a hs
        refine t_yes hs rfl ?_
        refine t_pure hs rfl rfl (by decide) (p_fieldAddr0 rfl rfl ft_72_0) ?_
        clear hs a
        intro a hs
        refine t_yes hs rfl ?_
        obtain ⟨t32, h0, h1, he, h⟩ := h
        refine t_pure hs rfl rfl (by decide) (Pure.adr he (p_idxA rfl rfl rfl ar_68 h0 h1)) ?_
        clear hs a h0 h1 he
        intro a hs
        refine t_yes hs rfl ?_
        obtain ⟨t33, hv, h⟩ := h
        refine t_eff hs rfl rfl (by decide) (e_load rfl rfl ct_57 hv) ?_
        clear hs a hv
        intro a hs
        refine t_yes hs rfl ?_
        refine t_pure hs rfl rfl (by decide) (p_eq_nil rfl rfl rfl Try.underlying57) ?_
        clear hs a
        intro a hs
        refine t_pure hs rfl rfl (by decide) (p_pick_f rfl rfl rfl) ?_
        clear hs a
        intro a hs
        exact J1 ((t33).isNone) _ _ (hs.to ⟨rfl, rfl, rfl, trivial⟩) h
end Go.Proofs.Ytilejcnbacmdnaa
