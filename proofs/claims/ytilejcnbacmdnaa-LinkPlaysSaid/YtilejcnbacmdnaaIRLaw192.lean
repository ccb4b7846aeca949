/- Plain forms of functions, and that their code comes to them (package law19). -/
import Derived.Test.YtilejcnbacmdnaaCalls
namespace Go.Proofs.Ytilejcnbacmdnaa
open Go Go.Sep
set_option linter.unusedVariables false
set_option linter.unusedSimpArgs false
set_option maxRecDepth 100000
set_option maxHeartbeats 4000000
def law19_LinkLives.s4 (Q : Bool → K) (X1 : Int → Int → K) (X3 : Int → K) (epoch0_4 : Int) (l5_4 : (Option Addr)) (t22_4 : Sl) (t23_4 : Int) (t24_4 : Int) (t78_4 : Sl) (t79_4 : Int) (t80_4 : Int) (t105_4 : Bool) : K :=
  Ite t105_4
    (Q false)
    (Ar (IntKind.wrap .i64 (t80_4 + 1)) fun t106 =>
    X3 t106)
def law19_LinkLives.b3 (Q : Bool → K) (X1 : Int → Int → K) (X3 : Int → K) (epoch0_3 : Int) (l5_3 : (Option Addr)) (t22_3 : Sl) (t23_3 : Int) (t24_3 : Int) (t78_3 : Sl) (t79_3 : Int) (t80_3 : Int) : K :=
  Ite (decide (t80_3 < t79_3))
    (Idx t78_3 t80_3 5 fun t82 =>
    LdN t82 5 fun t83 =>
    New 36 #[(.int .u64 0), (.int .u64 0), (.int .u64 0), (.int .u64 0), (Sl.val ⟨none, 0, 0⟩)] fun a12 =>
    StN a12 5 t83 <|
    Dr <| WithS fun S =>
    LdS S a12 (Value.int .u64) fun t85 =>
    Ite (decide (t85 ≠ epoch0_3))
      (law19_LinkLives.s4 Q X1 X3 epoch0_3 l5_3 t22_3 t23_3 t24_3 t78_3 t79_3 t80_3 true)
      (LdS S (a12.add 1) (Value.int .u64) fun t90 =>
      link_Link_Peer.call l5_3 fun t92 =>
      Sv S <|
      Ite (decide (t90 ≠ t92))
        (law19_LinkLives.s4 Q X1 X3 epoch0_3 l5_3 t22_3 t23_3 t24_3 t78_3 t79_3 t80_3 true)
        (LdS S (a12.add 2) (Value.int .u64) fun t97 =>
        Ite (decide (t97 ≠ 0))
          (law19_LinkLives.s4 Q X1 X3 epoch0_3 l5_3 t22_3 t23_3 t24_3 t78_3 t79_3 t80_3 true)
          (LdS S (a12.add 4) Sl.val fun t102 =>
          law19_LinkLives.s4 Q X1 X3 epoch0_3 l5_3 t22_3 t23_3 t24_3 t78_3 t79_3 t80_3 (decide ((t102.n : Int) ≠ 0))))))
    (link_Link_Peer.call l5_3 fun t108 =>
    Ar (IntKind.wrap .i64 (t24_3 + 1)) fun t109 =>
    X1 t108 t109)
def law19_LinkLives.s2 (Q : Bool → K) (X1 : Int → Int → K) (epoch0_2 : Int) (l5_2 : (Option Addr)) (answer10_2 : Sl) (t22_2 : Sl) (t23_2 : Int) (t24_2 : Int) (t77_2 : Bool) : K :=
  Ite t77_2
    (Q false)
    (LoopK (α := Int) (fun X x => law19_LinkLives.b3 Q X1 X epoch0_2 l5_2 t22_2 t23_2 t24_2 answer10_2 (answer10_2.n : Int) x) 0)
def law19_LinkLives.b1 (Q : Bool → K)  (X1 : Int → Int → K) (epoch0_1 : Int) (l5_1 : (Option Addr)) (t22_1 : Sl) (t23_1 : Int) (peer6_1 : Int) (t24_1 : Int) : K :=
  Ite (decide (t24_1 < t23_1))
    (Idx t22_1 t24_1 5 fun t26 =>
    LdN t26 5 fun t27 =>
    New 36 #[(.int .u64 0), (.int .u64 0), (.int .u64 0), (.int .u64 0), (Sl.val ⟨none, 0, 0⟩)] fun p8 =>
    StN p8 5 t27 <|
    Ld (p8.add 4) Sl.val fun t29 =>
    Ite (decide ((500 : Int) < (t29.n : Int)))
      (Q true)
      (LdN p8 5 fun t34 =>
      link_Link_Receive.call l5_1 t34 fun t35x0 t35x1 =>
      Dr <| WithS fun S =>
      Ite (decide ((0 : Int) < (t35x0.n : Int)))
        (LdS S p8 (Value.int .u64) fun t43 =>
        Ite (decide (t43 < peer6_1))
          (law19_LinkLives.s2 Q X1 epoch0_1 l5_1 t35x1 t22_1 t23_1 t24_1 true)
          (LdS S (p8.add 1) (Value.int .u64) fun t48 =>
          Ite (decide (t48 ≠ epoch0_1))
            (law19_LinkLives.s2 Q X1 epoch0_1 l5_1 t35x1 t22_1 t23_1 t24_1 true)
            (LdS S p8 (Value.int .u64) fun t54 =>
            Ite (decide (t54 = 0))
              (law19_LinkLives.s2 Q X1 epoch0_1 l5_1 t35x1 t22_1 t23_1 t24_1 true)
              (Ite (decide ((1 : Int) < (t35x1.n : Int)))
                (law19_LinkLives.s2 Q X1 epoch0_1 l5_1 t35x1 t22_1 t23_1 t24_1 true)
                (link_Link_Peer.call l5_1 fun t65 =>
                Sv S <|
                Ite (decide (t65 < peer6_1))
                  (law19_LinkLives.s2 Q X1 epoch0_1 l5_1 t35x1 t22_1 t23_1 t24_1 true)
                  (LdS S p8 (Value.int .u64) fun t74 =>
                  Ar (if (t74 : Int) > peer6_1 then t74 else peer6_1) fun t75 =>
                  link_Link_Peer.call l5_1 fun t71 =>
                  Sv S <|
                  law19_LinkLives.s2 Q X1 epoch0_1 l5_1 t35x1 t22_1 t23_1 t24_1 (decide (t71 ≠ t75))))))))
        (Ite (decide ((1 : Int) < (t35x1.n : Int)))
          (law19_LinkLives.s2 Q X1 epoch0_1 l5_1 t35x1 t22_1 t23_1 t24_1 true)
          (link_Link_Peer.call l5_1 fun t65 =>
          Sv S <|
          Ite (decide (t65 < peer6_1))
            (law19_LinkLives.s2 Q X1 epoch0_1 l5_1 t35x1 t22_1 t23_1 t24_1 true)
            (LdS S p8 (Value.int .u64) fun t74 =>
            Ar (if (t74 : Int) > peer6_1 then t74 else peer6_1) fun t75 =>
            link_Link_Peer.call l5_1 fun t71 =>
            Sv S <|
            law19_LinkLives.s2 Q X1 epoch0_1 l5_1 t35x1 t22_1 t23_1 t24_1 (decide (t71 ≠ t75)))))))
    (Q true)
def law19_LinkLives (epoch0 : Int) (list1 : Sl) (Q : Bool → K) : K :=
  law19_speaks.call  fun t13 =>
  Ite (!t13)
    (Q false)
    (Ite (decide ((100 : Int) < (list1.n : Int)))
      (Q true)
      (link_New.call epoch0 fun t19 =>
      Ite ((t19).isNone)
        (Q false)
        (LoopK (α := Int × Int) (fun X x => law19_LinkLives.b1 Q (fun peer6_1 t24_1 => X (peer6_1, t24_1)) epoch0 t19 list1 (list1.n : Int) x.1 x.2) (0, 0))))
theorem law19_LinkLives_ok (epoch0 : Int) (list1 : Sl) (Q : Bool → K) (w : World) (h : law19_LinkLives epoch0 list1 Q w) : law19_LinkLives.call epoch0 list1 Q w := by
  unfold law19_LinkLives.call CallF
  refine f_start (args := [(.int .u64 epoch0), (Sl.val list1)]) Try.func9 rfl (Nat.le_of_ble_eq_true rfl) ?_
  intro a hs
  unfold law19_LinkLives at h
  refine wp_seq_k fun K1 hK1 => ?_
  refine wp_region_lit ?_
  refine t_pure hs rfl rfl (by decide) (p_assign rfl rfl) ?_
  clear hs a
  intro a hs
  refine hK1 _ _ ?_
  refine wp_seq_k fun K2 hK2 => ?_
  refine wp_seq_k fun K3 hK3 => ?_
  refine wp_region_lit ?_
  refine t_call hs rfl rfl (by decide) (e_call rfl rfl rfl cb_28) h ?_
  clear hs a h
  intro v a w hk hs
  obtain ⟨t13, rfl, h⟩ := hk
  refine t_pure hs rfl rfl (by decide) (p_not rfl rfl) ?_
  clear hs a
  intro a hs
  refine hK3 _ _ ?_
  refine c_cond hs rfl (fun hb => ?_) (fun hb => ?_)
  · replace h := h.1 hb
    clear hb
    refine wp_seq_k fun K4 hK4 => ?_
    refine wp_region_lit ?_
    refine t_pure hs rfl rfl (by decide) (p_assign rfl rfl) ?_
    clear hs a
    intro a hs
    refine hK4 _ _ ?_
    refine wp_ret ?_
    refine f_ret (fn := Try.f9) hs (fun a hs => r_one hs rfl (rfl)) ⟨false, rfl, h⟩
  · replace h := h.2 hb
    clear hb
    refine wp_skip ?_
    refine hK2 _ _ ?_
    refine wp_seq_k fun K5 hK5 => ?_
    refine wp_seq_k fun K6 hK6 => ?_
    refine wp_region_lit ?_
    refine t_pure hs rfl rfl (by decide) (p_move rfl rfl) ?_
    clear hs a
    intro a hs
    refine t_pure hs rfl rfl (by decide) (p_len rfl rfl sl_60) ?_
    clear hs a
    intro a hs
    refine t_pure hs rfl rfl (by decide) (p_gt rfl rfl rfl) ?_
    clear hs a
    intro a hs
    refine hK6 _ _ ?_
    refine c_cond hs rfl (fun hb => ?_) (fun hb => ?_)
    · replace h := h.1 hb
      clear hb
      refine wp_seq_k fun K7 hK7 => ?_
      refine wp_region_lit ?_
      refine t_pure hs rfl rfl (by decide) (p_assign rfl rfl) ?_
      clear hs a
      intro a hs
      refine hK7 _ _ ?_
      refine wp_ret ?_
      refine f_ret (fn := Try.f9) hs (fun a hs => r_one hs rfl (rfl)) ⟨true, rfl, h⟩
    · replace h := h.2 hb
      clear hb
      refine wp_skip ?_
      refine hK5 _ _ ?_
      refine wp_seq_k fun K8 hK8 => ?_
      refine wp_region_lit ?_
      refine t_pure hs rfl rfl (by decide) (p_move rfl rfl) ?_
      clear hs a
      intro a hs
      refine t_call hs rfl rfl (by decide) (e_call rfl rfl rfl cb_29) h ?_
      clear hs a h
      intro v a w hk hs
      obtain ⟨t19, rfl, h⟩ := hk
      refine t_pure hs rfl rfl (by decide) (p_assign rfl rfl) ?_
      clear hs a
      intro a hs
      refine t_pure hs rfl rfl (by decide) (p_assign rfl rfl) ?_
      clear hs a
      intro a hs
      refine hK8 _ _ ?_
      refine wp_seq_k fun K9 hK9 => ?_
      refine wp_seq_k fun K10 hK10 => ?_
      refine wp_region_lit ?_
      refine t_pure hs rfl rfl (by decide) (p_move rfl rfl) ?_
      clear hs a
      intro a hs
      refine t_pure hs rfl rfl (by decide) (p_eq_nil rfl rfl rfl Try.underlying57) ?_
      clear hs a
      intro a hs
      refine hK10 _ _ ?_
      refine c_cond hs rfl (fun hb => ?_) (fun hb => ?_)
      · replace h := h.1 hb
        clear hb
        refine wp_seq_k fun K11 hK11 => ?_
        refine wp_region_lit ?_
        refine t_pure hs rfl rfl (by decide) (p_assign rfl rfl) ?_
        clear hs a
        intro a hs
        refine hK11 _ _ ?_
        refine wp_ret ?_
        refine f_ret (fn := Try.f9) hs (fun a hs => r_one hs rfl (rfl)) ⟨false, rfl, h⟩
      · replace h := h.2 hb
        clear hb
        refine wp_skip ?_
        refine hK9 _ _ ?_
        refine wp_seq_k fun K12 hK12 => ?_
        refine wp_seq_k fun K13 hK13 => ?_
        refine wp_region_lit ?_
        refine t_pure hs rfl rfl (by decide) (p_move rfl rfl) ?_
        clear hs a
        intro a hs
        refine t_pure hs rfl rfl (by decide) (p_len rfl rfl sl_60) ?_
        clear hs a
        intro a hs
        refine t_pure hs rfl rfl (by decide) (p_move rfl rfl) ?_
        clear hs a
        intro a hs
        refine hK13 _ _ ?_
        refine wp_block ?_
        obtain ⟨I1, μ1, h0, hr⟩ := h
        refine c_loop (α := Int × Int) I1 μ1 (fun x a => Slots a 110 [(0, (.int .u64 epoch0)), (5, (.pointer t19)), (6, (.int .u64 x.1)), (22, (Sl.val list1)), (23, (.int .i64 (list1.n : Int))), (24, (.int .i64 x.2))]) (0, 0) h0 (hs.to ⟨rfl, rfl, rfl, rfl, rfl, rfl, trivial⟩) ?_
        clear h0 hs a
        rintro ⟨peer6_1, t24_1⟩ a w hI hs
        have h : law19_LinkLives.b1 Q (fun peer6_1n t24_1n w' => I1 (peer6_1n, t24_1n) w' ∧ μ1 (peer6_1n, t24_1n) w' < μ1 (peer6_1, t24_1) w) epoch0 t19 list1 (list1.n : Int) peer6_1 t24_1 w := hr (peer6_1, t24_1) w hI
        clear hr hI
        generalize hX1 : (fun peer6_1n t24_1n w' => I1 (peer6_1n, t24_1n) w' ∧ μ1 (peer6_1n, t24_1n) w' < μ1 (peer6_1, t24_1) w) = X1 at h
        unfold law19_LinkLives.b1 at h
        replace hs : Slots a 110 [(0, (.int .u64 epoch0)), (5, (.pointer t19)), (6, (.int .u64 peer6_1)), (22, (Sl.val list1)), (23, (.int .i64 (list1.n : Int))), (24, (.int .i64 t24_1))] := hs
        refine wp_seq_k fun K14 hK14 => ?_
        refine wp_region_lit ?_
        refine t_pure hs rfl rfl (by decide) (p_lt rfl rfl rfl) ?_
        clear hs a
        intro a hs
        refine hK14 _ _ ?_
        refine wp_seq_k fun K15 hK15 => ?_
        refine c_cond hs rfl (fun hb => ?_) (fun hb => ?_)
        · replace h := h.1 hb
          clear hb
          refine wp_skip ?_
          refine hK15 _ _ ?_
          refine wp_seq_k fun K16 hK16 => ?_
          refine wp_block ?_
          refine wp_seq_k fun K17 hK17 => ?_
          refine wp_region_lit ?_
          obtain ⟨qt26, t26, ha, h0, h1, he, h⟩ := h
          refine t_pure hs rfl rfl (by decide) (Pure.adr he (p_idx rfl rfl rfl sl_60 ha h0 h1)) ?_
          clear hs a ha h0 h1 he
          intro a hs
          obtain ⟨t27, hn, hv, h⟩ := h
          refine t_eff hs rfl rfl (by decide) (e_loadN rfl rfl at_36 hn hv) ?_
          clear hs a hn hv
          intro a hs
          obtain ⟨p8, w1, ha, hw, h⟩ := h
          refine t_eff hs rfl rfl (by decide) (e_alloc rfl zt_36 rfl ha hw) ?_
          clear hs a ha hw
          intro a hs
          obtain ⟨w1, hw, hn, hc, hv, h⟩ := h
          refine t_skip hs rfl rfl (e_storeN rfl rfl rfl sz_36 hw hn hc hv) ?_
          clear hs a hw hn hc hv
          intro a hs
          refine hK17 _ _ ?_
          refine wp_seq_k fun K18 hK18 => ?_
          refine wp_seq_k fun K19 hK19 => ?_
          refine wp_region_lit ?_
          refine t_pure hs rfl rfl (by decide) (p_fieldAddr rfl rfl ft_36_4) ?_
          clear hs a
          intro a hs
          obtain ⟨t29, hv, h⟩ := h
          refine t_eff hs rfl rfl (by decide) (e_load rfl rfl ct_22 hv) ?_
          clear hs a hv
          intro a hs
          refine t_pure hs rfl rfl (by decide) (p_len rfl rfl sl_22) ?_
          clear hs a
          intro a hs
          refine t_pure hs rfl rfl (by decide) (p_gt rfl rfl rfl) ?_
          clear hs a
          intro a hs
          refine hK19 _ _ ?_
          refine c_cond hs rfl (fun hb => ?_) (fun hb => ?_)
          · replace h := h.1 hb
            clear hb
            refine wp_seq_k fun K20 hK20 => ?_
            refine wp_region_lit ?_
            refine t_pure hs rfl rfl (by decide) (p_assign rfl rfl) ?_
            clear hs a
            intro a hs
            refine hK20 _ _ ?_
            refine wp_ret ?_
            refine f_ret (fn := Try.f9) hs (fun a hs => r_one hs rfl (rfl)) ⟨true, rfl, h⟩
          · replace h := h.2 hb
            clear hb
            refine wp_skip ?_
            refine hK18 _ _ ?_
            refine wp_seq_k fun K21 hK21 => ?_
            refine wp_region_lit ?_
            refine t_pure hs rfl rfl (by decide) (p_move rfl rfl) ?_
            clear hs a
            intro a hs
            obtain ⟨t34, hn, hv, h⟩ := h
            refine t_eff hs rfl rfl (by decide) (e_loadN rfl rfl at_36 hn hv) ?_
            clear hs a hn hv
            intro a hs
            refine t_call hs rfl rfl (by decide) (e_call rfl rfl rfl cb_31) h ?_
            clear hs a h
            intro v a w hk hs
            obtain ⟨t35x0, t35x1, rfl, h⟩ := hk
            refine t_pure hs rfl rfl (by decide) (p_move rfl rfl) ?_
            clear hs a
            intro a hs
            refine t_pure hs rfl rfl (by decide) (p_extract rfl rfl rfl) ?_
            clear hs a
            intro a hs
            refine t_pure hs rfl rfl (by decide) (p_extract rfl rfl rfl) ?_
            clear hs a
            intro a hs
            refine t_pure hs rfl rfl (by decide) (p_assign rfl rfl) ?_
            clear hs a
            intro a hs
            refine t_pure hs rfl rfl (by decide) (p_assign rfl rfl) ?_
            clear hs a
            intro a hs
            refine hK21 _ _ ?_
            refine wp_seq_k fun K22 hK22 => ?_
            refine wp_seq_k fun K23 hK23 => ?_
            have J2 : ∀ (t77_2 : Bool) (a : Act) (w : World), Slots a 110 [(0, (.int .u64 epoch0)), (5, (.pointer t19)), (10, (Sl.val t35x1)), (22, (Sl.val list1)), (23, (.int .i64 (list1.n : Int))), (24, (.int .i64 t24_1)), (77, (.bool t77_2))] → law19_LinkLives.s2 Q X1 epoch0 t19 t35x1 list1 (list1.n : Int) t24_1 t77_2 w → K23 a w := by
              clear h hs
              intro t77_2 a w hs h
              refine hK23 _ _ ?_
              unfold law19_LinkLives.s2 at h
              refine c_cond hs rfl (fun hb => ?_) (fun hb => ?_)
              · replace h := h.1 hb
                clear hb
                refine wp_seq_k fun K24 hK24 => ?_
                refine wp_region_lit ?_
                refine t_pure hs rfl rfl (by decide) (p_assign rfl rfl) ?_
                clear hs a
                intro a hs
                refine hK24 _ _ ?_
                refine wp_ret ?_
                refine f_ret (fn := Try.f9) hs (fun a hs => r_one hs rfl (rfl)) ⟨false, rfl, h⟩
              · replace h := h.2 hb
                clear hb
                refine wp_skip ?_
                refine hK22 _ _ ?_
                refine wp_seq_k fun K25 hK25 => ?_
                refine wp_seq_k fun K26 hK26 => ?_
                refine wp_region_lit ?_
                refine t_pure hs rfl rfl (by decide) (p_move rfl rfl) ?_
                clear hs a
                intro a hs
                refine t_pure hs rfl rfl (by decide) (p_len rfl rfl sl_60) ?_
                clear hs a
                intro a hs
                refine t_pure hs rfl rfl (by decide) (p_move rfl rfl) ?_
                clear hs a
                intro a hs
                refine hK26 _ _ ?_
                refine wp_block ?_
                obtain ⟨I3, μ3, h0, hr⟩ := h
                refine c_loop (α := Int) I3 μ3 (fun x a => Slots a 110 [(0, (.int .u64 epoch0)), (5, (.pointer t19)), (22, (Sl.val list1)), (23, (.int .i64 (list1.n : Int))), (24, (.int .i64 t24_1)), (78, (Sl.val t35x1)), (79, (.int .i64 (t35x1.n : Int))), (80, (.int .i64 x))]) 0 h0 (hs.to ⟨rfl, rfl, rfl, rfl, rfl, rfl, rfl, rfl, trivial⟩) ?_
                clear h0 hs a
                intro t80_3 a w hI hs
                have h : law19_LinkLives.b3 Q X1 (fun t80_3n w' => I3 t80_3n w' ∧ μ3 t80_3n w' < μ3 t80_3 w) epoch0 t19 list1 (list1.n : Int) t24_1 t35x1 (t35x1.n : Int) t80_3 w := hr t80_3 w hI
                clear hr hI
                generalize hX3 : (fun t80_3n w' => I3 t80_3n w' ∧ μ3 t80_3n w' < μ3 t80_3 w) = X3 at h
                unfold law19_LinkLives.b3 at h
                replace hs : Slots a 110 [(0, (.int .u64 epoch0)), (5, (.pointer t19)), (22, (Sl.val list1)), (23, (.int .i64 (list1.n : Int))), (24, (.int .i64 t24_1)), (78, (Sl.val t35x1)), (79, (.int .i64 (t35x1.n : Int))), (80, (.int .i64 t80_3))] := hs
                refine wp_seq_k fun K27 hK27 => ?_
                refine wp_region_lit ?_
                refine t_pure hs rfl rfl (by decide) (p_lt rfl rfl rfl) ?_
                clear hs a
                intro a hs
                refine hK27 _ _ ?_
                refine wp_seq_k fun K28 hK28 => ?_
                refine c_cond hs rfl (fun hb => ?_) (fun hb => ?_)
                · replace h := h.1 hb
                  clear hb
                  refine wp_skip ?_
                  refine hK28 _ _ ?_
                  refine wp_seq_k fun K29 hK29 => ?_
                  refine wp_block ?_
                  refine wp_seq_k fun K30 hK30 => ?_
                  refine wp_region_lit ?_
                  obtain ⟨qt82, t82, ha, h0, h1, he, h⟩ := h
                  refine t_pure hs rfl rfl (by decide) (Pure.adr he (p_idx rfl rfl rfl sl_60 ha h0 h1)) ?_
                  clear hs a ha h0 h1 he
                  intro a hs
                  obtain ⟨t83, hn, hv, h⟩ := h
                  refine t_eff hs rfl rfl (by decide) (e_loadN rfl rfl at_36 hn hv) ?_
                  clear hs a hn hv
                  intro a hs
                  obtain ⟨a12, w1, ha, hw, h⟩ := h
                  refine t_eff hs rfl rfl (by decide) (e_alloc rfl zt_36 rfl ha hw) ?_
                  clear hs a ha hw
                  intro a hs
                  obtain ⟨w1, hw, hn, hc, hv, h⟩ := h
                  refine t_skip hs rfl rfl (e_storeN rfl rfl rfl sz_36 hw hn hc hv) ?_
                  clear hs a hw hn hc hv
                  intro a hs
                  refine hK30 _ _ ?_
                  refine wp_seq_k fun K31 hK31 => ?_
                  have J4 : ∀ (t105_4 : Bool) (a : Act) (w : World), Slots a 110 [(0, (.int .u64 epoch0)), (5, (.pointer t19)), (22, (Sl.val list1)), (23, (.int .i64 (list1.n : Int))), (24, (.int .i64 t24_1)), (78, (Sl.val t35x1)), (79, (.int .i64 (t35x1.n : Int))), (80, (.int .i64 t80_3)), (105, (.bool t105_4))] → law19_LinkLives.s4 Q X1 X3 epoch0 t19 list1 (list1.n : Int) t24_1 t35x1 (t35x1.n : Int) t80_3 t105_4 w → K31 a w := by
                    clear h hs
                    intro t105_4 a w hs h
                    refine hK31 _ _ ?_
                    unfold law19_LinkLives.s4 at h
                    refine c_cond hs rfl (fun hb => ?_) (fun hb => ?_)
                    · replace h := h.1 hb
                      clear hb
                      refine wp_seq_k fun K32 hK32 => ?_
                      refine wp_region_lit ?_
                      refine t_pure hs rfl rfl (by decide) (p_assign rfl rfl) ?_
                      clear hs a
                      intro a hs
                      refine hK32 _ _ ?_
                      refine wp_ret ?_
                      refine f_ret (fn := Try.f9) hs (fun a hs => r_one hs rfl (rfl)) ⟨false, rfl, h⟩
                    · replace h := h.2 hb
                      clear hb
                      refine wp_skip ?_
                      refine hK29 _ _ ?_
                      refine wp_region_lit ?_
                      obtain ⟨t106, he, h⟩ := h
                      refine t_pure hs rfl rfl (by decide) (Pure.int he (p_add rfl rfl rfl)) ?_
                      clear hs a he
                      intro a hs
                      refine t_pure hs rfl rfl (by decide) (p_move rfl rfl) ?_
                      clear hs a
                      intro a hs
                      rw [← hX3] at h
                      exact ⟨t106, hs.to ⟨rfl, rfl, rfl, rfl, rfl, rfl, rfl, rfl, trivial⟩, h⟩
                  clear hK31
                  obtain ⟨w1, hw1, h⟩ := h
                  obtain ⟨S, hS, h⟩ := h
                  subst hw1
                  refine d_start (S := S) (ds := []) #[false, false, false, false, false, false, false, false, false, false, false, false, false, false, false, false, false, false, false, false, false, false] mixed rfl rfl ?_
                  refine d_pure hs #[true, false, false, false, false, false, false, false, false, false, false, false, false, false, false, false, false, false, false, false, false, false] (i := 0) rfl rfl rfl (by decide) (by kernel_rfl) (tight_body (P := Try.prog) (fn := Try.f9)) (p_fieldAddr0 rfl rfl ft_36_0) ?_
                  clear hs a
                  intro a hs
                  refine d_pure hs #[true, false, true, false, false, false, false, false, false, false, false, false, false, false, false, false, false, false, false, false, false, false] (i := 2) rfl rfl rfl (by decide) (by kernel_rfl) (tight_body (P := Try.prog) (fn := Try.f9)) (p_move rfl rfl) ?_
                  clear hs a
                  intro a hs
                  obtain ⟨t85, hv, h⟩ := h
                  refine d_read hs #[true, true, true, false, false, false, false, false, false, false, false, false, false, false, false, false, false, false, false, false, false, false] (i := 1) rfl rfl rfl (by decide) (by kernel_rfl) (by kernel_rfl) (tight_body (P := Try.prog) (fn := Try.f9)) hS (fun w h' => e_load rfl rfl ct_23 (hv w h')) ?_
                  clear hs a hv
                  intro a hs
                  refine d_pure hs #[true, true, true, true, false, false, false, false, false, false, false, false, false, false, false, false, false, false, false, false, false, false] (i := 3) rfl rfl rfl (by decide) (by kernel_rfl) (tight_body (P := Try.prog) (fn := Try.f9)) (p_ne rfl rfl rfl) ?_
                  clear hs a
                  intro a hs
                  refine d_pure hs #[true, true, true, true, true, false, false, false, false, false, false, false, false, false, false, false, false, false, false, false, false, false] (i := 4) rfl rfl rfl (by decide) (by kernel_rfl) (tight_body (P := Try.prog) (fn := Try.f9)) (p_move rfl rfl) ?_
                  clear hs a
                  intro a hs
                  refine split_bool (decide (t85 ≠ epoch0)) (fun hb => ?_) (fun hb => ?_)
                  · replace h := h.1 hb
                    rw [hb] at hs
                    clear hb
                    refine d_no hs #[true, true, true, true, true, true, false, false, false, false, false, false, false, false, false, false, false, false, false, false, false, false] (i := 5) rfl rfl rfl (by decide) (by kernel_rfl) (tight_body (P := Try.prog) (fn := Try.f9)) ?_
                    clear hs a
                    intro a hs
                    refine d_no hs #[true, true, true, true, true, true, true, false, false, false, false, false, false, false, false, false, false, false, false, false, false, false] (i := 6) rfl rfl rfl (by decide) (by kernel_rfl) (tight_body (P := Try.prog) (fn := Try.f9)) ?_
                    clear hs a
                    intro a hs
                    refine d_no hs #[true, true, true, true, true, true, true, true, false, false, false, false, false, false, false, false, false, false, false, false, false, false] (i := 7) rfl rfl rfl (by decide) (by kernel_rfl) (tight_body (P := Try.prog) (fn := Try.f9)) ?_
                    clear hs a
                    intro a hs
                    replace hs := hs.to (τ := [(0, (.int .u64 epoch0)), (5, (.pointer t19)), (12, (.pointer (some a12))), (22, (Sl.val list1)), (23, (.int .i64 (list1.n : Int))), (24, (.int .i64 t24_1)), (78, (Sl.val t35x1)), (79, (.int .i64 (t35x1.n : Int))), (80, (.int .i64 t80_3)), (88, (.bool true)), (90, undef), (91, undef)]) ⟨rfl, rfl, rfl, rfl, rfl, rfl, rfl, rfl, rfl, rfl, rfl, rfl, trivial⟩
                    refine d_no hs #[true, true, true, true, true, true, true, true, true, false, false, false, false, false, false, false, false, false, false, false, false, false] (i := 8) rfl rfl rfl (by decide) (by kernel_rfl) (tight_body (P := Try.prog) (fn := Try.f9)) ?_
                    clear hs a
                    intro a hs
                    refine d_no hs #[true, true, true, true, true, true, true, true, true, true, false, false, false, false, false, false, false, false, false, false, false, false] (i := 9) rfl rfl rfl (by decide) (by kernel_rfl) (tight_body (P := Try.prog) (fn := Try.f9)) ?_
                    clear hs a
                    intro a hs
                    refine d_pure hs #[true, true, true, true, true, true, true, true, true, true, true, false, false, false, false, false, false, false, false, false, false, false] (i := 10) rfl rfl rfl (by decide) (by kernel_rfl) (tight_body (P := Try.prog) (fn := Try.f9)) (p_pick_t rfl rfl rfl) ?_
                    clear hs a
                    intro a hs
                    refine d_pure hs #[true, true, true, true, true, true, true, true, true, true, true, true, false, false, false, false, false, false, false, false, false, false] (i := 11) rfl rfl rfl (by decide) (by kernel_rfl) (tight_body (P := Try.prog) (fn := Try.f9)) (p_move rfl rfl) ?_
                    clear hs a
                    intro a hs
                    refine d_no hs #[true, true, true, true, true, true, true, true, true, true, true, true, true, false, false, false, false, false, false, false, false, false] (i := 12) rfl rfl rfl (by decide) (by kernel_rfl) (tight_body (P := Try.prog) (fn := Try.f9)) ?_
                    clear hs a
                    intro a hs
                    refine d_no hs #[true, true, true, true, true, true, true, true, true, true, true, true, true, true, false, false, false, false, false, false, false, false] (i := 13) rfl rfl rfl (by decide) (by kernel_rfl) (tight_body (P := Try.prog) (fn := Try.f9)) ?_
                    clear hs a
                    intro a hs
                    refine d_no hs #[true, true, true, true, true, true, true, true, true, true, true, true, true, true, true, false, false, false, false, false, false, false] (i := 14) rfl rfl rfl (by decide) (by kernel_rfl) (tight_body (P := Try.prog) (fn := Try.f9)) ?_
                    clear hs a
                    intro a hs
                    refine d_pure hs #[true, true, true, true, true, true, true, true, true, true, true, true, true, true, true, true, false, false, false, false, false, false] (i := 15) rfl rfl rfl (by decide) (by kernel_rfl) (tight_body (P := Try.prog) (fn := Try.f9)) (p_pick_t rfl rfl rfl) ?_
                    clear hs a
                    intro a hs
                    replace hs := hs.to (τ := [(0, (.int .u64 epoch0)), (5, (.pointer t19)), (12, (.pointer (some a12))), (22, (Sl.val list1)), (23, (.int .i64 (list1.n : Int))), (24, (.int .i64 t24_1)), (78, (Sl.val t35x1)), (79, (.int .i64 (t35x1.n : Int))), (80, (.int .i64 t80_3)), (99, (.bool true))]) ⟨rfl, rfl, rfl, rfl, rfl, rfl, rfl, rfl, rfl, rfl, trivial⟩
                    refine d_pure hs #[true, true, true, true, true, true, true, true, true, true, true, true, true, true, true, true, true, false, false, false, false, false] (i := 16) rfl rfl rfl (by decide) (by kernel_rfl) (tight_body (P := Try.prog) (fn := Try.f9)) (p_move rfl rfl) ?_
                    clear hs a
                    intro a hs
                    refine d_no hs #[true, true, true, true, true, true, true, true, true, true, true, true, true, true, true, true, true, true, false, false, false, false] (i := 17) rfl rfl rfl (by decide) (by kernel_rfl) (tight_body (P := Try.prog) (fn := Try.f9)) ?_
                    clear hs a
                    intro a hs
                    refine d_no hs #[true, true, true, true, true, true, true, true, true, true, true, true, true, true, true, true, true, true, true, false, false, false] (i := 18) rfl rfl rfl (by decide) (by kernel_rfl) (tight_body (P := Try.prog) (fn := Try.f9)) ?_
                    clear hs a
                    intro a hs
                    refine d_no hs #[true, true, true, true, true, true, true, true, true, true, true, true, true, true, true, true, true, true, true, true, false, false] (i := 19) rfl rfl rfl (by decide) (by kernel_rfl) (tight_body (P := Try.prog) (fn := Try.f9)) ?_
                    clear hs a
                    intro a hs
                    refine d_no hs #[true, true, true, true, true, true, true, true, true, true, true, true, true, true, true, true, true, true, true, true, true, false] (i := 20) rfl rfl rfl (by decide) (by kernel_rfl) (tight_body (P := Try.prog) (fn := Try.f9)) ?_
                    clear hs a
                    intro a hs
                    refine d_pure hs #[true, true, true, true, true, true, true, true, true, true, true, true, true, true, true, true, true, true, true, true, true, true] (i := 21) rfl rfl rfl (by decide) (by kernel_rfl) (tight_body (P := Try.prog) (fn := Try.f9)) (p_pick_t rfl rfl rfl) ?_
                    clear hs a
                    intro a hs
                    refine d_done (by kernel_rfl) ?_ _
                    clear hS
                    exact J4 true _ _ (hs.to ⟨rfl, rfl, rfl, rfl, rfl, rfl, rfl, rfl, rfl, trivial⟩) h
                  · replace h := h.2 hb
                    rw [hb] at hs
                    clear hb
                    refine d_pure hs #[true, true, true, true, true, true, false, false, false, false, false, false, false, false, false, false, false, false, false, false, false, false] (i := 5) rfl rfl rfl (by decide) (by kernel_rfl) (tight_body (P := Try.prog) (fn := Try.f9)) (p_fieldAddr rfl rfl ft_36_1) ?_
                    clear hs a
                    intro a hs
                    refine d_pure hs #[true, true, true, true, true, true, false, true, false, false, false, false, false, false, false, false, false, false, false, false, false, false] (i := 7) rfl rfl rfl (by decide) (by kernel_rfl) (tight_body (P := Try.prog) (fn := Try.f9)) (p_move rfl rfl) ?_
                    clear hs a
                    intro a hs
                    obtain ⟨t90, hv, h⟩ := h
                    refine d_read hs #[true, true, true, true, true, true, true, true, false, false, false, false, false, false, false, false, false, false, false, false, false, false] (i := 6) rfl rfl rfl (by decide) (by kernel_rfl) (by kernel_rfl) (tight_body (P := Try.prog) (fn := Try.f9)) hS (fun w h' => e_load rfl rfl ct_23 (hv w h')) ?_
                    clear hs a hv
                    intro a hs
                    replace hs := hs.to (τ := [(0, (.int .u64 epoch0)), (5, (.pointer t19)), (12, (.pointer (some a12))), (22, (Sl.val list1)), (23, (.int .i64 (list1.n : Int))), (24, (.int .i64 t24_1)), (78, (Sl.val t35x1)), (79, (.int .i64 (t35x1.n : Int))), (80, (.int .i64 t80_3)), (88, (.bool false)), (90, (.int .u64 t90)), (91, (.pointer t19))]) ⟨rfl, rfl, rfl, rfl, rfl, rfl, rfl, rfl, rfl, rfl, rfl, rfl, trivial⟩
                    refine d_all [8] (by kernel_rfl) (by decide) ?_
                    refine AllS.cons ?_ AllS.nil
                    refine d_call hs #[true, true, true, true, true, true, true, true, true, false, false, false, false, false, false, false, false, false, false, false, false, false] (i := 8) rfl rfl rfl (by decide) rfl (e_call rfl rfl rfl cb_38) h (fun v w'' hk => by obtain ⟨t92, _, hS, _⟩ := hk; exact fun _ _ => hS) ?_
                    clear hs a h
                    intro v a w hk hs
                    obtain ⟨t92, rfl, h⟩ := hk
                    obtain ⟨hS, h⟩ := h
                    refine d_pure hs #[true, true, true, true, true, true, true, true, true, true, false, false, false, false, false, false, false, false, false, false, false, false] (i := 9) rfl rfl rfl (by decide) (by kernel_rfl) (tight_body (P := Try.prog) (fn := Try.f9)) (p_ne rfl rfl rfl) ?_
                    clear hs a
                    intro a hs
                    refine d_pure hs #[true, true, true, true, true, true, true, true, true, true, true, false, false, false, false, false, false, false, false, false, false, false] (i := 10) rfl rfl rfl (by decide) (by kernel_rfl) (tight_body (P := Try.prog) (fn := Try.f9)) (p_pick_f rfl rfl rfl) ?_
                    clear hs a
                    intro a hs
                    refine d_pure hs #[true, true, true, true, true, true, true, true, true, true, true, true, false, false, false, false, false, false, false, false, false, false] (i := 11) rfl rfl rfl (by decide) (by kernel_rfl) (tight_body (P := Try.prog) (fn := Try.f9)) (p_move rfl rfl) ?_
                    clear hs a
                    intro a hs
                    refine split_bool (decide (t90 ≠ t92)) (fun hb => ?_) (fun hb => ?_)
                    · replace h := h.1 hb
                      rw [hb] at hs
                      clear hb
                      refine d_no hs #[true, true, true, true, true, true, true, true, true, true, true, true, true, false, false, false, false, false, false, false, false, false] (i := 12) rfl rfl rfl (by decide) (by kernel_rfl) (tight_body (P := Try.prog) (fn := Try.f9)) ?_
                      clear hs a
                      intro a hs
                      refine d_no hs #[true, true, true, true, true, true, true, true, true, true, true, true, true, true, false, false, false, false, false, false, false, false] (i := 13) rfl rfl rfl (by decide) (by kernel_rfl) (tight_body (P := Try.prog) (fn := Try.f9)) ?_
                      clear hs a
                      intro a hs
                      refine d_no hs #[true, true, true, true, true, true, true, true, true, true, true, true, true, true, true, false, false, false, false, false, false, false] (i := 14) rfl rfl rfl (by decide) (by kernel_rfl) (tight_body (P := Try.prog) (fn := Try.f9)) ?_
                      clear hs a
                      intro a hs
                      refine d_pure hs #[true, true, true, true, true, true, true, true, true, true, true, true, true, true, true, true, false, false, false, false, false, false] (i := 15) rfl rfl rfl (by decide) (by kernel_rfl) (tight_body (P := Try.prog) (fn := Try.f9)) (p_pick_t rfl rfl rfl) ?_
                      clear hs a
                      intro a hs
                      replace hs := hs.to (τ := [(0, (.int .u64 epoch0)), (5, (.pointer t19)), (12, (.pointer (some a12))), (22, (Sl.val list1)), (23, (.int .i64 (list1.n : Int))), (24, (.int .i64 t24_1)), (78, (Sl.val t35x1)), (79, (.int .i64 (t35x1.n : Int))), (80, (.int .i64 t80_3)), (99, (.bool true))]) ⟨rfl, rfl, rfl, rfl, rfl, rfl, rfl, rfl, rfl, rfl, trivial⟩
                      refine d_pure hs #[true, true, true, true, true, true, true, true, true, true, true, true, true, true, true, true, true, false, false, false, false, false] (i := 16) rfl rfl rfl (by decide) (by kernel_rfl) (tight_body (P := Try.prog) (fn := Try.f9)) (p_move rfl rfl) ?_
                      clear hs a
                      intro a hs
                      refine d_no hs #[true, true, true, true, true, true, true, true, true, true, true, true, true, true, true, true, true, true, false, false, false, false] (i := 17) rfl rfl rfl (by decide) (by kernel_rfl) (tight_body (P := Try.prog) (fn := Try.f9)) ?_
                      clear hs a
                      intro a hs
                      refine d_no hs #[true, true, true, true, true, true, true, true, true, true, true, true, true, true, true, true, true, true, true, false, false, false] (i := 18) rfl rfl rfl (by decide) (by kernel_rfl) (tight_body (P := Try.prog) (fn := Try.f9)) ?_
                      clear hs a
                      intro a hs
                      refine d_no hs #[true, true, true, true, true, true, true, true, true, true, true, true, true, true, true, true, true, true, true, true, false, false] (i := 19) rfl rfl rfl (by decide) (by kernel_rfl) (tight_body (P := Try.prog) (fn := Try.f9)) ?_
                      clear hs a
                      intro a hs
                      refine d_no hs #[true, true, true, true, true, true, true, true, true, true, true, true, true, true, true, true, true, true, true, true, true, false] (i := 20) rfl rfl rfl (by decide) (by kernel_rfl) (tight_body (P := Try.prog) (fn := Try.f9)) ?_
                      clear hs a
                      intro a hs
                      refine d_pure hs #[true, true, true, true, true, true, true, true, true, true, true, true, true, true, true, true, true, true, true, true, true, true] (i := 21) rfl rfl rfl (by decide) (by kernel_rfl) (tight_body (P := Try.prog) (fn := Try.f9)) (p_pick_t rfl rfl rfl) ?_
                      clear hs a
                      intro a hs
                      refine d_done (by kernel_rfl) ?_ _
                      clear hS
                      exact J4 true _ _ (hs.to ⟨rfl, rfl, rfl, rfl, rfl, rfl, rfl, rfl, rfl, trivial⟩) h
                    · replace h := h.2 hb
                      rw [hb] at hs
                      clear hb
                      refine d_pure hs #[true, true, true, true, true, true, true, true, true, true, true, true, true, false, false, false, false, false, false, false, false, false] (i := 12) rfl rfl rfl (by decide) (by kernel_rfl) (tight_body (P := Try.prog) (fn := Try.f9)) (p_fieldAddr rfl rfl ft_36_2) ?_
                      clear hs a
                      intro a hs
                      obtain ⟨t97, hv, h⟩ := h
                      refine d_read hs #[true, true, true, true, true, true, true, true, true, true, true, true, true, true, false, false, false, false, false, false, false, false] (i := 13) rfl rfl rfl (by decide) (by kernel_rfl) (by kernel_rfl) (tight_body (P := Try.prog) (fn := Try.f9)) hS (fun w h' => e_load rfl rfl ct_23 (hv w h')) ?_
                      clear hs a hv
                      intro a hs
                      refine d_pure hs #[true, true, true, true, true, true, true, true, true, true, true, true, true, true, true, false, false, false, false, false, false, false] (i := 14) rfl rfl rfl (by decide) (by kernel_rfl) (tight_body (P := Try.prog) (fn := Try.f9)) (p_ne rfl rfl rfl) ?_
                      clear hs a
                      intro a hs
                      refine d_pure hs #[true, true, true, true, true, true, true, true, true, true, true, true, true, true, true, true, false, false, false, false, false, false] (i := 15) rfl rfl rfl (by decide) (by kernel_rfl) (tight_body (P := Try.prog) (fn := Try.f9)) (p_pick_f rfl rfl rfl) ?_
                      clear hs a
                      intro a hs
                      replace hs := hs.to (τ := [(0, (.int .u64 epoch0)), (5, (.pointer t19)), (12, (.pointer (some a12))), (22, (Sl.val list1)), (23, (.int .i64 (list1.n : Int))), (24, (.int .i64 t24_1)), (78, (Sl.val t35x1)), (79, (.int .i64 (t35x1.n : Int))), (80, (.int .i64 t80_3)), (99, (.bool (decide (t97 ≠ 0))))]) ⟨rfl, rfl, rfl, rfl, rfl, rfl, rfl, rfl, rfl, rfl, trivial⟩
                      refine d_pure hs #[true, true, true, true, true, true, true, true, true, true, true, true, true, true, true, true, true, false, false, false, false, false] (i := 16) rfl rfl rfl (by decide) (by kernel_rfl) (tight_body (P := Try.prog) (fn := Try.f9)) (p_move rfl rfl) ?_
                      clear hs a
                      intro a hs
                      refine split_bool (decide (t97 ≠ 0)) (fun hb => ?_) (fun hb => ?_)
                      · replace h := h.1 hb
                        rw [hb] at hs
                        clear hb
                        refine d_no hs #[true, true, true, true, true, true, true, true, true, true, true, true, true, true, true, true, true, true, false, false, false, false] (i := 17) rfl rfl rfl (by decide) (by kernel_rfl) (tight_body (P := Try.prog) (fn := Try.f9)) ?_
                        clear hs a
                        intro a hs
                        refine d_no hs #[true, true, true, true, true, true, true, true, true, true, true, true, true, true, true, true, true, true, true, false, false, false] (i := 18) rfl rfl rfl (by decide) (by kernel_rfl) (tight_body (P := Try.prog) (fn := Try.f9)) ?_
                        clear hs a
                        intro a hs
                        refine d_no hs #[true, true, true, true, true, true, true, true, true, true, true, true, true, true, true, true, true, true, true, true, false, false] (i := 19) rfl rfl rfl (by decide) (by kernel_rfl) (tight_body (P := Try.prog) (fn := Try.f9)) ?_
                        clear hs a
                        intro a hs
                        refine d_no hs #[true, true, true, true, true, true, true, true, true, true, true, true, true, true, true, true, true, true, true, true, true, false] (i := 20) rfl rfl rfl (by decide) (by kernel_rfl) (tight_body (P := Try.prog) (fn := Try.f9)) ?_
                        clear hs a
                        intro a hs
                        refine d_pure hs #[true, true, true, true, true, true, true, true, true, true, true, true, true, true, true, true, true, true, true, true, true, true] (i := 21) rfl rfl rfl (by decide) (by kernel_rfl) (tight_body (P := Try.prog) (fn := Try.f9)) (p_pick_t rfl rfl rfl) ?_
                        clear hs a
                        intro a hs
                        refine d_done (by kernel_rfl) ?_ _
                        clear hS
                        exact J4 true _ _ (hs.to ⟨rfl, rfl, rfl, rfl, rfl, rfl, rfl, rfl, rfl, trivial⟩) h
                      · replace h := h.2 hb
                        rw [hb] at hs
                        clear hb
                        refine d_pure hs #[true, true, true, true, true, true, true, true, true, true, true, true, true, true, true, true, true, true, false, false, false, false] (i := 17) rfl rfl rfl (by decide) (by kernel_rfl) (tight_body (P := Try.prog) (fn := Try.f9)) (p_fieldAddr rfl rfl ft_36_4) ?_
                        clear hs a
                        intro a hs
                        obtain ⟨t102, hv, h⟩ := h
                        refine d_read hs #[true, true, true, true, true, true, true, true, true, true, true, true, true, true, true, true, true, true, true, false, false, false] (i := 18) rfl rfl rfl (by decide) (by kernel_rfl) (by kernel_rfl) (tight_body (P := Try.prog) (fn := Try.f9)) hS (fun w h' => e_load rfl rfl ct_22 (hv w h')) ?_
                        clear hs a hv
                        intro a hs
                        refine d_pure hs #[true, true, true, true, true, true, true, true, true, true, true, true, true, true, true, true, true, true, true, true, false, false] (i := 19) rfl rfl rfl (by decide) (by kernel_rfl) (tight_body (P := Try.prog) (fn := Try.f9)) (p_len rfl rfl sl_22) ?_
                        clear hs a
                        intro a hs
                        refine d_pure hs #[true, true, true, true, true, true, true, true, true, true, true, true, true, true, true, true, true, true, true, true, true, false] (i := 20) rfl rfl rfl (by decide) (by kernel_rfl) (tight_body (P := Try.prog) (fn := Try.f9)) (p_ne rfl rfl rfl) ?_
                        clear hs a
                        intro a hs
                        refine d_pure hs #[true, true, true, true, true, true, true, true, true, true, true, true, true, true, true, true, true, true, true, true, true, true] (i := 21) rfl rfl rfl (by decide) (by kernel_rfl) (tight_body (P := Try.prog) (fn := Try.f9)) (p_pick_f rfl rfl rfl) ?_
                        clear hs a
                        intro a hs
                        refine d_done (by kernel_rfl) ?_ _
                        clear hS
                        exact J4 (decide ((t102.n : Int) ≠ 0)) _ _ (hs.to ⟨rfl, rfl, rfl, rfl, rfl, rfl, rfl, rfl, rfl, trivial⟩) h
                · replace h := h.2 hb
                  clear hb
                  refine wp_exit ?_
                  refine hK25 _ _ ?_
                  refine wp_region_lit ?_
                  refine t_pure hs rfl rfl (by decide) (p_move rfl rfl) ?_
                  clear hs a
                  intro a hs
                  refine t_call hs rfl rfl (by decide) (e_call rfl rfl rfl cb_38) h ?_
                  clear hs a h
                  intro v a w hk hs
                  obtain ⟨t108, rfl, h⟩ := hk
                  refine t_pure hs rfl rfl (by decide) (p_assign rfl rfl) ?_
                  clear hs a
                  intro a hs
                  refine hK16 _ _ ?_
                  refine wp_region_lit ?_
                  obtain ⟨t109, he, h⟩ := h
                  refine t_pure hs rfl rfl (by decide) (Pure.int he (p_add rfl rfl rfl)) ?_
                  clear hs a he
                  intro a hs
                  refine t_pure hs rfl rfl (by decide) (p_move rfl rfl) ?_
                  clear hs a
                  intro a hs
                  rw [← hX1] at h
                  exact ⟨(t108, t109), hs.to ⟨rfl, rfl, rfl, rfl, rfl, rfl, trivial⟩, h⟩
            clear hK23
            obtain ⟨w1, hw1, h⟩ := h
            obtain ⟨S, hS, h⟩ := h
            subst hw1
            refine d_start (S := S) (ds := []) #[false, false, false, false, false, false, false, false, false, false, false, false, false, false, false, false, false, false, false, false, false, false, false, false, false, false, false, false, false, false, false, false, false, false, false, false, false, false, false, false] mixed rfl rfl ?_
            refine d_pure hs #[true, false, false, false, false, false, false, false, false, false, false, false, false, false, false, false, false, false, false, false, false, false, false, false, false, false, false, false, false, false, false, false, false, false, false, false, false, false, false, false] (i := 0) rfl rfl rfl (by decide) (by kernel_rfl) (tight_body (P := Try.prog) (fn := Try.f9)) (p_move rfl rfl) ?_
            clear hs a
            intro a hs
            refine d_pure hs #[true, true, false, false, false, false, false, false, false, false, false, false, false, false, false, false, false, false, false, false, false, false, false, false, false, false, false, false, false, false, false, false, false, false, false, false, false, false, false, false] (i := 1) rfl rfl rfl (by decide) (by kernel_rfl) (tight_body (P := Try.prog) (fn := Try.f9)) (p_len rfl rfl sl_56) ?_
            clear hs a
            intro a hs
            refine d_pure hs #[true, true, true, false, false, false, false, false, false, false, false, false, false, false, false, false, false, false, false, false, false, false, false, false, false, false, false, false, false, false, false, false, false, false, false, false, false, false, false, false] (i := 2) rfl rfl rfl (by decide) (by kernel_rfl) (tight_body (P := Try.prog) (fn := Try.f9)) (p_gt rfl rfl rfl) ?_
            clear hs a
            intro a hs
            refine d_pure hs #[true, true, true, true, false, false, false, false, false, false, false, false, false, false, false, false, false, false, false, false, false, false, false, false, false, false, false, false, false, false, false, false, false, false, false, false, false, false, false, false] (i := 3) rfl rfl rfl (by decide) (by kernel_rfl) (tight_body (P := Try.prog) (fn := Try.f9)) (p_move rfl rfl) ?_
            clear hs a
            intro a hs
            refine split_bool (decide ((0 : Int) < (t35x0.n : Int))) (fun hb => ?_) (fun hb => ?_)
            · replace h := h.1 hb
              rw [hb] at hs
              clear hb
              refine d_pure hs #[true, true, true, true, true, false, false, false, false, false, false, false, false, false, false, false, false, false, false, false, false, false, false, false, false, false, false, false, false, false, false, false, false, false, false, false, false, false, false, false] (i := 4) rfl rfl rfl (by decide) (by kernel_rfl) (tight_body (P := Try.prog) (fn := Try.f9)) (p_fieldAddr0 rfl rfl ft_36_0) ?_
              clear hs a
              intro a hs
              refine d_pure hs #[true, true, true, true, true, false, true, false, false, false, false, false, false, false, false, false, false, false, false, false, false, false, false, false, false, false, false, false, false, false, false, false, false, false, false, false, false, false, false, false] (i := 6) rfl rfl rfl (by decide) (by kernel_rfl) (tight_body (P := Try.prog) (fn := Try.f9)) (p_move rfl rfl) ?_
              clear hs a
              intro a hs
              obtain ⟨t43, hv, h⟩ := h
              refine d_read hs #[true, true, true, true, true, true, true, false, false, false, false, false, false, false, false, false, false, false, false, false, false, false, false, false, false, false, false, false, false, false, false, false, false, false, false, false, false, false, false, false] (i := 5) rfl rfl rfl (by decide) (by kernel_rfl) (by kernel_rfl) (tight_body (P := Try.prog) (fn := Try.f9)) hS (fun w h' => e_load rfl rfl ct_23 (hv w h')) ?_
              clear hs a hv
              intro a hs
              refine d_pure hs #[true, true, true, true, true, true, true, true, false, false, false, false, false, false, false, false, false, false, false, false, false, false, false, false, false, false, false, false, false, false, false, false, false, false, false, false, false, false, false, false] (i := 7) rfl rfl rfl (by decide) (by kernel_rfl) (tight_body (P := Try.prog) (fn := Try.f9)) (p_lt rfl rfl rfl) ?_
              clear hs a
              intro a hs
              replace hs := hs.to (τ := [(0, (.int .u64 epoch0)), (5, (.pointer t19)), (6, (.int .u64 peer6_1)), (8, (.pointer (some p8))), (10, (Sl.val t35x1)), (22, (Sl.val list1)), (23, (.int .i64 (list1.n : Int))), (24, (.int .i64 t24_1)), (41, (.bool true)), (45, (.bool (decide (t43 < peer6_1))))]) ⟨rfl, rfl, rfl, rfl, rfl, rfl, rfl, rfl, rfl, rfl, trivial⟩
              refine d_pure hs #[true, true, true, true, true, true, true, true, true, false, false, false, false, false, false, false, false, false, false, false, false, false, false, false, false, false, false, false, false, false, false, false, false, false, false, false, false, false, false, false] (i := 8) rfl rfl rfl (by decide) (by kernel_rfl) (tight_body (P := Try.prog) (fn := Try.f9)) (p_move rfl rfl) ?_
              clear hs a
              intro a hs
              refine split_bool (decide (t43 < peer6_1)) (fun hb => ?_) (fun hb => ?_)
              · replace h := h.1 hb
                rw [hb] at hs
                clear hb
                refine d_no hs #[true, true, true, true, true, true, true, true, true, true, false, false, false, false, false, false, false, false, false, false, false, false, false, false, false, false, false, false, false, false, false, false, false, false, false, false, false, false, false, false] (i := 9) rfl rfl rfl (by decide) (by kernel_rfl) (tight_body (P := Try.prog) (fn := Try.f9)) ?_
                clear hs a
                intro a hs
                refine d_no hs #[true, true, true, true, true, true, true, true, true, true, true, false, false, false, false, false, false, false, false, false, false, false, false, false, false, false, false, false, false, false, false, false, false, false, false, false, false, false, false, false] (i := 10) rfl rfl rfl (by decide) (by kernel_rfl) (tight_body (P := Try.prog) (fn := Try.f9)) ?_
                clear hs a
                intro a hs
                refine d_no hs #[true, true, true, true, true, true, true, true, true, true, true, true, false, false, false, false, false, false, false, false, false, false, false, false, false, false, false, false, false, false, false, false, false, false, false, false, false, false, false, false] (i := 11) rfl rfl rfl (by decide) (by kernel_rfl) (tight_body (P := Try.prog) (fn := Try.f9)) ?_
                clear hs a
                intro a hs
                refine d_no hs #[true, true, true, true, true, true, true, true, true, true, true, true, true, false, false, false, false, false, false, false, false, false, false, false, false, false, false, false, false, false, false, false, false, false, false, false, false, false, false, false] (i := 12) rfl rfl rfl (by decide) (by kernel_rfl) (tight_body (P := Try.prog) (fn := Try.f9)) ?_
                clear hs a
                intro a hs
                refine d_pure hs #[true, true, true, true, true, true, true, true, true, true, true, true, true, true, false, false, false, false, false, false, false, false, false, false, false, false, false, false, false, false, false, false, false, false, false, false, false, false, false, false] (i := 13) rfl rfl rfl (by decide) (by kernel_rfl) (tight_body (P := Try.prog) (fn := Try.f9)) (p_pick_t rfl rfl rfl) ?_
                clear hs a
                intro a hs
                refine d_pure hs #[true, true, true, true, true, true, true, true, true, true, true, true, true, true, true, false, false, false, false, false, false, false, false, false, false, false, false, false, false, false, false, false, false, false, false, false, false, false, false, false] (i := 14) rfl rfl rfl (by decide) (by kernel_rfl) (tight_body (P := Try.prog) (fn := Try.f9)) (p_move rfl rfl) ?_
                clear hs a
                intro a hs
                refine d_no hs #[true, true, true, true, true, true, true, true, true, true, true, true, true, true, true, true, false, false, false, false, false, false, false, false, false, false, false, false, false, false, false, false, false, false, false, false, false, false, false, false] (i := 15) rfl rfl rfl (by decide) (by kernel_rfl) (tight_body (P := Try.prog) (fn := Try.f9)) ?_
                clear hs a
                intro a hs
                replace hs := hs.to (τ := [(0, (.int .u64 epoch0)), (5, (.pointer t19)), (6, (.int .u64 peer6_1)), (8, (.pointer (some p8))), (10, (Sl.val t35x1)), (22, (Sl.val list1)), (23, (.int .i64 (list1.n : Int))), (24, (.int .i64 t24_1)), (41, (.bool true)), (52, (.bool true)), (53, undef)]) ⟨rfl, rfl, rfl, rfl, rfl, rfl, rfl, rfl, rfl, rfl, rfl, trivial⟩
                refine d_no hs #[true, true, true, true, true, true, true, true, true, true, true, true, true, true, true, true, true, false, false, false, false, false, false, false, false, false, false, false, false, false, false, false, false, false, false, false, false, false, false, false] (i := 16) rfl rfl rfl (by decide) (by kernel_rfl) (tight_body (P := Try.prog) (fn := Try.f9)) ?_
                clear hs a
                intro a hs
                refine d_no hs #[true, true, true, true, true, true, true, true, true, true, true, true, true, true, true, true, true, true, false, false, false, false, false, false, false, false, false, false, false, false, false, false, false, false, false, false, false, false, false, false] (i := 17) rfl rfl rfl (by decide) (by kernel_rfl) (tight_body (P := Try.prog) (fn := Try.f9)) ?_
                clear hs a
                intro a hs
                refine d_pure hs #[true, true, true, true, true, true, true, true, true, true, true, true, true, true, true, true, true, true, true, false, false, false, false, false, false, false, false, false, false, false, false, false, false, false, false, false, false, false, false, false] (i := 18) rfl rfl rfl (by decide) (by kernel_rfl) (tight_body (P := Try.prog) (fn := Try.f9)) (p_pick_t rfl rfl rfl) ?_
                clear hs a
                intro a hs
                refine d_pure hs #[true, true, true, true, true, true, true, true, true, true, true, true, true, true, true, true, true, true, true, true, false, false, false, false, false, false, false, false, false, false, false, false, false, false, false, false, false, false, false, false] (i := 19) rfl rfl rfl (by decide) (by kernel_rfl) (tight_body (P := Try.prog) (fn := Try.f9)) (p_pick_t rfl rfl rfl) ?_
                clear hs a
                intro a hs
                refine d_pure hs #[true, true, true, true, true, true, true, true, true, true, true, true, true, true, true, true, true, true, true, true, true, false, false, false, false, false, false, false, false, false, false, false, false, false, false, false, false, false, false, false] (i := 20) rfl rfl rfl (by decide) (by kernel_rfl) (tight_body (P := Try.prog) (fn := Try.f9)) (p_move rfl rfl) ?_
                clear hs a
                intro a hs
                refine d_no hs #[true, true, true, true, true, true, true, true, true, true, true, true, true, true, true, true, true, true, true, true, true, true, false, false, false, false, false, false, false, false, false, false, false, false, false, false, false, false, false, false] (i := 21) rfl rfl rfl (by decide) (by kernel_rfl) (tight_body (P := Try.prog) (fn := Try.f9)) ?_
                clear hs a
                intro a hs
                refine d_no hs #[true, true, true, true, true, true, true, true, true, true, true, true, true, true, true, true, true, true, true, true, true, true, true, false, false, false, false, false, false, false, false, false, false, false, false, false, false, false, false, false] (i := 22) rfl rfl rfl (by decide) (by kernel_rfl) (tight_body (P := Try.prog) (fn := Try.f9)) ?_
                clear hs a
                intro a hs
                refine d_no hs #[true, true, true, true, true, true, true, true, true, true, true, true, true, true, true, true, true, true, true, true, true, true, true, true, false, false, false, false, false, false, false, false, false, false, false, false, false, false, false, false] (i := 23) rfl rfl rfl (by decide) (by kernel_rfl) (tight_body (P := Try.prog) (fn := Try.f9)) ?_
                clear hs a
                intro a hs
                replace hs := hs.to (τ := [(0, (.int .u64 epoch0)), (5, (.pointer t19)), (6, (.int .u64 peer6_1)), (8, (.pointer (some p8))), (10, (Sl.val t35x1)), (22, (Sl.val list1)), (23, (.int .i64 (list1.n : Int))), (24, (.int .i64 t24_1)), (58, (.bool true)), (61, undef)]) ⟨rfl, rfl, rfl, rfl, rfl, rfl, rfl, rfl, rfl, rfl, trivial⟩
                refine d_pure hs #[true, true, true, true, true, true, true, true, true, true, true, true, true, true, true, true, true, true, true, true, true, true, true, true, true, false, false, false, false, false, false, false, false, false, false, false, false, false, false, false] (i := 24) rfl rfl rfl (by decide) (by kernel_rfl) (tight_body (P := Try.prog) (fn := Try.f9)) (p_pick_t rfl rfl rfl) ?_
                clear hs a
                intro a hs
                refine d_pure hs #[true, true, true, true, true, true, true, true, true, true, true, true, true, true, true, true, true, true, true, true, true, true, true, true, true, true, false, false, false, false, false, false, false, false, false, false, false, false, false, false] (i := 25) rfl rfl rfl (by decide) (by kernel_rfl) (tight_body (P := Try.prog) (fn := Try.f9)) (p_move rfl rfl) ?_
                clear hs a
                intro a hs
                refine d_no hs #[true, true, true, true, true, true, true, true, true, true, true, true, true, true, true, true, true, true, true, true, true, true, true, true, true, true, true, false, false, false, false, false, false, false, false, false, false, false, false, false] (i := 26) rfl rfl rfl (by decide) (by kernel_rfl) (tight_body (P := Try.prog) (fn := Try.f9)) ?_
                clear hs a
                intro a hs
                refine d_no hs #[true, true, true, true, true, true, true, true, true, true, true, true, true, true, true, true, true, true, true, true, true, true, true, true, true, true, true, true, false, false, false, false, false, false, false, false, false, false, false, false] (i := 27) rfl rfl rfl (by decide) (by kernel_rfl) (tight_body (P := Try.prog) (fn := Try.f9)) ?_
                clear hs a
                intro a hs
                refine d_no hs #[true, true, true, true, true, true, true, true, true, true, true, true, true, true, true, true, true, true, true, true, true, true, true, true, true, true, true, true, true, false, false, false, false, false, false, false, false, false, false, false] (i := 28) rfl rfl rfl (by decide) (by kernel_rfl) (tight_body (P := Try.prog) (fn := Try.f9)) ?_
                clear hs a
                intro a hs
                refine d_no hs #[true, true, true, true, true, true, true, true, true, true, true, true, true, true, true, true, true, true, true, true, true, true, true, true, true, true, true, true, true, true, false, false, false, false, false, false, false, false, false, false] (i := 29) rfl rfl rfl (by decide) (by kernel_rfl) (tight_body (P := Try.prog) (fn := Try.f9)) ?_
                clear hs a
                intro a hs
                refine d_pure hs #[true, true, true, true, true, true, true, true, true, true, true, true, true, true, true, true, true, true, true, true, true, true, true, true, true, true, true, true, true, true, true, false, false, false, false, false, false, false, false, false] (i := 30) rfl rfl rfl (by decide) (by kernel_rfl) (tight_body (P := Try.prog) (fn := Try.f9)) (p_pick_t rfl rfl rfl) ?_
                clear hs a
                intro a hs
                refine d_pure hs #[true, true, true, true, true, true, true, true, true, true, true, true, true, true, true, true, true, true, true, true, true, true, true, true, true, true, true, true, true, true, true, true, false, false, false, false, false, false, false, false] (i := 31) rfl rfl rfl (by decide) (by kernel_rfl) (tight_body (P := Try.prog) (fn := Try.f9)) (p_move rfl rfl) ?_
                clear hs a
                intro a hs
                replace hs := hs.to (τ := [(0, (.int .u64 epoch0)), (5, (.pointer t19)), (6, (.int .u64 peer6_1)), (8, (.pointer (some p8))), (10, (Sl.val t35x1)), (22, (Sl.val list1)), (23, (.int .i64 (list1.n : Int))), (24, (.int .i64 t24_1)), (69, (.bool true))]) ⟨rfl, rfl, rfl, rfl, rfl, rfl, rfl, rfl, rfl, trivial⟩
                refine d_no hs #[true, true, true, true, true, true, true, true, true, true, true, true, true, true, true, true, true, true, true, true, true, true, true, true, true, true, true, true, true, true, true, true, true, false, false, false, false, false, false, false] (i := 32) rfl rfl rfl (by decide) (by kernel_rfl) (tight_body (P := Try.prog) (fn := Try.f9)) ?_
                clear hs a
                intro a hs
                refine d_no hs #[true, true, true, true, true, true, true, true, true, true, true, true, true, true, true, true, true, true, true, true, true, true, true, true, true, true, true, true, true, true, true, true, true, true, false, false, false, false, false, false] (i := 33) rfl rfl rfl (by decide) (by kernel_rfl) (tight_body (P := Try.prog) (fn := Try.f9)) ?_
                clear hs a
                intro a hs
                refine d_no hs #[true, true, true, true, true, true, true, true, true, true, true, true, true, true, true, true, true, true, true, true, true, true, true, true, true, true, true, true, true, true, true, true, true, true, true, false, false, false, false, false] (i := 34) rfl rfl rfl (by decide) (by kernel_rfl) (tight_body (P := Try.prog) (fn := Try.f9)) ?_
                clear hs a
                intro a hs
                refine d_no hs #[true, true, true, true, true, true, true, true, true, true, true, true, true, true, true, true, true, true, true, true, true, true, true, true, true, true, true, true, true, true, true, true, true, true, true, true, false, false, false, false] (i := 35) rfl rfl rfl (by decide) (by kernel_rfl) (tight_body (P := Try.prog) (fn := Try.f9)) ?_
                clear hs a
                intro a hs
                refine d_no hs #[true, true, true, true, true, true, true, true, true, true, true, true, true, true, true, true, true, true, true, true, true, true, true, true, true, true, true, true, true, true, true, true, true, true, true, true, true, false, false, false] (i := 36) rfl rfl rfl (by decide) (by kernel_rfl) (tight_body (P := Try.prog) (fn := Try.f9)) ?_
                clear hs a
                intro a hs
                refine d_no hs #[true, true, true, true, true, true, true, true, true, true, true, true, true, true, true, true, true, true, true, true, true, true, true, true, true, true, true, true, true, true, true, true, true, true, true, true, true, true, false, false] (i := 37) rfl rfl rfl (by decide) (by kernel_rfl) (tight_body (P := Try.prog) (fn := Try.f9)) ?_
                clear hs a
                intro a hs
                refine d_no hs #[true, true, true, true, true, true, true, true, true, true, true, true, true, true, true, true, true, true, true, true, true, true, true, true, true, true, true, true, true, true, true, true, true, true, true, true, true, true, true, false] (i := 38) rfl rfl rfl (by decide) (by kernel_rfl) (tight_body (P := Try.prog) (fn := Try.f9)) ?_
                clear hs a
                intro a hs
                refine d_pure hs #[true, true, true, true, true, true, true, true, true, true, true, true, true, true, true, true, true, true, true, true, true, true, true, true, true, true, true, true, true, true, true, true, true, true, true, true, true, true, true, true] (i := 39) rfl rfl rfl (by decide) (by kernel_rfl) (tight_body (P := Try.prog) (fn := Try.f9)) (p_pick_t rfl rfl rfl) ?_
                clear hs a
                intro a hs
                replace hs := hs.to (τ := [(0, (.int .u64 epoch0)), (5, (.pointer t19)), (10, (Sl.val t35x1)), (22, (Sl.val list1)), (23, (.int .i64 (list1.n : Int))), (24, (.int .i64 t24_1)), (77, (.bool true))]) ⟨rfl, rfl, rfl, rfl, rfl, rfl, rfl, trivial⟩
                refine d_done (by kernel_rfl) ?_ _
                clear hS
                exact J2 true _ _ (hs.to ⟨rfl, rfl, rfl, rfl, rfl, rfl, rfl, trivial⟩) h
              · replace h := h.2 hb
                rw [hb] at hs
                clear hb
                refine d_pure hs #[true, true, true, true, true, true, true, true, true, true, false, false, false, false, false, false, false, false, false, false, false, false, false, false, false, false, false, false, false, false, false, false, false, false, false, false, false, false, false, false] (i := 9) rfl rfl rfl (by decide) (by kernel_rfl) (tight_body (P := Try.prog) (fn := Try.f9)) (p_fieldAddr rfl rfl ft_36_1) ?_
                clear hs a
                intro a hs
                refine d_pure hs #[true, true, true, true, true, true, true, true, true, true, false, true, false, false, false, false, false, false, false, false, false, false, false, false, false, false, false, false, false, false, false, false, false, false, false, false, false, false, false, false] (i := 11) rfl rfl rfl (by decide) (by kernel_rfl) (tight_body (P := Try.prog) (fn := Try.f9)) (p_move rfl rfl) ?_
                clear hs a
                intro a hs
                obtain ⟨t48, hv, h⟩ := h
                refine d_read hs #[true, true, true, true, true, true, true, true, true, true, true, true, false, false, false, false, false, false, false, false, false, false, false, false, false, false, false, false, false, false, false, false, false, false, false, false, false, false, false, false] (i := 10) rfl rfl rfl (by decide) (by kernel_rfl) (by kernel_rfl) (tight_body (P := Try.prog) (fn := Try.f9)) hS (fun w h' => e_load rfl rfl ct_23 (hv w h')) ?_
                clear hs a hv
                intro a hs
                refine d_pure hs #[true, true, true, true, true, true, true, true, true, true, true, true, true, false, false, false, false, false, false, false, false, false, false, false, false, false, false, false, false, false, false, false, false, false, false, false, false, false, false, false] (i := 12) rfl rfl rfl (by decide) (by kernel_rfl) (tight_body (P := Try.prog) (fn := Try.f9)) (p_ne rfl rfl rfl) ?_
                clear hs a
                intro a hs
                refine d_pure hs #[true, true, true, true, true, true, true, true, true, true, true, true, true, true, false, false, false, false, false, false, false, false, false, false, false, false, false, false, false, false, false, false, false, false, false, false, false, false, false, false] (i := 13) rfl rfl rfl (by decide) (by kernel_rfl) (tight_body (P := Try.prog) (fn := Try.f9)) (p_pick_f rfl rfl rfl) ?_
                clear hs a
                intro a hs
                refine d_pure hs #[true, true, true, true, true, true, true, true, true, true, true, true, true, true, true, false, false, false, false, false, false, false, false, false, false, false, false, false, false, false, false, false, false, false, false, false, false, false, false, false] (i := 14) rfl rfl rfl (by decide) (by kernel_rfl) (tight_body (P := Try.prog) (fn := Try.f9)) (p_move rfl rfl) ?_
                clear hs a
                intro a hs
                refine split_bool (decide (t48 ≠ epoch0)) (fun hb => ?_) (fun hb => ?_)
                · replace h := h.1 hb
                  rw [hb] at hs
                  clear hb
                  refine d_no hs #[true, true, true, true, true, true, true, true, true, true, true, true, true, true, true, true, false, false, false, false, false, false, false, false, false, false, false, false, false, false, false, false, false, false, false, false, false, false, false, false] (i := 15) rfl rfl rfl (by decide) (by kernel_rfl) (tight_body (P := Try.prog) (fn := Try.f9)) ?_
                  clear hs a
                  intro a hs
                  replace hs := hs.to (τ := [(0, (.int .u64 epoch0)), (5, (.pointer t19)), (6, (.int .u64 peer6_1)), (8, (.pointer (some p8))), (10, (Sl.val t35x1)), (22, (Sl.val list1)), (23, (.int .i64 (list1.n : Int))), (24, (.int .i64 t24_1)), (41, (.bool true)), (52, (.bool true)), (53, undef)]) ⟨rfl, rfl, rfl, rfl, rfl, rfl, rfl, rfl, rfl, rfl, rfl, trivial⟩
                  refine d_no hs #[true, true, true, true, true, true, true, true, true, true, true, true, true, true, true, true, true, false, false, false, false, false, false, false, false, false, false, false, false, false, false, false, false, false, false, false, false, false, false, false] (i := 16) rfl rfl rfl (by decide) (by kernel_rfl) (tight_body (P := Try.prog) (fn := Try.f9)) ?_
                  clear hs a
                  intro a hs
                  refine d_no hs #[true, true, true, true, true, true, true, true, true, true, true, true, true, true, true, true, true, true, false, false, false, false, false, false, false, false, false, false, false, false, false, false, false, false, false, false, false, false, false, false] (i := 17) rfl rfl rfl (by decide) (by kernel_rfl) (tight_body (P := Try.prog) (fn := Try.f9)) ?_
                  clear hs a
                  intro a hs
                  refine d_pure hs #[true, true, true, true, true, true, true, true, true, true, true, true, true, true, true, true, true, true, true, false, false, false, false, false, false, false, false, false, false, false, false, false, false, false, false, false, false, false, false, false] (i := 18) rfl rfl rfl (by decide) (by kernel_rfl) (tight_body (P := Try.prog) (fn := Try.f9)) (p_pick_t rfl rfl rfl) ?_
                  clear hs a
                  intro a hs
                  refine d_pure hs #[true, true, true, true, true, true, true, true, true, true, true, true, true, true, true, true, true, true, true, true, false, false, false, false, false, false, false, false, false, false, false, false, false, false, false, false, false, false, false, false] (i := 19) rfl rfl rfl (by decide) (by kernel_rfl) (tight_body (P := Try.prog) (fn := Try.f9)) (p_pick_t rfl rfl rfl) ?_
                  clear hs a
                  intro a hs
                  refine d_pure hs #[true, true, true, true, true, true, true, true, true, true, true, true, true, true, true, true, true, true, true, true, true, false, false, false, false, false, false, false, false, false, false, false, false, false, false, false, false, false, false, false] (i := 20) rfl rfl rfl (by decide) (by kernel_rfl) (tight_body (P := Try.prog) (fn := Try.f9)) (p_move rfl rfl) ?_
                  clear hs a
                  intro a hs
                  refine d_no hs #[true, true, true, true, true, true, true, true, true, true, true, true, true, true, true, true, true, true, true, true, true, true, false, false, false, false, false, false, false, false, false, false, false, false, false, false, false, false, false, false] (i := 21) rfl rfl rfl (by decide) (by kernel_rfl) (tight_body (P := Try.prog) (fn := Try.f9)) ?_
                  clear hs a
                  intro a hs
                  refine d_no hs #[true, true, true, true, true, true, true, true, true, true, true, true, true, true, true, true, true, true, true, true, true, true, true, false, false, false, false, false, false, false, false, false, false, false, false, false, false, false, false, false] (i := 22) rfl rfl rfl (by decide) (by kernel_rfl) (tight_body (P := Try.prog) (fn := Try.f9)) ?_
                  clear hs a
                  intro a hs
                  refine d_no hs #[true, true, true, true, true, true, true, true, true, true, true, true, true, true, true, true, true, true, true, true, true, true, true, true, false, false, false, false, false, false, false, false, false, false, false, false, false, false, false, false] (i := 23) rfl rfl rfl (by decide) (by kernel_rfl) (tight_body (P := Try.prog) (fn := Try.f9)) ?_
                  clear hs a
                  intro a hs
                  replace hs := hs.to (τ := [(0, (.int .u64 epoch0)), (5, (.pointer t19)), (6, (.int .u64 peer6_1)), (8, (.pointer (some p8))), (10, (Sl.val t35x1)), (22, (Sl.val list1)), (23, (.int .i64 (list1.n : Int))), (24, (.int .i64 t24_1)), (58, (.bool true)), (61, undef)]) ⟨rfl, rfl, rfl, rfl, rfl, rfl, rfl, rfl, rfl, rfl, trivial⟩
                  refine d_pure hs #[true, true, true, true, true, true, true, true, true, true, true, true, true, true, true, true, true, true, true, true, true, true, true, true, true, false, false, false, false, false, false, false, false, false, false, false, false, false, false, false] (i := 24) rfl rfl rfl (by decide) (by kernel_rfl) (tight_body (P := Try.prog) (fn := Try.f9)) (p_pick_t rfl rfl rfl) ?_
                  clear hs a
                  intro a hs
                  refine d_pure hs #[true, true, true, true, true, true, true, true, true, true, true, true, true, true, true, true, true, true, true, true, true, true, true, true, true, true, false, false, false, false, false, false, false, false, false, false, false, false, false, false] (i := 25) rfl rfl rfl (by decide) (by kernel_rfl) (tight_body (P := Try.prog) (fn := Try.f9)) (p_move rfl rfl) ?_
                  clear hs a
                  intro a hs
                  refine d_no hs #[true, true, true, true, true, true, true, true, true, true, true, true, true, true, true, true, true, true, true, true, true, true, true, true, true, true, true, false, false, false, false, false, false, false, false, false, false, false, false, false] (i := 26) rfl rfl rfl (by decide) (by kernel_rfl) (tight_body (P := Try.prog) (fn := Try.f9)) ?_
                  clear hs a
                  intro a hs
                  refine d_no hs #[true, true, true, true, true, true, true, true, true, true, true, true, true, true, true, true, true, true, true, true, true, true, true, true, true, true, true, true, false, false, false, false, false, false, false, false, false, false, false, false] (i := 27) rfl rfl rfl (by decide) (by kernel_rfl) (tight_body (P := Try.prog) (fn := Try.f9)) ?_
                  clear hs a
                  intro a hs
                  refine d_no hs #[true, true, true, true, true, true, true, true, true, true, true, true, true, true, true, true, true, true, true, true, true, true, true, true, true, true, true, true, true, false, false, false, false, false, false, false, false, false, false, false] (i := 28) rfl rfl rfl (by decide) (by kernel_rfl) (tight_body (P := Try.prog) (fn := Try.f9)) ?_
                  clear hs a
                  intro a hs
                  refine d_no hs #[true, true, true, true, true, true, true, true, true, true, true, true, true, true, true, true, true, true, true, true, true, true, true, true, true, true, true, true, true, true, false, false, false, false, false, false, false, false, false, false] (i := 29) rfl rfl rfl (by decide) (by kernel_rfl) (tight_body (P := Try.prog) (fn := Try.f9)) ?_
                  clear hs a
                  intro a hs
                  refine d_pure hs #[true, true, true, true, true, true, true, true, true, true, true, true, true, true, true, true, true, true, true, true, true, true, true, true, true, true, true, true, true, true, true, false, false, false, false, false, false, false, false, false] (i := 30) rfl rfl rfl (by decide) (by kernel_rfl) (tight_body (P := Try.prog) (fn := Try.f9)) (p_pick_t rfl rfl rfl) ?_
                  clear hs a
                  intro a hs
                  refine d_pure hs #[true, true, true, true, true, true, true, true, true, true, true, true, true, true, true, true, true, true, true, true, true, true, true, true, true, true, true, true, true, true, true, true, false, false, false, false, false, false, false, false] (i := 31) rfl rfl rfl (by decide) (by kernel_rfl) (tight_body (P := Try.prog) (fn := Try.f9)) (p_move rfl rfl) ?_
                  clear hs a
                  intro a hs
                  replace hs := hs.to (τ := [(0, (.int .u64 epoch0)), (5, (.pointer t19)), (6, (.int .u64 peer6_1)), (8, (.pointer (some p8))), (10, (Sl.val t35x1)), (22, (Sl.val list1)), (23, (.int .i64 (list1.n : Int))), (24, (.int .i64 t24_1)), (69, (.bool true))]) ⟨rfl, rfl, rfl, rfl, rfl, rfl, rfl, rfl, rfl, trivial⟩
                  refine d_no hs #[true, true, true, true, true, true, true, true, true, true, true, true, true, true, true, true, true, true, true, true, true, true, true, true, true, true, true, true, true, true, true, true, true, false, false, false, false, false, false, false] (i := 32) rfl rfl rfl (by decide) (by kernel_rfl) (tight_body (P := Try.prog) (fn := Try.f9)) ?_
                  clear hs a
                  intro a hs
                  refine d_no hs #[true, true, true, true, true, true, true, true, true, true, true, true, true, true, true, true, true, true, true, true, true, true, true, true, true, true, true, true, true, true, true, true, true, true, false, false, false, false, false, false] (i := 33) rfl rfl rfl (by decide) (by kernel_rfl) (tight_body (P := Try.prog) (fn := Try.f9)) ?_
                  clear hs a
                  intro a hs
                  refine d_no hs #[true, true, true, true, true, true, true, true, true, true, true, true, true, true, true, true, true, true, true, true, true, true, true, true, true, true, true, true, true, true, true, true, true, true, true, false, false, false, false, false] (i := 34) rfl rfl rfl (by decide) (by kernel_rfl) (tight_body (P := Try.prog) (fn := Try.f9)) ?_
                  clear hs a
                  intro a hs
                  refine d_no hs #[true, true, true, true, true, true, true, true, true, true, true, true, true, true, true, true, true, true, true, true, true, true, true, true, true, true, true, true, true, true, true, true, true, true, true, true, false, false, false, false] (i := 35) rfl rfl rfl (by decide) (by kernel_rfl) (tight_body (P := Try.prog) (fn := Try.f9)) ?_
                  clear hs a
                  intro a hs
                  refine d_no hs #[true, true, true, true, true, true, true, true, true, true, true, true, true, true, true, true, true, true, true, true, true, true, true, true, true, true, true, true, true, true, true, true, true, true, true, true, true, false, false, false] (i := 36) rfl rfl rfl (by decide) (by kernel_rfl) (tight_body (P := Try.prog) (fn := Try.f9)) ?_
                  clear hs a
                  intro a hs
                  refine d_no hs #[true, true, true, true, true, true, true, true, true, true, true, true, true, true, true, true, true, true, true, true, true, true, true, true, true, true, true, true, true, true, true, true, true, true, true, true, true, true, false, false] (i := 37) rfl rfl rfl (by decide) (by kernel_rfl) (tight_body (P := Try.prog) (fn := Try.f9)) ?_
                  clear hs a
                  intro a hs
                  refine d_no hs #[true, true, true, true, true, true, true, true, true, true, true, true, true, true, true, true, true, true, true, true, true, true, true, true, true, true, true, true, true, true, true, true, true, true, true, true, true, true, true, false] (i := 38) rfl rfl rfl (by decide) (by kernel_rfl) (tight_body (P := Try.prog) (fn := Try.f9)) ?_
                  clear hs a
                  intro a hs
                  refine d_pure hs #[true, true, true, true, true, true, true, true, true, true, true, true, true, true, true, true, true, true, true, true, true, true, true, true, true, true, true, true, true, true, true, true, true, true, true, true, true, true, true, true] (i := 39) rfl rfl rfl (by decide) (by kernel_rfl) (tight_body (P := Try.prog) (fn := Try.f9)) (p_pick_t rfl rfl rfl) ?_
                  clear hs a
                  intro a hs
                  replace hs := hs.to (τ := [(0, (.int .u64 epoch0)), (5, (.pointer t19)), (10, (Sl.val t35x1)), (22, (Sl.val list1)), (23, (.int .i64 (list1.n : Int))), (24, (.int .i64 t24_1)), (77, (.bool true))]) ⟨rfl, rfl, rfl, rfl, rfl, rfl, rfl, trivial⟩
                  refine d_done (by kernel_rfl) ?_ _
                  clear hS
                  exact J2 true _ _ (hs.to ⟨rfl, rfl, rfl, rfl, rfl, rfl, rfl, trivial⟩) h
                · replace h := h.2 hb
                  rw [hb] at hs
                  clear hb
                  refine d_pure hs #[true, true, true, true, true, true, true, true, true, true, true, true, true, true, true, true, false, false, false, false, false, false, false, false, false, false, false, false, false, false, false, false, false, false, false, false, false, false, false, false] (i := 15) rfl rfl rfl (by decide) (by kernel_rfl) (tight_body (P := Try.prog) (fn := Try.f9)) (p_fieldAddr0 rfl rfl ft_36_0) ?_
                  clear hs a
                  intro a hs
                  replace hs := hs.to (τ := [(0, (.int .u64 epoch0)), (5, (.pointer t19)), (6, (.int .u64 peer6_1)), (8, (.pointer (some p8))), (10, (Sl.val t35x1)), (22, (Sl.val list1)), (23, (.int .i64 (list1.n : Int))), (24, (.int .i64 t24_1)), (41, (.bool true)), (52, (.bool false)), (53, (.pointer (some p8)))]) ⟨rfl, rfl, rfl, rfl, rfl, rfl, rfl, rfl, rfl, rfl, rfl, trivial⟩
                  obtain ⟨t54, hv, h⟩ := h
                  refine d_read hs #[true, true, true, true, true, true, true, true, true, true, true, true, true, true, true, true, true, false, false, false, false, false, false, false, false, false, false, false, false, false, false, false, false, false, false, false, false, false, false, false] (i := 16) rfl rfl rfl (by decide) (by kernel_rfl) (by kernel_rfl) (tight_body (P := Try.prog) (fn := Try.f9)) hS (fun w h' => e_load rfl rfl ct_23 (hv w h')) ?_
                  clear hs a hv
                  intro a hs
                  refine d_pure hs #[true, true, true, true, true, true, true, true, true, true, true, true, true, true, true, true, true, true, false, false, false, false, false, false, false, false, false, false, false, false, false, false, false, false, false, false, false, false, false, false] (i := 17) rfl rfl rfl (by decide) (by kernel_rfl) (tight_body (P := Try.prog) (fn := Try.f9)) (p_eq rfl rfl rfl) ?_
                  clear hs a
                  intro a hs
                  refine d_pure hs #[true, true, true, true, true, true, true, true, true, true, true, true, true, true, true, true, true, true, true, false, false, false, false, false, false, false, false, false, false, false, false, false, false, false, false, false, false, false, false, false] (i := 18) rfl rfl rfl (by decide) (by kernel_rfl) (tight_body (P := Try.prog) (fn := Try.f9)) (p_pick_f rfl rfl rfl) ?_
                  clear hs a
                  intro a hs
                  refine d_pure hs #[true, true, true, true, true, true, true, true, true, true, true, true, true, true, true, true, true, true, true, true, false, false, false, false, false, false, false, false, false, false, false, false, false, false, false, false, false, false, false, false] (i := 19) rfl rfl rfl (by decide) (by kernel_rfl) (tight_body (P := Try.prog) (fn := Try.f9)) (p_pick_t rfl rfl rfl) ?_
                  clear hs a
                  intro a hs
                  refine d_pure hs #[true, true, true, true, true, true, true, true, true, true, true, true, true, true, true, true, true, true, true, true, true, false, false, false, false, false, false, false, false, false, false, false, false, false, false, false, false, false, false, false] (i := 20) rfl rfl rfl (by decide) (by kernel_rfl) (tight_body (P := Try.prog) (fn := Try.f9)) (p_move rfl rfl) ?_
                  clear hs a
                  intro a hs
                  refine split_bool (decide (t54 = 0)) (fun hb => ?_) (fun hb => ?_)
                  · replace h := h.1 hb
                    rw [hb] at hs
                    clear hb
                    refine d_no hs #[true, true, true, true, true, true, true, true, true, true, true, true, true, true, true, true, true, true, true, true, true, true, false, false, false, false, false, false, false, false, false, false, false, false, false, false, false, false, false, false] (i := 21) rfl rfl rfl (by decide) (by kernel_rfl) (tight_body (P := Try.prog) (fn := Try.f9)) ?_
                    clear hs a
                    intro a hs
                    refine d_no hs #[true, true, true, true, true, true, true, true, true, true, true, true, true, true, true, true, true, true, true, true, true, true, true, false, false, false, false, false, false, false, false, false, false, false, false, false, false, false, false, false] (i := 22) rfl rfl rfl (by decide) (by kernel_rfl) (tight_body (P := Try.prog) (fn := Try.f9)) ?_
                    clear hs a
                    intro a hs
                    refine d_no hs #[true, true, true, true, true, true, true, true, true, true, true, true, true, true, true, true, true, true, true, true, true, true, true, true, false, false, false, false, false, false, false, false, false, false, false, false, false, false, false, false] (i := 23) rfl rfl rfl (by decide) (by kernel_rfl) (tight_body (P := Try.prog) (fn := Try.f9)) ?_
                    clear hs a
                    intro a hs
                    replace hs := hs.to (τ := [(0, (.int .u64 epoch0)), (5, (.pointer t19)), (6, (.int .u64 peer6_1)), (8, (.pointer (some p8))), (10, (Sl.val t35x1)), (22, (Sl.val list1)), (23, (.int .i64 (list1.n : Int))), (24, (.int .i64 t24_1)), (58, (.bool true)), (61, undef)]) ⟨rfl, rfl, rfl, rfl, rfl, rfl, rfl, rfl, rfl, rfl, trivial⟩
                    refine d_pure hs #[true, true, true, true, true, true, true, true, true, true, true, true, true, true, true, true, true, true, true, true, true, true, true, true, true, false, false, false, false, false, false, false, false, false, false, false, false, false, false, false] (i := 24) rfl rfl rfl (by decide) (by kernel_rfl) (tight_body (P := Try.prog) (fn := Try.f9)) (p_pick_t rfl rfl rfl) ?_
                    clear hs a
                    intro a hs
                    refine d_pure hs #[true, true, true, true, true, true, true, true, true, true, true, true, true, true, true, true, true, true, true, true, true, true, true, true, true, true, false, false, false, false, false, false, false, false, false, false, false, false, false, false] (i := 25) rfl rfl rfl (by decide) (by kernel_rfl) (tight_body (P := Try.prog) (fn := Try.f9)) (p_move rfl rfl) ?_
                    clear hs a
                    intro a hs
                    refine d_no hs #[true, true, true, true, true, true, true, true, true, true, true, true, true, true, true, true, true, true, true, true, true, true, true, true, true, true, true, false, false, false, false, false, false, false, false, false, false, false, false, false] (i := 26) rfl rfl rfl (by decide) (by kernel_rfl) (tight_body (P := Try.prog) (fn := Try.f9)) ?_
                    clear hs a
                    intro a hs
                    refine d_no hs #[true, true, true, true, true, true, true, true, true, true, true, true, true, true, true, true, true, true, true, true, true, true, true, true, true, true, true, true, false, false, false, false, false, false, false, false, false, false, false, false] (i := 27) rfl rfl rfl (by decide) (by kernel_rfl) (tight_body (P := Try.prog) (fn := Try.f9)) ?_
                    clear hs a
                    intro a hs
                    refine d_no hs #[true, true, true, true, true, true, true, true, true, true, true, true, true, true, true, true, true, true, true, true, true, true, true, true, true, true, true, true, true, false, false, false, false, false, false, false, false, false, false, false] (i := 28) rfl rfl rfl (by decide) (by kernel_rfl) (tight_body (P := Try.prog) (fn := Try.f9)) ?_
                    clear hs a
                    intro a hs
                    refine d_no hs #[true, true, true, true, true, true, true, true, true, true, true, true, true, true, true, true, true, true, true, true, true, true, true, true, true, true, true, true, true, true, false, false, false, false, false, false, false, false, false, false] (i := 29) rfl rfl rfl (by decide) (by kernel_rfl) (tight_body (P := Try.prog) (fn := Try.f9)) ?_
                    clear hs a
                    intro a hs
                    refine d_pure hs #[true, true, true, true, true, true, true, true, true, true, true, true, true, true, true, true, true, true, true, true, true, true, true, true, true, true, true, true, true, true, true, false, false, false, false, false, false, false, false, false] (i := 30) rfl rfl rfl (by decide) (by kernel_rfl) (tight_body (P := Try.prog) (fn := Try.f9)) (p_pick_t rfl rfl rfl) ?_
                    clear hs a
                    intro a hs
                    refine d_pure hs #[true, true, true, true, true, true, true, true, true, true, true, true, true, true, true, true, true, true, true, true, true, true, true, true, true, true, true, true, true, true, true, true, false, false, false, false, false, false, false, false] (i := 31) rfl rfl rfl (by decide) (by kernel_rfl) (tight_body (P := Try.prog) (fn := Try.f9)) (p_move rfl rfl) ?_
                    clear hs a
                    intro a hs
                    replace hs := hs.to (τ := [(0, (.int .u64 epoch0)), (5, (.pointer t19)), (6, (.int .u64 peer6_1)), (8, (.pointer (some p8))), (10, (Sl.val t35x1)), (22, (Sl.val list1)), (23, (.int .i64 (list1.n : Int))), (24, (.int .i64 t24_1)), (69, (.bool true))]) ⟨rfl, rfl, rfl, rfl, rfl, rfl, rfl, rfl, rfl, trivial⟩
                    refine d_no hs #[true, true, true, true, true, true, true, true, true, true, true, true, true, true, true, true, true, true, true, true, true, true, true, true, true, true, true, true, true, true, true, true, true, false, false, false, false, false, false, false] (i := 32) rfl rfl rfl (by decide) (by kernel_rfl) (tight_body (P := Try.prog) (fn := Try.f9)) ?_
                    clear hs a
                    intro a hs
                    refine d_no hs #[true, true, true, true, true, true, true, true, true, true, true, true, true, true, true, true, true, true, true, true, true, true, true, true, true, true, true, true, true, true, true, true, true, true, false, false, false, false, false, false] (i := 33) rfl rfl rfl (by decide) (by kernel_rfl) (tight_body (P := Try.prog) (fn := Try.f9)) ?_
                    clear hs a
                    intro a hs
                    refine d_no hs #[true, true, true, true, true, true, true, true, true, true, true, true, true, true, true, true, true, true, true, true, true, true, true, true, true, true, true, true, true, true, true, true, true, true, true, false, false, false, false, false] (i := 34) rfl rfl rfl (by decide) (by kernel_rfl) (tight_body (P := Try.prog) (fn := Try.f9)) ?_
                    clear hs a
                    intro a hs
                    refine d_no hs #[true, true, true, true, true, true, true, true, true, true, true, true, true, true, true, true, true, true, true, true, true, true, true, true, true, true, true, true, true, true, true, true, true, true, true, true, false, false, false, false] (i := 35) rfl rfl rfl (by decide) (by kernel_rfl) (tight_body (P := Try.prog) (fn := Try.f9)) ?_
                    clear hs a
                    intro a hs
                    refine d_no hs #[true, true, true, true, true, true, true, true, true, true, true, true, true, true, true, true, true, true, true, true, true, true, true, true, true, true, true, true, true, true, true, true, true, true, true, true, true, false, false, false] (i := 36) rfl rfl rfl (by decide) (by kernel_rfl) (tight_body (P := Try.prog) (fn := Try.f9)) ?_
                    clear hs a
                    intro a hs
                    refine d_no hs #[true, true, true, true, true, true, true, true, true, true, true, true, true, true, true, true, true, true, true, true, true, true, true, true, true, true, true, true, true, true, true, true, true, true, true, true, true, true, false, false] (i := 37) rfl rfl rfl (by decide) (by kernel_rfl) (tight_body (P := Try.prog) (fn := Try.f9)) ?_
                    clear hs a
                    intro a hs
                    refine d_no hs #[true, true, true, true, true, true, true, true, true, true, true, true, true, true, true, true, true, true, true, true, true, true, true, true, true, true, true, true, true, true, true, true, true, true, true, true, true, true, true, false] (i := 38) rfl rfl rfl (by decide) (by kernel_rfl) (tight_body (P := Try.prog) (fn := Try.f9)) ?_
                    clear hs a
                    intro a hs
                    refine d_pure hs #[true, true, true, true, true, true, true, true, true, true, true, true, true, true, true, true, true, true, true, true, true, true, true, true, true, true, true, true, true, true, true, true, true, true, true, true, true, true, true, true] (i := 39) rfl rfl rfl (by decide) (by kernel_rfl) (tight_body (P := Try.prog) (fn := Try.f9)) (p_pick_t rfl rfl rfl) ?_
                    clear hs a
                    intro a hs
                    replace hs := hs.to (τ := [(0, (.int .u64 epoch0)), (5, (.pointer t19)), (10, (Sl.val t35x1)), (22, (Sl.val list1)), (23, (.int .i64 (list1.n : Int))), (24, (.int .i64 t24_1)), (77, (.bool true))]) ⟨rfl, rfl, rfl, rfl, rfl, rfl, rfl, trivial⟩
                    refine d_done (by kernel_rfl) ?_ _
                    clear hS
                    exact J2 true _ _ (hs.to ⟨rfl, rfl, rfl, rfl, rfl, rfl, rfl, trivial⟩) h
                  · replace h := h.2 hb
                    rw [hb] at hs
                    clear hb
                    refine d_pure hs #[true, true, true, true, true, true, true, true, true, true, true, true, true, true, true, true, true, true, true, true, true, true, false, false, false, false, false, false, false, false, false, false, false, false, false, false, false, false, false, false] (i := 21) rfl rfl rfl (by decide) (by kernel_rfl) (tight_body (P := Try.prog) (fn := Try.f9)) (p_move rfl rfl) ?_
                    clear hs a
                    intro a hs
                    refine d_pure hs #[true, true, true, true, true, true, true, true, true, true, true, true, true, true, true, true, true, true, true, true, true, true, true, false, false, false, false, false, false, false, false, false, false, false, false, false, false, false, false, false] (i := 22) rfl rfl rfl (by decide) (by kernel_rfl) (tight_body (P := Try.prog) (fn := Try.f9)) (p_len rfl rfl sl_60) ?_
                    clear hs a
                    intro a hs
                    refine d_pure hs #[true, true, true, true, true, true, true, true, true, true, true, true, true, true, true, true, true, true, true, true, true, true, true, true, false, false, false, false, false, false, false, false, false, false, false, false, false, false, false, false] (i := 23) rfl rfl rfl (by decide) (by kernel_rfl) (tight_body (P := Try.prog) (fn := Try.f9)) (p_gt rfl rfl rfl) ?_
                    clear hs a
                    intro a hs
                    replace hs := hs.to (τ := [(0, (.int .u64 epoch0)), (5, (.pointer t19)), (6, (.int .u64 peer6_1)), (8, (.pointer (some p8))), (10, (Sl.val t35x1)), (22, (Sl.val list1)), (23, (.int .i64 (list1.n : Int))), (24, (.int .i64 t24_1)), (58, (.bool false)), (61, (.bool (decide ((1 : Int) < (t35x1.n : Int)))))]) ⟨rfl, rfl, rfl, rfl, rfl, rfl, rfl, rfl, rfl, rfl, trivial⟩
                    refine d_pure hs #[true, true, true, true, true, true, true, true, true, true, true, true, true, true, true, true, true, true, true, true, true, true, true, true, true, false, false, false, false, false, false, false, false, false, false, false, false, false, false, false] (i := 24) rfl rfl rfl (by decide) (by kernel_rfl) (tight_body (P := Try.prog) (fn := Try.f9)) (p_pick_f rfl rfl rfl) ?_
                    clear hs a
                    intro a hs
                    refine d_pure hs #[true, true, true, true, true, true, true, true, true, true, true, true, true, true, true, true, true, true, true, true, true, true, true, true, true, true, false, false, false, false, false, false, false, false, false, false, false, false, false, false] (i := 25) rfl rfl rfl (by decide) (by kernel_rfl) (tight_body (P := Try.prog) (fn := Try.f9)) (p_move rfl rfl) ?_
                    clear hs a
                    intro a hs
                    refine split_bool (decide ((1 : Int) < (t35x1.n : Int))) (fun hb => ?_) (fun hb => ?_)
                    · replace h := h.1 hb
                      rw [hb] at hs
                      clear hb
                      refine d_no hs #[true, true, true, true, true, true, true, true, true, true, true, true, true, true, true, true, true, true, true, true, true, true, true, true, true, true, true, false, false, false, false, false, false, false, false, false, false, false, false, false] (i := 26) rfl rfl rfl (by decide) (by kernel_rfl) (tight_body (P := Try.prog) (fn := Try.f9)) ?_
                      clear hs a
                      intro a hs
                      refine d_no hs #[true, true, true, true, true, true, true, true, true, true, true, true, true, true, true, true, true, true, true, true, true, true, true, true, true, true, true, true, false, false, false, false, false, false, false, false, false, false, false, false] (i := 27) rfl rfl rfl (by decide) (by kernel_rfl) (tight_body (P := Try.prog) (fn := Try.f9)) ?_
                      clear hs a
                      intro a hs
                      refine d_no hs #[true, true, true, true, true, true, true, true, true, true, true, true, true, true, true, true, true, true, true, true, true, true, true, true, true, true, true, true, true, false, false, false, false, false, false, false, false, false, false, false] (i := 28) rfl rfl rfl (by decide) (by kernel_rfl) (tight_body (P := Try.prog) (fn := Try.f9)) ?_
                      clear hs a
                      intro a hs
                      refine d_no hs #[true, true, true, true, true, true, true, true, true, true, true, true, true, true, true, true, true, true, true, true, true, true, true, true, true, true, true, true, true, true, false, false, false, false, false, false, false, false, false, false] (i := 29) rfl rfl rfl (by decide) (by kernel_rfl) (tight_body (P := Try.prog) (fn := Try.f9)) ?_
                      clear hs a
                      intro a hs
                      refine d_pure hs #[true, true, true, true, true, true, true, true, true, true, true, true, true, true, true, true, true, true, true, true, true, true, true, true, true, true, true, true, true, true, true, false, false, false, false, false, false, false, false, false] (i := 30) rfl rfl rfl (by decide) (by kernel_rfl) (tight_body (P := Try.prog) (fn := Try.f9)) (p_pick_t rfl rfl rfl) ?_
                      clear hs a
                      intro a hs
                      refine d_pure hs #[true, true, true, true, true, true, true, true, true, true, true, true, true, true, true, true, true, true, true, true, true, true, true, true, true, true, true, true, true, true, true, true, false, false, false, false, false, false, false, false] (i := 31) rfl rfl rfl (by decide) (by kernel_rfl) (tight_body (P := Try.prog) (fn := Try.f9)) (p_move rfl rfl) ?_
                      clear hs a
                      intro a hs
                      replace hs := hs.to (τ := [(0, (.int .u64 epoch0)), (5, (.pointer t19)), (6, (.int .u64 peer6_1)), (8, (.pointer (some p8))), (10, (Sl.val t35x1)), (22, (Sl.val list1)), (23, (.int .i64 (list1.n : Int))), (24, (.int .i64 t24_1)), (69, (.bool true))]) ⟨rfl, rfl, rfl, rfl, rfl, rfl, rfl, rfl, rfl, trivial⟩
                      refine d_no hs #[true, true, true, true, true, true, true, true, true, true, true, true, true, true, true, true, true, true, true, true, true, true, true, true, true, true, true, true, true, true, true, true, true, false, false, false, false, false, false, false] (i := 32) rfl rfl rfl (by decide) (by kernel_rfl) (tight_body (P := Try.prog) (fn := Try.f9)) ?_
                      clear hs a
                      intro a hs
                      refine d_no hs #[true, true, true, true, true, true, true, true, true, true, true, true, true, true, true, true, true, true, true, true, true, true, true, true, true, true, true, true, true, true, true, true, true, true, false, false, false, false, false, false] (i := 33) rfl rfl rfl (by decide) (by kernel_rfl) (tight_body (P := Try.prog) (fn := Try.f9)) ?_
                      clear hs a
                      intro a hs
                      refine d_no hs #[true, true, true, true, true, true, true, true, true, true, true, true, true, true, true, true, true, true, true, true, true, true, true, true, true, true, true, true, true, true, true, true, true, true, true, false, false, false, false, false] (i := 34) rfl rfl rfl (by decide) (by kernel_rfl) (tight_body (P := Try.prog) (fn := Try.f9)) ?_
                      clear hs a
                      intro a hs
                      refine d_no hs #[true, true, true, true, true, true, true, true, true, true, true, true, true, true, true, true, true, true, true, true, true, true, true, true, true, true, true, true, true, true, true, true, true, true, true, true, false, false, false, false] (i := 35) rfl rfl rfl (by decide) (by kernel_rfl) (tight_body (P := Try.prog) (fn := Try.f9)) ?_
                      clear hs a
                      intro a hs
                      refine d_no hs #[true, true, true, true, true, true, true, true, true, true, true, true, true, true, true, true, true, true, true, true, true, true, true, true, true, true, true, true, true, true, true, true, true, true, true, true, true, false, false, false] (i := 36) rfl rfl rfl (by decide) (by kernel_rfl) (tight_body (P := Try.prog) (fn := Try.f9)) ?_
                      clear hs a
                      intro a hs
                      refine d_no hs #[true, true, true, true, true, true, true, true, true, true, true, true, true, true, true, true, true, true, true, true, true, true, true, true, true, true, true, true, true, true, true, true, true, true, true, true, true, true, false, false] (i := 37) rfl rfl rfl (by decide) (by kernel_rfl) (tight_body (P := Try.prog) (fn := Try.f9)) ?_
                      clear hs a
                      intro a hs
                      refine d_no hs #[true, true, true, true, true, true, true, true, true, true, true, true, true, true, true, true, true, true, true, true, true, true, true, true, true, true, true, true, true, true, true, true, true, true, true, true, true, true, true, false] (i := 38) rfl rfl rfl (by decide) (by kernel_rfl) (tight_body (P := Try.prog) (fn := Try.f9)) ?_
                      clear hs a
                      intro a hs
                      refine d_pure hs #[true, true, true, true, true, true, true, true, true, true, true, true, true, true, true, true, true, true, true, true, true, true, true, true, true, true, true, true, true, true, true, true, true, true, true, true, true, true, true, true] (i := 39) rfl rfl rfl (by decide) (by kernel_rfl) (tight_body (P := Try.prog) (fn := Try.f9)) (p_pick_t rfl rfl rfl) ?_
                      clear hs a
                      intro a hs
                      replace hs := hs.to (τ := [(0, (.int .u64 epoch0)), (5, (.pointer t19)), (10, (Sl.val t35x1)), (22, (Sl.val list1)), (23, (.int .i64 (list1.n : Int))), (24, (.int .i64 t24_1)), (77, (.bool true))]) ⟨rfl, rfl, rfl, rfl, rfl, rfl, rfl, trivial⟩
                      refine d_done (by kernel_rfl) ?_ _
                      clear hS
                      exact J2 true _ _ (hs.to ⟨rfl, rfl, rfl, rfl, rfl, rfl, rfl, trivial⟩) h
                    · replace h := h.2 hb
                      rw [hb] at hs
                      clear hb
                      refine d_pure hs #[true, true, true, true, true, true, true, true, true, true, true, true, true, true, true, true, true, true, true, true, true, true, true, true, true, true, true, false, false, false, false, false, false, false, false, false, false, false, false, false] (i := 26) rfl rfl rfl (by decide) (by kernel_rfl) (tight_body (P := Try.prog) (fn := Try.f9)) (p_move rfl rfl) ?_
                      clear hs a
                      intro a hs
                      refine d_pure hs #[true, true, true, true, true, true, true, true, true, true, true, true, true, true, true, true, true, true, true, true, true, true, true, true, true, true, true, false, true, false, false, false, false, false, false, false, false, false, false, false] (i := 28) rfl rfl rfl (by decide) (by kernel_rfl) (tight_body (P := Try.prog) (fn := Try.f9)) (p_move rfl rfl) ?_
                      clear hs a
                      intro a hs
                      refine d_all [27] (by kernel_rfl) (by decide) ?_
                      refine AllS.cons ?_ AllS.nil
                      refine d_call hs #[true, true, true, true, true, true, true, true, true, true, true, true, true, true, true, true, true, true, true, true, true, true, true, true, true, true, true, true, true, false, false, false, false, false, false, false, false, false, false, false] (i := 27) rfl rfl rfl (by decide) rfl (e_call rfl rfl rfl cb_38) h (fun v w'' hk => by obtain ⟨t65, _, hS, _⟩ := hk; exact fun _ _ => hS) ?_
                      clear hs a h
                      intro v a w hk hs
                      obtain ⟨t65, rfl, h⟩ := hk
                      obtain ⟨hS, h⟩ := h
                      refine d_pure hs #[true, true, true, true, true, true, true, true, true, true, true, true, true, true, true, true, true, true, true, true, true, true, true, true, true, true, true, true, true, true, false, false, false, false, false, false, false, false, false, false] (i := 29) rfl rfl rfl (by decide) (by kernel_rfl) (tight_body (P := Try.prog) (fn := Try.f9)) (p_lt rfl rfl rfl) ?_
                      clear hs a
                      intro a hs
                      refine d_pure hs #[true, true, true, true, true, true, true, true, true, true, true, true, true, true, true, true, true, true, true, true, true, true, true, true, true, true, true, true, true, true, true, false, false, false, false, false, false, false, false, false] (i := 30) rfl rfl rfl (by decide) (by kernel_rfl) (tight_body (P := Try.prog) (fn := Try.f9)) (p_pick_f rfl rfl rfl) ?_
                      clear hs a
                      intro a hs
                      refine d_pure hs #[true, true, true, true, true, true, true, true, true, true, true, true, true, true, true, true, true, true, true, true, true, true, true, true, true, true, true, true, true, true, true, true, false, false, false, false, false, false, false, false] (i := 31) rfl rfl rfl (by decide) (by kernel_rfl) (tight_body (P := Try.prog) (fn := Try.f9)) (p_move rfl rfl) ?_
                      clear hs a
                      intro a hs
                      replace hs := hs.to (τ := [(0, (.int .u64 epoch0)), (5, (.pointer t19)), (6, (.int .u64 peer6_1)), (8, (.pointer (some p8))), (10, (Sl.val t35x1)), (22, (Sl.val list1)), (23, (.int .i64 (list1.n : Int))), (24, (.int .i64 t24_1)), (69, (.bool (decide (t65 < peer6_1))))]) ⟨rfl, rfl, rfl, rfl, rfl, rfl, rfl, rfl, rfl, trivial⟩
                      refine split_bool (decide (t65 < peer6_1)) (fun hb => ?_) (fun hb => ?_)
                      · replace h := h.1 hb
                        rw [hb] at hs
                        clear hb
                        refine d_no hs #[true, true, true, true, true, true, true, true, true, true, true, true, true, true, true, true, true, true, true, true, true, true, true, true, true, true, true, true, true, true, true, true, true, false, false, false, false, false, false, false] (i := 32) rfl rfl rfl (by decide) (by kernel_rfl) (tight_body (P := Try.prog) (fn := Try.f9)) ?_
                        clear hs a
                        intro a hs
                        refine d_no hs #[true, true, true, true, true, true, true, true, true, true, true, true, true, true, true, true, true, true, true, true, true, true, true, true, true, true, true, true, true, true, true, true, true, true, false, false, false, false, false, false] (i := 33) rfl rfl rfl (by decide) (by kernel_rfl) (tight_body (P := Try.prog) (fn := Try.f9)) ?_
                        clear hs a
                        intro a hs
                        refine d_no hs #[true, true, true, true, true, true, true, true, true, true, true, true, true, true, true, true, true, true, true, true, true, true, true, true, true, true, true, true, true, true, true, true, true, true, true, false, false, false, false, false] (i := 34) rfl rfl rfl (by decide) (by kernel_rfl) (tight_body (P := Try.prog) (fn := Try.f9)) ?_
                        clear hs a
                        intro a hs
                        refine d_no hs #[true, true, true, true, true, true, true, true, true, true, true, true, true, true, true, true, true, true, true, true, true, true, true, true, true, true, true, true, true, true, true, true, true, true, true, true, false, false, false, false] (i := 35) rfl rfl rfl (by decide) (by kernel_rfl) (tight_body (P := Try.prog) (fn := Try.f9)) ?_
                        clear hs a
                        intro a hs
                        refine d_no hs #[true, true, true, true, true, true, true, true, true, true, true, true, true, true, true, true, true, true, true, true, true, true, true, true, true, true, true, true, true, true, true, true, true, true, true, true, true, false, false, false] (i := 36) rfl rfl rfl (by decide) (by kernel_rfl) (tight_body (P := Try.prog) (fn := Try.f9)) ?_
                        clear hs a
                        intro a hs
                        refine d_no hs #[true, true, true, true, true, true, true, true, true, true, true, true, true, true, true, true, true, true, true, true, true, true, true, true, true, true, true, true, true, true, true, true, true, true, true, true, true, true, false, false] (i := 37) rfl rfl rfl (by decide) (by kernel_rfl) (tight_body (P := Try.prog) (fn := Try.f9)) ?_
                        clear hs a
                        intro a hs
                        refine d_no hs #[true, true, true, true, true, true, true, true, true, true, true, true, true, true, true, true, true, true, true, true, true, true, true, true, true, true, true, true, true, true, true, true, true, true, true, true, true, true, true, false] (i := 38) rfl rfl rfl (by decide) (by kernel_rfl) (tight_body (P := Try.prog) (fn := Try.f9)) ?_
                        clear hs a
                        intro a hs
                        refine d_pure hs #[true, true, true, true, true, true, true, true, true, true, true, true, true, true, true, true, true, true, true, true, true, true, true, true, true, true, true, true, true, true, true, true, true, true, true, true, true, true, true, true] (i := 39) rfl rfl rfl (by decide) (by kernel_rfl) (tight_body (P := Try.prog) (fn := Try.f9)) (p_pick_t rfl rfl rfl) ?_
                        clear hs a
                        intro a hs
                        replace hs := hs.to (τ := [(0, (.int .u64 epoch0)), (5, (.pointer t19)), (10, (Sl.val t35x1)), (22, (Sl.val list1)), (23, (.int .i64 (list1.n : Int))), (24, (.int .i64 t24_1)), (77, (.bool true))]) ⟨rfl, rfl, rfl, rfl, rfl, rfl, rfl, trivial⟩
                        refine d_done (by kernel_rfl) ?_ _
                        clear hS
                        exact J2 true _ _ (hs.to ⟨rfl, rfl, rfl, rfl, rfl, rfl, rfl, trivial⟩) h
                      · replace h := h.2 hb
                        rw [hb] at hs
                        clear hb
                        refine d_pure hs #[true, true, true, true, true, true, true, true, true, true, true, true, true, true, true, true, true, true, true, true, true, true, true, true, true, true, true, true, true, true, true, true, true, false, false, false, false, false, false, false] (i := 32) rfl rfl rfl (by decide) (by kernel_rfl) (tight_body (P := Try.prog) (fn := Try.f9)) (p_move rfl rfl) ?_
                        clear hs a
                        intro a hs
                        refine d_pure hs #[true, true, true, true, true, true, true, true, true, true, true, true, true, true, true, true, true, true, true, true, true, true, true, true, true, true, true, true, true, true, true, true, true, false, true, false, false, false, false, false] (i := 34) rfl rfl rfl (by decide) (by kernel_rfl) (tight_body (P := Try.prog) (fn := Try.f9)) (p_move rfl rfl) ?_
                        clear hs a
                        intro a hs
                        refine d_pure hs #[true, true, true, true, true, true, true, true, true, true, true, true, true, true, true, true, true, true, true, true, true, true, true, true, true, true, true, true, true, true, true, true, true, false, true, true, false, false, false, false] (i := 35) rfl rfl rfl (by decide) (by kernel_rfl) (tight_body (P := Try.prog) (fn := Try.f9)) (p_fieldAddr0 rfl rfl ft_36_0) ?_
                        clear hs a
                        intro a hs
                        obtain ⟨t74, hv, h⟩ := h
                        refine d_read hs #[true, true, true, true, true, true, true, true, true, true, true, true, true, true, true, true, true, true, true, true, true, true, true, true, true, true, true, true, true, true, true, true, true, false, true, true, true, false, false, false] (i := 36) rfl rfl rfl (by decide) (by kernel_rfl) (by kernel_rfl) (tight_body (P := Try.prog) (fn := Try.f9)) hS (fun w h' => e_load rfl rfl ct_23 (hv w h')) ?_
                        clear hs a hv
                        intro a hs
                        obtain ⟨t75, he, h⟩ := h
                        refine d_pure hs #[true, true, true, true, true, true, true, true, true, true, true, true, true, true, true, true, true, true, true, true, true, true, true, true, true, true, true, true, true, true, true, true, true, false, true, true, true, true, false, false] (i := 37) rfl rfl rfl (by decide) (by kernel_rfl) (tight_body (P := Try.prog) (fn := Try.f9)) (Pure.int he (p_max _ rfl rfl rfl)) ?_
                        clear hs a he
                        intro a hs
                        refine d_all [33] (by kernel_rfl) (by decide) ?_
                        refine AllS.cons ?_ AllS.nil
                        refine d_call hs #[true, true, true, true, true, true, true, true, true, true, true, true, true, true, true, true, true, true, true, true, true, true, true, true, true, true, true, true, true, true, true, true, true, true, true, true, true, true, false, false] (i := 33) rfl rfl rfl (by decide) rfl (e_call rfl rfl rfl cb_38) h (fun v w'' hk => by obtain ⟨t71, _, hS, _⟩ := hk; exact fun _ _ => hS) ?_
                        clear hs a h
                        intro v a w hk hs
                        obtain ⟨t71, rfl, h⟩ := hk
                        obtain ⟨hS, h⟩ := h
                        refine d_pure hs #[true, true, true, true, true, true, true, true, true, true, true, true, true, true, true, true, true, true, true, true, true, true, true, true, true, true, true, true, true, true, true, true, true, true, true, true, true, true, true, false] (i := 38) rfl rfl rfl (by decide) (by kernel_rfl) (tight_body (P := Try.prog) (fn := Try.f9)) (p_ne rfl rfl rfl) ?_
                        clear hs a
                        intro a hs
                        refine d_pure hs #[true, true, true, true, true, true, true, true, true, true, true, true, true, true, true, true, true, true, true, true, true, true, true, true, true, true, true, true, true, true, true, true, true, true, true, true, true, true, true, true] (i := 39) rfl rfl rfl (by decide) (by kernel_rfl) (tight_body (P := Try.prog) (fn := Try.f9)) (p_pick_f rfl rfl rfl) ?_
                        clear hs a
                        intro a hs
                        replace hs := hs.to (τ := [(0, (.int .u64 epoch0)), (5, (.pointer t19)), (10, (Sl.val t35x1)), (22, (Sl.val list1)), (23, (.int .i64 (list1.n : Int))), (24, (.int .i64 t24_1)), (77, (.bool (decide (t71 ≠ t75))))]) ⟨rfl, rfl, rfl, rfl, rfl, rfl, rfl, trivial⟩
                        refine d_done (by kernel_rfl) ?_ _
                        clear hS
                        exact J2 (decide (t71 ≠ t75)) _ _ (hs.to ⟨rfl, rfl, rfl, rfl, rfl, rfl, rfl, trivial⟩) h
            · replace h := h.2 hb
              rw [hb] at hs
              clear hb
              refine d_no hs #[true, true, true, true, true, false, false, false, false, false, false, false, false, false, false, false, false, false, false, false, false, false, false, false, false, false, false, false, false, false, false, false, false, false, false, false, false, false, false, false] (i := 4) rfl rfl rfl (by decide) (by kernel_rfl) (tight_body (P := Try.prog) (fn := Try.f9)) ?_
              clear hs a
              intro a hs
              refine d_no hs #[true, true, true, true, true, true, false, false, false, false, false, false, false, false, false, false, false, false, false, false, false, false, false, false, false, false, false, false, false, false, false, false, false, false, false, false, false, false, false, false] (i := 5) rfl rfl rfl (by decide) (by kernel_rfl) (tight_body (P := Try.prog) (fn := Try.f9)) ?_
              clear hs a
              intro a hs
              refine d_no hs #[true, true, true, true, true, true, true, false, false, false, false, false, false, false, false, false, false, false, false, false, false, false, false, false, false, false, false, false, false, false, false, false, false, false, false, false, false, false, false, false] (i := 6) rfl rfl rfl (by decide) (by kernel_rfl) (tight_body (P := Try.prog) (fn := Try.f9)) ?_
              clear hs a
              intro a hs
              refine d_no hs #[true, true, true, true, true, true, true, true, false, false, false, false, false, false, false, false, false, false, false, false, false, false, false, false, false, false, false, false, false, false, false, false, false, false, false, false, false, false, false, false] (i := 7) rfl rfl rfl (by decide) (by kernel_rfl) (tight_body (P := Try.prog) (fn := Try.f9)) ?_
              clear hs a
              intro a hs
              replace hs := hs.to (τ := [(0, (.int .u64 epoch0)), (5, (.pointer t19)), (6, (.int .u64 peer6_1)), (8, (.pointer (some p8))), (10, (Sl.val t35x1)), (22, (Sl.val list1)), (23, (.int .i64 (list1.n : Int))), (24, (.int .i64 t24_1)), (41, (.bool false)), (45, undef)]) ⟨rfl, rfl, rfl, rfl, rfl, rfl, rfl, rfl, rfl, rfl, trivial⟩
              refine d_no hs #[true, true, true, true, true, true, true, true, true, false, false, false, false, false, false, false, false, false, false, false, false, false, false, false, false, false, false, false, false, false, false, false, false, false, false, false, false, false, false, false] (i := 8) rfl rfl rfl (by decide) (by kernel_rfl) (tight_body (P := Try.prog) (fn := Try.f9)) ?_
              clear hs a
              intro a hs
              refine d_no hs #[true, true, true, true, true, true, true, true, true, true, false, false, false, false, false, false, false, false, false, false, false, false, false, false, false, false, false, false, false, false, false, false, false, false, false, false, false, false, false, false] (i := 9) rfl rfl rfl (by decide) (by kernel_rfl) (tight_body (P := Try.prog) (fn := Try.f9)) ?_
              clear hs a
              intro a hs
              refine d_no hs #[true, true, true, true, true, true, true, true, true, true, true, false, false, false, false, false, false, false, false, false, false, false, false, false, false, false, false, false, false, false, false, false, false, false, false, false, false, false, false, false] (i := 10) rfl rfl rfl (by decide) (by kernel_rfl) (tight_body (P := Try.prog) (fn := Try.f9)) ?_
              clear hs a
              intro a hs
              refine d_no hs #[true, true, true, true, true, true, true, true, true, true, true, true, false, false, false, false, false, false, false, false, false, false, false, false, false, false, false, false, false, false, false, false, false, false, false, false, false, false, false, false] (i := 11) rfl rfl rfl (by decide) (by kernel_rfl) (tight_body (P := Try.prog) (fn := Try.f9)) ?_
              clear hs a
              intro a hs
              refine d_no hs #[true, true, true, true, true, true, true, true, true, true, true, true, true, false, false, false, false, false, false, false, false, false, false, false, false, false, false, false, false, false, false, false, false, false, false, false, false, false, false, false] (i := 12) rfl rfl rfl (by decide) (by kernel_rfl) (tight_body (P := Try.prog) (fn := Try.f9)) ?_
              clear hs a
              intro a hs
              refine d_no hs #[true, true, true, true, true, true, true, true, true, true, true, true, true, true, false, false, false, false, false, false, false, false, false, false, false, false, false, false, false, false, false, false, false, false, false, false, false, false, false, false] (i := 13) rfl rfl rfl (by decide) (by kernel_rfl) (tight_body (P := Try.prog) (fn := Try.f9)) ?_
              clear hs a
              intro a hs
              refine d_no hs #[true, true, true, true, true, true, true, true, true, true, true, true, true, true, true, false, false, false, false, false, false, false, false, false, false, false, false, false, false, false, false, false, false, false, false, false, false, false, false, false] (i := 14) rfl rfl rfl (by decide) (by kernel_rfl) (tight_body (P := Try.prog) (fn := Try.f9)) ?_
              clear hs a
              intro a hs
              refine d_no hs #[true, true, true, true, true, true, true, true, true, true, true, true, true, true, true, true, false, false, false, false, false, false, false, false, false, false, false, false, false, false, false, false, false, false, false, false, false, false, false, false] (i := 15) rfl rfl rfl (by decide) (by kernel_rfl) (tight_body (P := Try.prog) (fn := Try.f9)) ?_
              clear hs a
              intro a hs
              replace hs := hs.to (τ := [(0, (.int .u64 epoch0)), (5, (.pointer t19)), (6, (.int .u64 peer6_1)), (8, (.pointer (some p8))), (10, (Sl.val t35x1)), (22, (Sl.val list1)), (23, (.int .i64 (list1.n : Int))), (24, (.int .i64 t24_1)), (41, (.bool false)), (52, undef), (53, undef)]) ⟨rfl, rfl, rfl, rfl, rfl, rfl, rfl, rfl, rfl, rfl, rfl, trivial⟩
              refine d_no hs #[true, true, true, true, true, true, true, true, true, true, true, true, true, true, true, true, true, false, false, false, false, false, false, false, false, false, false, false, false, false, false, false, false, false, false, false, false, false, false, false] (i := 16) rfl rfl rfl (by decide) (by kernel_rfl) (tight_body (P := Try.prog) (fn := Try.f9)) ?_
              clear hs a
              intro a hs
              refine d_no hs #[true, true, true, true, true, true, true, true, true, true, true, true, true, true, true, true, true, true, false, false, false, false, false, false, false, false, false, false, false, false, false, false, false, false, false, false, false, false, false, false] (i := 17) rfl rfl rfl (by decide) (by kernel_rfl) (tight_body (P := Try.prog) (fn := Try.f9)) ?_
              clear hs a
              intro a hs
              refine d_no hs #[true, true, true, true, true, true, true, true, true, true, true, true, true, true, true, true, true, true, true, false, false, false, false, false, false, false, false, false, false, false, false, false, false, false, false, false, false, false, false, false] (i := 18) rfl rfl rfl (by decide) (by kernel_rfl) (tight_body (P := Try.prog) (fn := Try.f9)) ?_
              clear hs a
              intro a hs
              refine d_pure hs #[true, true, true, true, true, true, true, true, true, true, true, true, true, true, true, true, true, true, true, true, false, false, false, false, false, false, false, false, false, false, false, false, false, false, false, false, false, false, false, false] (i := 19) rfl rfl rfl (by decide) (by kernel_rfl) (tight_body (P := Try.prog) (fn := Try.f9)) (p_pick_f rfl rfl rfl) ?_
              clear hs a
              intro a hs
              refine d_pure hs #[true, true, true, true, true, true, true, true, true, true, true, true, true, true, true, true, true, true, true, true, true, false, false, false, false, false, false, false, false, false, false, false, false, false, false, false, false, false, false, false] (i := 20) rfl rfl rfl (by decide) (by kernel_rfl) (tight_body (P := Try.prog) (fn := Try.f9)) (p_move rfl rfl) ?_
              clear hs a
              intro a hs
              refine d_pure hs #[true, true, true, true, true, true, true, true, true, true, true, true, true, true, true, true, true, true, true, true, true, true, false, false, false, false, false, false, false, false, false, false, false, false, false, false, false, false, false, false] (i := 21) rfl rfl rfl (by decide) (by kernel_rfl) (tight_body (P := Try.prog) (fn := Try.f9)) (p_move rfl rfl) ?_
              clear hs a
              intro a hs
              refine d_pure hs #[true, true, true, true, true, true, true, true, true, true, true, true, true, true, true, true, true, true, true, true, true, true, true, false, false, false, false, false, false, false, false, false, false, false, false, false, false, false, false, false] (i := 22) rfl rfl rfl (by decide) (by kernel_rfl) (tight_body (P := Try.prog) (fn := Try.f9)) (p_len rfl rfl sl_60) ?_
              clear hs a
              intro a hs
              refine d_pure hs #[true, true, true, true, true, true, true, true, true, true, true, true, true, true, true, true, true, true, true, true, true, true, true, true, false, false, false, false, false, false, false, false, false, false, false, false, false, false, false, false] (i := 23) rfl rfl rfl (by decide) (by kernel_rfl) (tight_body (P := Try.prog) (fn := Try.f9)) (p_gt rfl rfl rfl) ?_
              clear hs a
              intro a hs
              replace hs := hs.to (τ := [(0, (.int .u64 epoch0)), (5, (.pointer t19)), (6, (.int .u64 peer6_1)), (8, (.pointer (some p8))), (10, (Sl.val t35x1)), (22, (Sl.val list1)), (23, (.int .i64 (list1.n : Int))), (24, (.int .i64 t24_1)), (58, (.bool false)), (61, (.bool (decide ((1 : Int) < (t35x1.n : Int)))))]) ⟨rfl, rfl, rfl, rfl, rfl, rfl, rfl, rfl, rfl, rfl, trivial⟩
              refine d_pure hs #[true, true, true, true, true, true, true, true, true, true, true, true, true, true, true, true, true, true, true, true, true, true, true, true, true, false, false, false, false, false, false, false, false, false, false, false, false, false, false, false] (i := 24) rfl rfl rfl (by decide) (by kernel_rfl) (tight_body (P := Try.prog) (fn := Try.f9)) (p_pick_f rfl rfl rfl) ?_
              clear hs a
              intro a hs
              refine d_pure hs #[true, true, true, true, true, true, true, true, true, true, true, true, true, true, true, true, true, true, true, true, true, true, true, true, true, true, false, false, false, false, false, false, false, false, false, false, false, false, false, false] (i := 25) rfl rfl rfl (by decide) (by kernel_rfl) (tight_body (P := Try.prog) (fn := Try.f9)) (p_move rfl rfl) ?_
              clear hs a
              intro a hs
              refine split_bool (decide ((1 : Int) < (t35x1.n : Int))) (fun hb => ?_) (fun hb => ?_)
              · replace h := h.1 hb
                rw [hb] at hs
                clear hb
                refine d_no hs #[true, true, true, true, true, true, true, true, true, true, true, true, true, true, true, true, true, true, true, true, true, true, true, true, true, true, true, false, false, false, false, false, false, false, false, false, false, false, false, false] (i := 26) rfl rfl rfl (by decide) (by kernel_rfl) (tight_body (P := Try.prog) (fn := Try.f9)) ?_
                clear hs a
                intro a hs
                refine d_no hs #[true, true, true, true, true, true, true, true, true, true, true, true, true, true, true, true, true, true, true, true, true, true, true, true, true, true, true, true, false, false, false, false, false, false, false, false, false, false, false, false] (i := 27) rfl rfl rfl (by decide) (by kernel_rfl) (tight_body (P := Try.prog) (fn := Try.f9)) ?_
                clear hs a
                intro a hs
                refine d_no hs #[true, true, true, true, true, true, true, true, true, true, true, true, true, true, true, true, true, true, true, true, true, true, true, true, true, true, true, true, true, false, false, false, false, false, false, false, false, false, false, false] (i := 28) rfl rfl rfl (by decide) (by kernel_rfl) (tight_body (P := Try.prog) (fn := Try.f9)) ?_
                clear hs a
                intro a hs
                refine d_no hs #[true, true, true, true, true, true, true, true, true, true, true, true, true, true, true, true, true, true, true, true, true, true, true, true, true, true, true, true, true, true, false, false, false, false, false, false, false, false, false, false] (i := 29) rfl rfl rfl (by decide) (by kernel_rfl) (tight_body (P := Try.prog) (fn := Try.f9)) ?_
                clear hs a
                intro a hs
                refine d_pure hs #[true, true, true, true, true, true, true, true, true, true, true, true, true, true, true, true, true, true, true, true, true, true, true, true, true, true, true, true, true, true, true, false, false, false, false, false, false, false, false, false] (i := 30) rfl rfl rfl (by decide) (by kernel_rfl) (tight_body (P := Try.prog) (fn := Try.f9)) (p_pick_t rfl rfl rfl) ?_
                clear hs a
                intro a hs
                refine d_pure hs #[true, true, true, true, true, true, true, true, true, true, true, true, true, true, true, true, true, true, true, true, true, true, true, true, true, true, true, true, true, true, true, true, false, false, false, false, false, false, false, false] (i := 31) rfl rfl rfl (by decide) (by kernel_rfl) (tight_body (P := Try.prog) (fn := Try.f9)) (p_move rfl rfl) ?_
                clear hs a
                intro a hs
                replace hs := hs.to (τ := [(0, (.int .u64 epoch0)), (5, (.pointer t19)), (6, (.int .u64 peer6_1)), (8, (.pointer (some p8))), (10, (Sl.val t35x1)), (22, (Sl.val list1)), (23, (.int .i64 (list1.n : Int))), (24, (.int .i64 t24_1)), (69, (.bool true))]) ⟨rfl, rfl, rfl, rfl, rfl, rfl, rfl, rfl, rfl, trivial⟩
                refine d_no hs #[true, true, true, true, true, true, true, true, true, true, true, true, true, true, true, true, true, true, true, true, true, true, true, true, true, true, true, true, true, true, true, true, true, false, false, false, false, false, false, false] (i := 32) rfl rfl rfl (by decide) (by kernel_rfl) (tight_body (P := Try.prog) (fn := Try.f9)) ?_
                clear hs a
                intro a hs
                refine d_no hs #[true, true, true, true, true, true, true, true, true, true, true, true, true, true, true, true, true, true, true, true, true, true, true, true, true, true, true, true, true, true, true, true, true, true, false, false, false, false, false, false] (i := 33) rfl rfl rfl (by decide) (by kernel_rfl) (tight_body (P := Try.prog) (fn := Try.f9)) ?_
                clear hs a
                intro a hs
                refine d_no hs #[true, true, true, true, true, true, true, true, true, true, true, true, true, true, true, true, true, true, true, true, true, true, true, true, true, true, true, true, true, true, true, true, true, true, true, false, false, false, false, false] (i := 34) rfl rfl rfl (by decide) (by kernel_rfl) (tight_body (P := Try.prog) (fn := Try.f9)) ?_
                clear hs a
                intro a hs
                refine d_no hs #[true, true, true, true, true, true, true, true, true, true, true, true, true, true, true, true, true, true, true, true, true, true, true, true, true, true, true, true, true, true, true, true, true, true, true, true, false, false, false, false] (i := 35) rfl rfl rfl (by decide) (by kernel_rfl) (tight_body (P := Try.prog) (fn := Try.f9)) ?_
                clear hs a
                intro a hs
                refine d_no hs #[true, true, true, true, true, true, true, true, true, true, true, true, true, true, true, true, true, true, true, true, true, true, true, true, true, true, true, true, true, true, true, true, true, true, true, true, true, false, false, false] (i := 36) rfl rfl rfl (by decide) (by kernel_rfl) (tight_body (P := Try.prog) (fn := Try.f9)) ?_
                clear hs a
                intro a hs
                refine d_no hs #[true, true, true, true, true, true, true, true, true, true, true, true, true, true, true, true, true, true, true, true, true, true, true, true, true, true, true, true, true, true, true, true, true, true, true, true, true, true, false, false] (i := 37) rfl rfl rfl (by decide) (by kernel_rfl) (tight_body (P := Try.prog) (fn := Try.f9)) ?_
                clear hs a
                intro a hs
                refine d_no hs #[true, true, true, true, true, true, true, true, true, true, true, true, true, true, true, true, true, true, true, true, true, true, true, true, true, true, true, true, true, true, true, true, true, true, true, true, true, true, true, false] (i := 38) rfl rfl rfl (by decide) (by kernel_rfl) (tight_body (P := Try.prog) (fn := Try.f9)) ?_
                clear hs a
                intro a hs
                refine d_pure hs #[true, true, true, true, true, true, true, true, true, true, true, true, true, true, true, true, true, true, true, true, true, true, true, true, true, true, true, true, true, true, true, true, true, true, true, true, true, true, true, true] (i := 39) rfl rfl rfl (by decide) (by kernel_rfl) (tight_body (P := Try.prog) (fn := Try.f9)) (p_pick_t rfl rfl rfl) ?_
                clear hs a
                intro a hs
                replace hs := hs.to (τ := [(0, (.int .u64 epoch0)), (5, (.pointer t19)), (10, (Sl.val t35x1)), (22, (Sl.val list1)), (23, (.int .i64 (list1.n : Int))), (24, (.int .i64 t24_1)), (77, (.bool true))]) ⟨rfl, rfl, rfl, rfl, rfl, rfl, rfl, trivial⟩
                refine d_done (by kernel_rfl) ?_ _
                clear hS
                exact J2 true _ _ (hs.to ⟨rfl, rfl, rfl, rfl, rfl, rfl, rfl, trivial⟩) h
              · replace h := h.2 hb
                rw [hb] at hs
                clear hb
                refine d_pure hs #[true, true, true, true, true, true, true, true, true, true, true, true, true, true, true, true, true, true, true, true, true, true, true, true, true, true, true, false, false, false, false, false, false, false, false, false, false, false, false, false] (i := 26) rfl rfl rfl (by decide) (by kernel_rfl) (tight_body (P := Try.prog) (fn := Try.f9)) (p_move rfl rfl) ?_
                clear hs a
                intro a hs
                refine d_pure hs #[true, true, true, true, true, true, true, true, true, true, true, true, true, true, true, true, true, true, true, true, true, true, true, true, true, true, true, false, true, false, false, false, false, false, false, false, false, false, false, false] (i := 28) rfl rfl rfl (by decide) (by kernel_rfl) (tight_body (P := Try.prog) (fn := Try.f9)) (p_move rfl rfl) ?_
                clear hs a
                intro a hs
                refine d_all [27] (by kernel_rfl) (by decide) ?_
                refine AllS.cons ?_ AllS.nil
                refine d_call hs #[true, true, true, true, true, true, true, true, true, true, true, true, true, true, true, true, true, true, true, true, true, true, true, true, true, true, true, true, true, false, false, false, false, false, false, false, false, false, false, false] (i := 27) rfl rfl rfl (by decide) rfl (e_call rfl rfl rfl cb_38) h (fun v w'' hk => by obtain ⟨t65, _, hS, _⟩ := hk; exact fun _ _ => hS) ?_
                clear hs a h
                intro v a w hk hs
                obtain ⟨t65, rfl, h⟩ := hk
                obtain ⟨hS, h⟩ := h
                refine d_pure hs #[true, true, true, true, true, true, true, true, true, true, true, true, true, true, true, true, true, true, true, true, true, true, true, true, true, true, true, true, true, true, false, false, false, false, false, false, false, false, false, false] (i := 29) rfl rfl rfl (by decide) (by kernel_rfl) (tight_body (P := Try.prog) (fn := Try.f9)) (p_lt rfl rfl rfl) ?_
                clear hs a
                intro a hs
                refine d_pure hs #[true, true, true, true, true, true, true, true, true, true, true, true, true, true, true, true, true, true, true, true, true, true, true, true, true, true, true, true, true, true, true, false, false, false, false, false, false, false, false, false] (i := 30) rfl rfl rfl (by decide) (by kernel_rfl) (tight_body (P := Try.prog) (fn := Try.f9)) (p_pick_f rfl rfl rfl) ?_
                clear hs a
                intro a hs
                refine d_pure hs #[true, true, true, true, true, true, true, true, true, true, true, true, true, true, true, true, true, true, true, true, true, true, true, true, true, true, true, true, true, true, true, true, false, false, false, false, false, false, false, false] (i := 31) rfl rfl rfl (by decide) (by kernel_rfl) (tight_body (P := Try.prog) (fn := Try.f9)) (p_move rfl rfl) ?_
                clear hs a
                intro a hs
                replace hs := hs.to (τ := [(0, (.int .u64 epoch0)), (5, (.pointer t19)), (6, (.int .u64 peer6_1)), (8, (.pointer (some p8))), (10, (Sl.val t35x1)), (22, (Sl.val list1)), (23, (.int .i64 (list1.n : Int))), (24, (.int .i64 t24_1)), (69, (.bool (decide (t65 < peer6_1))))]) ⟨rfl, rfl, rfl, rfl, rfl, rfl, rfl, rfl, rfl, trivial⟩
                refine split_bool (decide (t65 < peer6_1)) (fun hb => ?_) (fun hb => ?_)
                · replace h := h.1 hb
                  rw [hb] at hs
                  clear hb
                  refine d_no hs #[true, true, true, true, true, true, true, true, true, true, true, true, true, true, true, true, true, true, true, true, true, true, true, true, true, true, true, true, true, true, true, true, true, false, false, false, false, false, false, false] (i := 32) rfl rfl rfl (by decide) (by kernel_rfl) (tight_body (P := Try.prog) (fn := Try.f9)) ?_
                  clear hs a
                  intro a hs
                  refine d_no hs #[true, true, true, true, true, true, true, true, true, true, true, true, true, true, true, true, true, true, true, true, true, true, true, true, true, true, true, true, true, true, true, true, true, true, false, false, false, false, false, false] (i := 33) rfl rfl rfl (by decide) (by kernel_rfl) (tight_body (P := Try.prog) (fn := Try.f9)) ?_
                  clear hs a
                  intro a hs
                  refine d_no hs #[true, true, true, true, true, true, true, true, true, true, true, true, true, true, true, true, true, true, true, true, true, true, true, true, true, true, true, true, true, true, true, true, true, true, true, false, false, false, false, false] (i := 34) rfl rfl rfl (by decide) (by kernel_rfl) (tight_body (P := Try.prog) (fn := Try.f9)) ?_
                  clear hs a
                  intro a hs
                  refine d_no hs #[true, true, true, true, true, true, true, true, true, true, true, true, true, true, true, true, true, true, true, true, true, true, true, true, true, true, true, true, true, true, true, true, true, true, true, true, false, false, false, false] (i := 35) rfl rfl rfl (by decide) (by kernel_rfl) (tight_body (P := Try.prog) (fn := Try.f9)) ?_
                  clear hs a
                  intro a hs
                  refine d_no hs #[true, true, true, true, true, true, true, true, true, true, true, true, true, true, true, true, true, true, true, true, true, true, true, true, true, true, true, true, true, true, true, true, true, true, true, true, true, false, false, false] (i := 36) rfl rfl rfl (by decide) (by kernel_rfl) (tight_body (P := Try.prog) (fn := Try.f9)) ?_
                  clear hs a
                  intro a hs
                  refine d_no hs #[true, true, true, true, true, true, true, true, true, true, true, true, true, true, true, true, true, true, true, true, true, true, true, true, true, true, true, true, true, true, true, true, true, true, true, true, true, true, false, false] (i := 37) rfl rfl rfl (by decide) (by kernel_rfl) (tight_body (P := Try.prog) (fn := Try.f9)) ?_
                  clear hs a
                  intro a hs
                  refine d_no hs #[true, true, true, true, true, true, true, true, true, true, true, true, true, true, true, true, true, true, true, true, true, true, true, true, true, true, true, true, true, true, true, true, true, true, true, true, true, true, true, false] (i := 38) rfl rfl rfl (by decide) (by kernel_rfl) (tight_body (P := Try.prog) (fn := Try.f9)) ?_
                  clear hs a
                  intro a hs
                  refine d_pure hs #[true, true, true, true, true, true, true, true, true, true, true, true, true, true, true, true, true, true, true, true, true, true, true, true, true, true, true, true, true, true, true, true, true, true, true, true, true, true, true, true] (i := 39) rfl rfl rfl (by decide) (by kernel_rfl) (tight_body (P := Try.prog) (fn := Try.f9)) (p_pick_t rfl rfl rfl) ?_
                  clear hs a
                  intro a hs
                  replace hs := hs.to (τ := [(0, (.int .u64 epoch0)), (5, (.pointer t19)), (10, (Sl.val t35x1)), (22, (Sl.val list1)), (23, (.int .i64 (list1.n : Int))), (24, (.int .i64 t24_1)), (77, (.bool true))]) ⟨rfl, rfl, rfl, rfl, rfl, rfl, rfl, trivial⟩
                  refine d_done (by kernel_rfl) ?_ _
                  clear hS
                  exact J2 true _ _ (hs.to ⟨rfl, rfl, rfl, rfl, rfl, rfl, rfl, trivial⟩) h
                · replace h := h.2 hb
                  rw [hb] at hs
                  clear hb
                  refine d_pure hs #[true, true, true, true, true, true, true, true, true, true, true, true, true, true, true, true, true, true, true, true, true, true, true, true, true, true, true, true, true, true, true, true, true, false, false, false, false, false, false, false] (i := 32) rfl rfl rfl (by decide) (by kernel_rfl) (tight_body (P := Try.prog) (fn := Try.f9)) (p_move rfl rfl) ?_
                  clear hs a
                  intro a hs
                  refine d_pure hs #[true, true, true, true, true, true, true, true, true, true, true, true, true, true, true, true, true, true, true, true, true, true, true, true, true, true, true, true, true, true, true, true, true, false, true, false, false, false, false, false] (i := 34) rfl rfl rfl (by decide) (by kernel_rfl) (tight_body (P := Try.prog) (fn := Try.f9)) (p_move rfl rfl) ?_
                  clear hs a
                  intro a hs
                  refine d_pure hs #[true, true, true, true, true, true, true, true, true, true, true, true, true, true, true, true, true, true, true, true, true, true, true, true, true, true, true, true, true, true, true, true, true, false, true, true, false, false, false, false] (i := 35) rfl rfl rfl (by decide) (by kernel_rfl) (tight_body (P := Try.prog) (fn := Try.f9)) (p_fieldAddr0 rfl rfl ft_36_0) ?_
                  clear hs a
                  intro a hs
                  obtain ⟨t74, hv, h⟩ := h
                  refine d_read hs #[true, true, true, true, true, true, true, true, true, true, true, true, true, true, true, true, true, true, true, true, true, true, true, true, true, true, true, true, true, true, true, true, true, false, true, true, true, false, false, false] (i := 36) rfl rfl rfl (by decide) (by kernel_rfl) (by kernel_rfl) (tight_body (P := Try.prog) (fn := Try.f9)) hS (fun w h' => e_load rfl rfl ct_23 (hv w h')) ?_
                  clear hs a hv
                  intro a hs
                  obtain ⟨t75, he, h⟩ := h
                  refine d_pure hs #[true, true, true, true, true, true, true, true, true, true, true, true, true, true, true, true, true, true, true, true, true, true, true, true, true, true, true, true, true, true, true, true, true, false, true, true, true, true, false, false] (i := 37) rfl rfl rfl (by decide) (by kernel_rfl) (tight_body (P := Try.prog) (fn := Try.f9)) (Pure.int he (p_max _ rfl rfl rfl)) ?_
                  clear hs a he
                  intro a hs
                  refine d_all [33] (by kernel_rfl) (by decide) ?_
                  refine AllS.cons ?_ AllS.nil
                  refine d_call hs #[true, true, true, true, true, true, true, true, true, true, true, true, true, true, true, true, true, true, true, true, true, true, true, true, true, true, true, true, true, true, true, true, true, true, true, true, true, true, false, false] (i := 33) rfl rfl rfl (by decide) rfl (e_call rfl rfl rfl cb_38) h (fun v w'' hk => by obtain ⟨t71, _, hS, _⟩ := hk; exact fun _ _ => hS) ?_
                  clear hs a h
                  intro v a w hk hs
                  obtain ⟨t71, rfl, h⟩ := hk
                  obtain ⟨hS, h⟩ := h
                  refine d_pure hs #[true, true, true, true, true, true, true, true, true, true, true, true, true, true, true, true, true, true, true, true, true, true, true, true, true, true, true, true, true, true, true, true, true, true, true, true, true, true, true, false] (i := 38) rfl rfl rfl (by decide) (by kernel_rfl) (tight_body (P := Try.prog) (fn := Try.f9)) (p_ne rfl rfl rfl) ?_
                  clear hs a
                  intro a hs
                  refine d_pure hs #[true, true, true, true, true, true, true, true, true, true, true, true, true, true, true, true, true, true, true, true, true, true, true, true, true, true, true, true, true, true, true, true, true, true, true, true, true, true, true, true] (i := 39) rfl rfl rfl (by decide) (by kernel_rfl) (tight_body (P := Try.prog) (fn := Try.f9)) (p_pick_f rfl rfl rfl) ?_
                  clear hs a
                  intro a hs
                  replace hs := hs.to (τ := [(0, (.int .u64 epoch0)), (5, (.pointer t19)), (10, (Sl.val t35x1)), (22, (Sl.val list1)), (23, (.int .i64 (list1.n : Int))), (24, (.int .i64 t24_1)), (77, (.bool (decide (t71 ≠ t75))))]) ⟨rfl, rfl, rfl, rfl, rfl, rfl, rfl, trivial⟩
                  refine d_done (by kernel_rfl) ?_ _
                  clear hS
                  exact J2 (decide (t71 ≠ t75)) _ _ (hs.to ⟨rfl, rfl, rfl, rfl, rfl, rfl, rfl, trivial⟩) h
        · replace h := h.2 hb
          clear hb
          refine wp_exit ?_
          refine hK12 _ _ ?_
          refine wp_seq_k fun K33 hK33 => ?_
          refine wp_region_lit ?_
          refine t_pure hs rfl rfl (by decide) (p_assign rfl rfl) ?_
          clear hs a
          intro a hs
          refine hK33 _ _ ?_
          refine wp_ret ?_
          refine f_ret (fn := Try.f9) hs (fun a hs => r_one hs rfl (rfl)) ⟨true, rfl, h⟩
end Go.Proofs.Ytilejcnbacmdnaa
