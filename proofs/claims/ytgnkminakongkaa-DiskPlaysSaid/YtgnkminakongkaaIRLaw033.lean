/- Plain forms of functions, and that their code comes to them (package law03). -/
import Derived.Test.YtgnkminakongkaaCalls
namespace Go.Proofs.Ytgnkminakongkaa
open Go Go.Sep
set_option linter.unusedVariables false
set_option linter.unusedSimpArgs false
set_option maxRecDepth 100000
set_option maxHeartbeats 4000000
def law03_same.s3 (Q : Bool → K) (X2 : Int → K) (d0_3 : (Option Addr)) (m1_3 : Addr) (names5_3 : Sl) (b8_3 : Sl) (t32_3 : Sl) (t33_3 : Int) (t34_3 : Int) (t71_3 : Bool) : K :=
  Ite t71_3
    (Q false)
    (law03_spoil.call b8_3 <|
    Ar (IntKind.wrap .i64 (t34_3 + 1)) fun t74 =>
    X2 t74)
def law03_same.b2 (Q : Bool → K)  (X2 : Int → K) (d0_2 : (Option Addr)) (m1_2 : Addr) (names5_2 : Sl) (t32_2 : Sl) (t33_2 : Int) (t34_2 : Int) : K :=
  Ite (decide (t34_2 < t33_2))
    (Idx t32_2 t34_2 3 fun t37 =>
    LdN t37 3 fun t38 =>
    New 89 #[(.string ⟨#[]⟩), (Sl.val ⟨none, 0, 0⟩), (.int .i64 0)] fun f7 =>
    StN f7 3 t38 <|
    Ld f7 Value.string fun t42 =>
    disk_Disk_Read.call d0_2 t42 fun t43x0 t43x1 =>
    Ld f7 Value.string fun t49 =>
    ref03_Disk_Read.call (some m1_2) t49 fun t50x0 t50x1 =>
    Dr <|
    Idx names5_2 t34_2 1 fun t55 =>
    Ld t55 Value.string fun t56 =>
    Ld f7 Value.string fun t58 =>
    Ite (!(t56.toList == t58.toList))
      (law03_same.s3 Q X2 d0_2 m1_2 names5_2 t43x0 t32_2 t33_2 t34_2 true)
      (Ite (decide (t43x1 ≠ t50x1))
        (law03_same.s3 Q X2 d0_2 m1_2 names5_2 t43x0 t32_2 t33_2 t34_2 true)
        (Rd Try.prog (convert 33 9 (Sl.val t43x0)) Value.string fun t67 =>
        Rd Try.prog (convert 33 9 (Sl.val t50x0)) Value.string fun t69 =>
        law03_same.s3 Q X2 d0_2 m1_2 names5_2 t43x0 t32_2 t33_2 t34_2 (!(t67.toList == t69.toList)))))
    (Q true)
def law03_same.s1 (Q : Bool → K)  (d0_1 : (Option Addr)) (m1_1 : (Option Addr)) (names5_1 : Sl) (t28_1 : Bool) : K :=
  Ite t28_1
    (Q false)
    (Nn m1_1 fun t30 =>
    Ld (t30.add 1) Sl.val fun t32 =>
    LoopK (α := Int) (fun X x => law03_same.b2 Q X d0_1 t30 names5_1 t32 (t32.n : Int) x) 0)
def law03_same (d0 : (Option Addr)) (m1 : (Option Addr)) (Q : Bool → K) : K :=
  disk_Disk_Names.call d0 fun t13 =>
  Nn m1 fun t17 =>
  Ld (t17.add 1) Sl.val fun t19 =>
  Ite (decide ((t13.n : Int) ≠ (t19.n : Int)))
    (law03_same.s1 Q d0 (some t17) t13 true)
    (disk_Disk_Used.call d0 fun t24 =>
    ref03_Disk_Used.call (some t17) fun t26 =>
    law03_same.s1 Q d0 (some t17) t13 (decide (t24 ≠ t26)))
theorem law03_same_ok (d0 : (Option Addr)) (m1 : (Option Addr)) (Q : Bool → K) (w : World) (h : law03_same d0 m1 Q w) : law03_same.call d0 m1 Q w := by
  unfold law03_same.call CallF
  refine f_start (args := [(.pointer d0), (.pointer m1)]) Try.func34 rfl (Nat.le_of_ble_eq_true rfl) ?_
  intro a hs
  unfold law03_same at h
  refine wp_seq_k fun K1 hK1 => ?_
  refine wp_region_lit ?_
  refine t_pure hs rfl rfl (by decide) (p_assign rfl rfl) ?_
  clear hs a
  intro a hs
  refine hK1 _ _ ?_
  refine wp_seq_k fun K2 hK2 => ?_
  refine wp_region_lit ?_
  refine t_pure hs rfl rfl (by decide) (p_move rfl rfl) ?_
  clear hs a
  intro a hs
  refine t_call hs rfl rfl (by decide) (e_call rfl rfl rfl cb_28) h ?_
  clear hs a h
  intro v a w hk hs
  obtain ⟨t13, rfl, h⟩ := hk
  refine t_pure hs rfl rfl (by decide) (p_assign rfl rfl) ?_
  clear hs a
  intro a hs
  refine hK2 _ _ ?_
  refine wp_seq_k fun K3 hK3 => ?_
  refine wp_seq_k fun K4 hK4 => ?_
  have J1 : ∀ (t28_1 : Bool) (a : Act) (w : World), Slots a 75 [(0, (.pointer d0)), (1, (.pointer m1)), (5, (Sl.val t13)), (28, (.bool t28_1))] → law03_same.s1 Q d0 m1 t13 t28_1 w → K4 a w := by
    clear h hs
    intro t28_1 a w hs h
    refine hK4 _ _ ?_
    unfold law03_same.s1 at h
    refine c_cond hs rfl (fun hb => ?_) (fun hb => ?_)
    · replace h := h.1 hb
      clear hb
      refine wp_seq_k fun K5 hK5 => ?_
      refine wp_region_lit ?_
      refine t_pure hs rfl rfl (by decide) (p_assign rfl rfl) ?_
      clear hs a
      intro a hs
      refine hK5 _ _ ?_
      refine wp_ret ?_
      refine f_ret (fn := Try.f34) hs (fun a hs => r_one hs rfl (rfl)) ⟨false, rfl, h⟩
    · replace h := h.2 hb
      clear hb
      refine wp_skip ?_
      refine hK3 _ _ ?_
      refine wp_seq_k fun K6 hK6 => ?_
      refine wp_seq_k fun K7 hK7 => ?_
      refine wp_region_lit ?_
      refine t_pure hs rfl rfl (by decide) (p_move rfl rfl) ?_
      clear hs a
      intro a hs
      obtain ⟨t30, rfl, h⟩ := h
      refine t_pure hs rfl rfl (by decide) (p_nil rfl rfl) ?_
      clear hs a
      intro a hs
      refine t_pure hs rfl rfl (by decide) (p_fieldAddr rfl rfl ft_87_1) ?_
      clear hs a
      intro a hs
      obtain ⟨t32, hv, h⟩ := h
      refine t_eff hs rfl rfl (by decide) (e_load rfl rfl ct_85 hv) ?_
      clear hs a hv
      intro a hs
      refine t_pure hs rfl rfl (by decide) (p_len rfl rfl sl_85) ?_
      clear hs a
      intro a hs
      refine t_pure hs rfl rfl (by decide) (p_move rfl rfl) ?_
      clear hs a
      intro a hs
      refine hK7 _ _ ?_
      refine wp_block ?_
      obtain ⟨I2, μ2, h0, hr⟩ := h
      refine c_loop (α := Int) I2 μ2 (fun x a => Slots a 75 [(0, (.pointer d0)), (1, (.pointer (some t30))), (5, (Sl.val t13)), (32, (Sl.val t32)), (33, (.int .i64 (t32.n : Int))), (34, (.int .i64 x))]) 0 h0 (hs.to ⟨rfl, rfl, rfl, rfl, rfl, rfl, trivial⟩) ?_
      clear h0 hs a
      intro t34_2 a w hI hs
      have h : law03_same.b2 Q (fun t34_2n w' => I2 t34_2n w' ∧ μ2 t34_2n w' < μ2 t34_2 w) d0 t30 t13 t32 (t32.n : Int) t34_2 w := hr t34_2 w hI
      clear hr hI
      generalize hX2 : (fun t34_2n w' => I2 t34_2n w' ∧ μ2 t34_2n w' < μ2 t34_2 w) = X2 at h
      unfold law03_same.b2 at h
      replace hs : Slots a 75 [(0, (.pointer d0)), (1, (.pointer (some t30))), (5, (Sl.val t13)), (32, (Sl.val t32)), (33, (.int .i64 (t32.n : Int))), (34, (.int .i64 t34_2))] := hs
      refine wp_seq_k fun K8 hK8 => ?_
      refine wp_region_lit ?_
      refine t_pure hs rfl rfl (by decide) (p_lt rfl rfl rfl) ?_
      clear hs a
      intro a hs
      refine hK8 _ _ ?_
      refine wp_seq_k fun K9 hK9 => ?_
      refine c_cond hs rfl (fun hb => ?_) (fun hb => ?_)
      · replace h := h.1 hb
        clear hb
        refine wp_skip ?_
        refine hK9 _ _ ?_
        refine wp_seq_k fun K10 hK10 => ?_
        refine wp_block ?_
        refine wp_seq_k fun K11 hK11 => ?_
        refine wp_region_lit ?_
        refine t_pure hs rfl rfl (by decide) (p_move rfl rfl) ?_
        clear hs a
        intro a hs
        obtain ⟨qt37, t37, ha, h0, h1, he, h⟩ := h
        refine t_pure hs rfl rfl (by decide) (Pure.adr he (p_idx rfl rfl rfl sl_85 ha h0 h1)) ?_
        clear hs a ha h0 h1 he
        intro a hs
        obtain ⟨t38, hn, hv, h⟩ := h
        refine t_eff hs rfl rfl (by decide) (e_loadN rfl rfl at_89 hn hv) ?_
        clear hs a hn hv
        intro a hs
        obtain ⟨f7, w1, ha, hw, h⟩ := h
        refine t_eff hs rfl rfl (by decide) (e_alloc rfl zt_89 rfl ha hw) ?_
        clear hs a ha hw
        intro a hs
        refine t_pure hs rfl rfl (by decide) (p_assign rfl rfl) ?_
        clear hs a
        intro a hs
        obtain ⟨w1, hw, hn, hc, hv, h⟩ := h
        refine t_skip hs rfl rfl (e_storeN rfl rfl rfl sz_89 hw hn hc hv) ?_
        clear hs a hw hn hc hv
        intro a hs
        refine hK11 _ _ ?_
        refine wp_seq_k fun K12 hK12 => ?_
        refine wp_region_lit ?_
        refine t_pure hs rfl rfl (by decide) (p_move rfl rfl) ?_
        clear hs a
        intro a hs
        refine t_pure hs rfl rfl (by decide) (p_fieldAddr0 rfl rfl ft_89_0) ?_
        clear hs a
        intro a hs
        obtain ⟨t42, hv, h⟩ := h
        refine t_eff hs rfl rfl (by decide) (e_load rfl rfl ct_9 hv) ?_
        clear hs a hv
        intro a hs
        refine t_call hs rfl rfl (by decide) (e_call rfl rfl rfl cb_25) h ?_
        clear hs a h
        intro v a w hk hs
        obtain ⟨t43x0, t43x1, rfl, h⟩ := hk
        refine t_pure hs rfl rfl (by decide) (p_move rfl rfl) ?_
        clear hs a
        intro a hs
        refine t_pure hs rfl rfl (by decide) (p_extract rfl rfl rfl) ?_
        clear hs a
        intro a hs
        refine t_pure hs rfl rfl (by decide) (p_extract rfl rfl rfl) ?_
        clear hs a
        intro a hs
        refine t_pure hs rfl rfl (by decide) (p_assign rfl rfl) ?_
        clear hs a
        intro a hs
        replace hs := hs.to (τ := [(0, (.pointer d0)), (1, (.pointer (some t30))), (5, (Sl.val t13)), (6, (.int .i64 t34_2)), (7, (.pointer (some f7))), (8, (Sl.val t43x0)), (32, (Sl.val t32)), (33, (.int .i64 (t32.n : Int))), (34, (.int .i64 t34_2)), (45, (.int .i64 t43x1))]) ⟨rfl, rfl, rfl, rfl, rfl, rfl, rfl, rfl, rfl, rfl, trivial⟩
        refine t_pure hs rfl rfl (by decide) (p_assign rfl rfl) ?_
        clear hs a
        intro a hs
        refine hK12 _ _ ?_
        refine wp_seq_k fun K13 hK13 => ?_
        refine wp_region_lit ?_
        refine t_pure hs rfl rfl (by decide) (p_move rfl rfl) ?_
        clear hs a
        intro a hs
        refine t_pure hs rfl rfl (by decide) (p_fieldAddr0 rfl rfl ft_89_0) ?_
        clear hs a
        intro a hs
        obtain ⟨t49, hv, h⟩ := h
        refine t_eff hs rfl rfl (by decide) (e_load rfl rfl ct_9 hv) ?_
        clear hs a hv
        intro a hs
        refine t_call hs rfl rfl (by decide) (e_call rfl rfl rfl cb_56) h ?_
        clear hs a h
        intro v a w hk hs
        obtain ⟨t50x0, t50x1, rfl, h⟩ := hk
        refine t_pure hs rfl rfl (by decide) (p_move rfl rfl) ?_
        clear hs a
        intro a hs
        refine t_pure hs rfl rfl (by decide) (p_extract rfl rfl rfl) ?_
        clear hs a
        intro a hs
        refine t_pure hs rfl rfl (by decide) (p_extract rfl rfl rfl) ?_
        clear hs a
        intro a hs
        refine t_pure hs rfl rfl (by decide) (p_assign rfl rfl) ?_
        clear hs a
        intro a hs
        replace hs := hs.to (τ := [(0, (.pointer d0)), (1, (.pointer (some t30))), (5, (Sl.val t13)), (6, (.int .i64 t34_2)), (7, (.pointer (some f7))), (8, (Sl.val t43x0)), (9, (.int .i64 t43x1)), (10, (Sl.val t50x0)), (32, (Sl.val t32)), (33, (.int .i64 (t32.n : Int))), (34, (.int .i64 t34_2)), (52, (.int .i64 t50x1))]) ⟨rfl, rfl, rfl, rfl, rfl, rfl, rfl, rfl, rfl, rfl, rfl, rfl, trivial⟩
        refine t_pure hs rfl rfl (by decide) (p_assign rfl rfl) ?_
        clear hs a
        intro a hs
        refine hK13 _ _ ?_
        refine wp_seq_k fun K14 hK14 => ?_
        refine wp_seq_k fun K15 hK15 => ?_
        have J3 : ∀ (t71_3 : Bool) (a : Act) (w : World), Slots a 75 [(0, (.pointer d0)), (1, (.pointer (some t30))), (5, (Sl.val t13)), (8, (Sl.val t43x0)), (32, (Sl.val t32)), (33, (.int .i64 (t32.n : Int))), (34, (.int .i64 t34_2)), (71, (.bool t71_3))] → law03_same.s3 Q X2 d0 t30 t13 t43x0 t32 (t32.n : Int) t34_2 t71_3 w → K15 a w := by
          clear h hs
          intro t71_3 a w hs h
          refine hK15 _ _ ?_
          unfold law03_same.s3 at h
          refine c_cond hs rfl (fun hb => ?_) (fun hb => ?_)
          · replace h := h.1 hb
            clear hb
            refine wp_seq_k fun K16 hK16 => ?_
            refine wp_region_lit ?_
            refine t_pure hs rfl rfl (by decide) (p_assign rfl rfl) ?_
            clear hs a
            intro a hs
            refine hK16 _ _ ?_
            refine wp_ret ?_
            refine f_ret (fn := Try.f34) hs (fun a hs => r_one hs rfl (rfl)) ⟨false, rfl, h⟩
          · replace h := h.2 hb
            clear hb
            refine wp_skip ?_
            refine hK14 _ _ ?_
            refine wp_region_lit ?_
            refine t_pure hs rfl rfl (by decide) (p_move rfl rfl) ?_
            clear hs a
            intro a hs
            refine t_call hs rfl rfl (by decide) (e_call rfl rfl rfl cb_57) h ?_
            clear hs a h
            intro v a w hk hs
            obtain ⟨rfl, h⟩ := hk
            refine hK10 _ _ ?_
            refine wp_region_lit ?_
            obtain ⟨t74, he, h⟩ := h
            refine t_pure hs rfl rfl (by decide) (Pure.int he (p_add rfl rfl rfl)) ?_
            clear hs a he
            intro a hs
            refine t_pure hs rfl rfl (by decide) (p_move rfl rfl) ?_
            clear hs a
            intro a hs
            rw [← hX2] at h
            exact ⟨t74, hs.to ⟨rfl, rfl, rfl, rfl, rfl, rfl, trivial⟩, h⟩
        clear hK15
        obtain ⟨w1, hw1, h⟩ := h
        refine s_start mixed (by kernel_rfl) hw1 ?_
        clear hw1
        refine s_pure hs rfl rfl (by decide) (p_move rfl rfl) ?_
        clear hs a
        intro a hs
        refine s_pure hs rfl rfl (by decide) (p_move rfl rfl) ?_
        clear hs a
        intro a hs
        obtain ⟨qt55, t55, ha, h0, h1, he, h⟩ := h
        refine s_pure hs rfl rfl (by decide) (Pure.adr he (p_idx rfl rfl rfl sl_59 ha h0 h1)) ?_
        clear hs a ha h0 h1 he
        intro a hs
        obtain ⟨t56, hv, h⟩ := h
        refine s_eff hs rfl rfl (by decide) (e_load rfl rfl ct_9 hv) ?_
        clear hs a hv
        intro a hs
        refine s_pure hs rfl rfl (by decide) (p_fieldAddr0 rfl rfl ft_89_0) ?_
        clear hs a
        intro a hs
        obtain ⟨t58, hv, h⟩ := h
        refine s_eff hs rfl rfl (by decide) (e_load rfl rfl ct_9 hv) ?_
        clear hs a hv
        intro a hs
        refine s_pure hs rfl rfl (by decide) (p_nes rfl rfl rfl) ?_
        clear hs a
        intro a hs
        refine s_pure hs rfl rfl (by decide) (p_move rfl rfl) ?_
        clear hs a
        intro a hs
        replace hs := hs.to (τ := [(0, (.pointer d0)), (1, (.pointer (some t30))), (5, (Sl.val t13)), (8, (Sl.val t43x0)), (9, (.int .i64 t43x1)), (10, (Sl.val t50x0)), (11, (.int .i64 t50x1)), (32, (Sl.val t32)), (33, (.int .i64 (t32.n : Int))), (34, (.int .i64 t34_2)), (60, (.bool (!(t56.toList == t58.toList))))]) ⟨rfl, rfl, rfl, rfl, rfl, rfl, rfl, rfl, rfl, rfl, rfl, trivial⟩
        refine split_bool (!(t56.toList == t58.toList)) (fun hb => ?_) (fun hb => ?_)
        · replace h := h.1 hb
          rw [hb] at hs
          clear hb
          refine s_no hs rfl rfl (by decide) ?_
          clear hs a
          intro a hs
          refine s_no hs rfl rfl (by decide) ?_
          clear hs a
          intro a hs
          refine s_no hs rfl rfl (by decide) ?_
          clear hs a
          intro a hs
          refine s_pure hs rfl rfl (by decide) (p_pick_t rfl rfl rfl) ?_
          clear hs a
          intro a hs
          refine s_pure hs rfl rfl (by decide) (p_move rfl rfl) ?_
          clear hs a
          intro a hs
          refine s_no hs rfl rfl (by decide) ?_
          clear hs a
          intro a hs
          refine s_no hs rfl rfl (by decide) ?_
          clear hs a
          intro a hs
          refine s_no hs rfl rfl (by decide) ?_
          clear hs a
          intro a hs
          replace hs := hs.to (τ := [(0, (.pointer d0)), (1, (.pointer (some t30))), (5, (Sl.val t13)), (8, (Sl.val t43x0)), (32, (Sl.val t32)), (33, (.int .i64 (t32.n : Int))), (34, (.int .i64 t34_2)), (65, (.bool true)), (67, undef), (68, undef)]) ⟨rfl, rfl, rfl, rfl, rfl, rfl, rfl, rfl, rfl, rfl, trivial⟩
          refine s_no hs rfl rfl (by decide) ?_
          clear hs a
          intro a hs
          refine s_no hs rfl rfl (by decide) ?_
          clear hs a
          intro a hs
          refine s_pure hs rfl rfl (by decide) (p_pick_t rfl rfl rfl) ?_
          clear hs a
          intro a hs
          exact J3 true _ _ (hs.to ⟨rfl, rfl, rfl, rfl, rfl, rfl, rfl, rfl, trivial⟩) h
        · replace h := h.2 hb
          rw [hb] at hs
          clear hb
          refine s_yes hs rfl ?_
          refine s_pure hs rfl rfl (by decide) (p_move rfl rfl) ?_
          clear hs a
          intro a hs
          refine s_yes hs rfl ?_
          refine s_pure hs rfl rfl (by decide) (p_move rfl rfl) ?_
          clear hs a
          intro a hs
          refine s_yes hs rfl ?_
          refine s_pure hs rfl rfl (by decide) (p_ne rfl rfl rfl) ?_
          clear hs a
          intro a hs
          refine s_pure hs rfl rfl (by decide) (p_pick_f rfl rfl rfl) ?_
          clear hs a
          intro a hs
          refine s_pure hs rfl rfl (by decide) (p_move rfl rfl) ?_
          clear hs a
          intro a hs
          refine split_bool (decide (t43x1 ≠ t50x1)) (fun hb => ?_) (fun hb => ?_)
          · replace h := h.1 hb
            rw [hb] at hs
            clear hb
            refine s_no hs rfl rfl (by decide) ?_
            clear hs a
            intro a hs
            refine s_no hs rfl rfl (by decide) ?_
            clear hs a
            intro a hs
            refine s_no hs rfl rfl (by decide) ?_
            clear hs a
            intro a hs
            replace hs := hs.to (τ := [(0, (.pointer d0)), (1, (.pointer (some t30))), (5, (Sl.val t13)), (8, (Sl.val t43x0)), (32, (Sl.val t32)), (33, (.int .i64 (t32.n : Int))), (34, (.int .i64 t34_2)), (65, (.bool true)), (67, undef), (68, undef)]) ⟨rfl, rfl, rfl, rfl, rfl, rfl, rfl, rfl, rfl, rfl, trivial⟩
            refine s_no hs rfl rfl (by decide) ?_
            clear hs a
            intro a hs
            refine s_no hs rfl rfl (by decide) ?_
            clear hs a
            intro a hs
            refine s_pure hs rfl rfl (by decide) (p_pick_t rfl rfl rfl) ?_
            clear hs a
            intro a hs
            exact J3 true _ _ (hs.to ⟨rfl, rfl, rfl, rfl, rfl, rfl, rfl, rfl, trivial⟩) h
          · replace h := h.2 hb
            rw [hb] at hs
            clear hb
            refine s_yes hs rfl ?_
            refine s_pure hs rfl rfl (by decide) (p_move rfl rfl) ?_
            clear hs a
            intro a hs
            refine s_yes hs rfl ?_
            obtain ⟨t67, hd, h⟩ := h
            refine s_eff hs rfl rfl (by decide) (e_convert rfl rfl hd) ?_
            clear hs a hd
            intro a hs
            refine s_yes hs rfl ?_
            refine s_pure hs rfl rfl (by decide) (p_move rfl rfl) ?_
            clear hs a
            intro a hs
            replace hs := hs.to (τ := [(0, (.pointer d0)), (1, (.pointer (some t30))), (5, (Sl.val t13)), (8, (Sl.val t43x0)), (32, (Sl.val t32)), (33, (.int .i64 (t32.n : Int))), (34, (.int .i64 t34_2)), (65, (.bool false)), (67, (.string t67)), (68, (Sl.val t50x0))]) ⟨rfl, rfl, rfl, rfl, rfl, rfl, rfl, rfl, rfl, rfl, trivial⟩
            refine s_yes hs rfl ?_
            obtain ⟨t69, hd, h⟩ := h
            refine s_eff hs rfl rfl (by decide) (e_convert rfl rfl hd) ?_
            clear hs a hd
            intro a hs
            refine s_yes hs rfl ?_
            refine s_pure hs rfl rfl (by decide) (p_nes rfl rfl rfl) ?_
            clear hs a
            intro a hs
            refine s_pure hs rfl rfl (by decide) (p_pick_f rfl rfl rfl) ?_
            clear hs a
            intro a hs
            exact J3 (!(t67.toList == t69.toList)) _ _ (hs.to ⟨rfl, rfl, rfl, rfl, rfl, rfl, rfl, rfl, trivial⟩) h
      · replace h := h.2 hb
        clear hb
        refine wp_exit ?_
        refine hK6 _ _ ?_
        refine wp_seq_k fun K17 hK17 => ?_
        refine wp_region_lit ?_
        refine t_pure hs rfl rfl (by decide) (p_assign rfl rfl) ?_
        clear hs a
        intro a hs
        refine hK17 _ _ ?_
        refine wp_ret ?_
        refine f_ret (fn := Try.f34) hs (fun a hs => r_one hs rfl (rfl)) ⟨true, rfl, h⟩
  clear hK4
  refine wp_region_lit ?_
  refine t_pure hs rfl rfl (by decide) (p_move rfl rfl) ?_
  clear hs a
  intro a hs
  refine t_pure hs rfl rfl (by decide) (p_len rfl rfl sl_59) ?_
  clear hs a
  intro a hs
  refine t_pure hs rfl rfl (by decide) (p_move rfl rfl) ?_
  clear hs a
  intro a hs
  obtain ⟨t17, rfl, h⟩ := h
  refine t_pure hs rfl rfl (by decide) (p_nil rfl rfl) ?_
  clear hs a
  intro a hs
  refine t_pure hs rfl rfl (by decide) (p_fieldAddr rfl rfl ft_87_1) ?_
  clear hs a
  intro a hs
  obtain ⟨t19, hv, h⟩ := h
  refine t_eff hs rfl rfl (by decide) (e_load rfl rfl ct_85 hv) ?_
  clear hs a hv
  intro a hs
  refine t_pure hs rfl rfl (by decide) (p_len rfl rfl sl_85) ?_
  clear hs a
  intro a hs
  refine t_pure hs rfl rfl (by decide) (p_ne rfl rfl rfl) ?_
  clear hs a
  intro a hs
  replace hs := hs.to (τ := [(0, (.pointer d0)), (1, (.pointer (some t17))), (5, (Sl.val t13)), (21, (.bool (decide ((t13.n : Int) ≠ (t19.n : Int)))))]) ⟨rfl, rfl, rfl, rfl, trivial⟩
  refine t_pure hs rfl rfl (by decide) (p_move rfl rfl) ?_
  clear hs a
  intro a hs
  refine split_bool (decide ((t13.n : Int) ≠ (t19.n : Int))) (fun hb => ?_) (fun hb => ?_)
  · replace h := h.1 hb
    rw [hb] at hs
    clear hb
    refine t_no hs rfl rfl (by decide) ?_
    clear hs a
    intro a hs
    refine t_no hs rfl rfl (by decide) ?_
    clear hs a
    intro a hs
    refine t_no hs rfl rfl (by decide) ?_
    clear hs a
    intro a hs
    refine t_no hs rfl rfl (by decide) ?_
    clear hs a
    intro a hs
    refine t_no hs rfl rfl (by decide) ?_
    clear hs a
    intro a hs
    refine t_pure hs rfl rfl (by decide) (p_pick_t rfl rfl rfl) ?_
    clear hs a
    intro a hs
    exact J1 true _ _ (hs.to ⟨rfl, rfl, rfl, rfl, trivial⟩) h
  · replace h := h.2 hb
    rw [hb] at hs
    clear hb
    refine t_yes hs rfl ?_
    refine t_pure hs rfl rfl (by decide) (p_move rfl rfl) ?_
    clear hs a
    intro a hs
    refine t_yes hs rfl ?_
    refine t_call hs rfl rfl (by decide) (e_call rfl rfl rfl cb_27) h ?_
    clear hs a h
    intro v a w hk hs
    obtain ⟨t24, rfl, h⟩ := hk
    refine t_yes hs rfl ?_
    refine t_pure hs rfl rfl (by decide) (p_move rfl rfl) ?_
    clear hs a
    intro a hs
    refine t_yes hs rfl ?_
    refine t_call hs rfl rfl (by decide) (e_call rfl rfl rfl cb_55) h ?_
    clear hs a h
    intro v a w hk hs
    obtain ⟨t26, rfl, h⟩ := hk
    refine t_yes hs rfl ?_
    refine t_pure hs rfl rfl (by decide) (p_ne rfl rfl rfl) ?_
    clear hs a
    intro a hs
    refine t_pure hs rfl rfl (by decide) (p_pick_f rfl rfl rfl) ?_
    clear hs a
    intro a hs
    exact J1 (decide (t24 ≠ t26)) _ _ (hs.to ⟨rfl, rfl, rfl, rfl, trivial⟩) h
def law03_step.s1 (Q : Bool → K)  (b7_1 : Sl) (ok8_1 : Bool) : K :=
  law03_spoil.call b7_1 <|
  Q ok8_1
def law03_step (d0 : (Option Addr)) (m1 : (Option Addr)) (o2 : (Array Value)) (Q : Bool → K) : K :=
  New 57 o2 fun o5 =>
  Ld o5 (Value.int .i64) fun t10 =>
  Ar (bitsOf .and .i64 t10 7) fun t11 =>
  Ite (decide (t11 = 0))
    (Dr <| WithS fun S =>
    LdS S (o5.add 2) Value.string fun t16 =>
    LdS S (o5.add 2) Value.string fun t20 =>
    disk_Disk_Sync.call d0 t16 fun t17 =>
    Sv S <|
    ref03_Disk_Sync.call m1 t20 fun t21 =>
    Q (decide (t17 = t21)))
    (Ite (decide (t11 = 1))
      (Dr <| WithS fun S =>
      LdS S (o5.add 2) Value.string fun t27 =>
      LdS S (o5.add 3) Value.string fun t29 =>
      LdS S (o5.add 2) Value.string fun t33 =>
      LdS S (o5.add 3) Value.string fun t35 =>
      disk_Disk_Rename.call d0 t27 t29 fun t30 =>
      Sv S <|
      ref03_Disk_Rename.call m1 t33 t35 fun t36 =>
      Q (decide (t30 = t36)))
      (Ite (decide (t11 = 2))
        (Dr <| WithS fun S =>
        LdS S (o5.add 2) Value.string fun t42 =>
        LdS S (o5.add 2) Value.string fun t46 =>
        disk_Disk_Remove.call d0 t42 fun t43 =>
        Sv S <|
        ref03_Disk_Remove.call m1 t46 fun t47 =>
        Q (decide (t43 = t47)))
        (Ite (decide (t11 = 3))
          (Dr <| WithS fun S =>
          LdS S (o5.add 2) Value.string fun t53 =>
          LdS S (o5.add 1) (Value.int .i64) fun t55 =>
          LdS S (o5.add 2) Value.string fun t59 =>
          LdS S (o5.add 1) (Value.int .i64) fun t61 =>
          disk_Disk_Cut.call d0 t53 t55 fun t56 =>
          Sv S <|
          ref03_Disk_Cut.call m1 t59 t61 fun t62 =>
          Q (decide (t56 = t62)))
          (Ite (decide (t11 = 4))
            (Ld (o5.add 1) (Value.int .i64) fun t68 =>
            disk_Disk_Limit.call d0 t68 <|
            Ld (o5.add 1) (Value.int .i64) fun t72 =>
            ref03_Disk_Limit.call m1 t72 <|
            Q true)
            (New 5 #[] fun t74 =>
            Ld (o5.add 4) Sl.val fun t76 =>
            Do Try.prog (Builtin.append_ #[33, 33] 33 #[(Sl.val (Sl.mk (some t74) 0 0)), (Sl.val t76)]) Sl.val fun t77 =>
            Dr <| WithS fun S =>
            LdS S (o5.add 2) Value.string fun t80 =>
            LdS S (o5.add 2) Value.string fun t85 =>
            LdS S (o5.add 4) Sl.val fun t87 =>
            disk_Disk_Append.call d0 t80 t77 fun t82 =>
            Sv S <|
            ref03_Disk_Append.call m1 t85 t87 fun t88 =>
            Sv S <|
            Ite (decide (t82 = t88))
              (RdS Try.prog S (convert 33 9 (Sl.val t77)) Value.string fun t92 =>
              LdS S (o5.add 4) Sl.val fun t94 =>
              RdS Try.prog S (convert 33 9 (Sl.val t94)) Value.string fun t95 =>
              law03_step.s1 Q t77 (t92.toList == t95.toList))
              (law03_step.s1 Q t77 false))))))
theorem law03_step_ok (d0 : (Option Addr)) (m1 : (Option Addr)) (o2 : (Array Value)) (Q : Bool → K) (w : World) (h : law03_step d0 m1 o2 Q w) : law03_step.call d0 m1 o2 Q w := by
  unfold law03_step.call CallF
  refine f_start (args := [(.pointer d0), (.pointer m1), (.agg o2)]) Try.func36 rfl (Nat.le_of_ble_eq_true rfl) ?_
  intro a hs
  unfold law03_step at h
  refine wp_seq_k fun K1 hK1 => ?_
  refine wp_region_lit ?_
  obtain ⟨o5, w1, ha, hw, h⟩ := h
  refine t_eff hs rfl rfl (by decide) (e_box rfl rfl rfl ha hw) ?_
  clear hs a ha hw
  intro a hs
  refine t_pure hs rfl rfl (by decide) (p_assign rfl rfl) ?_
  clear hs a
  intro a hs
  refine hK1 _ _ ?_
  refine wp_seq_k fun K2 hK2 => ?_
  refine wp_seq_k fun K3 hK3 => ?_
  refine wp_region_lit ?_
  refine t_pure hs rfl rfl (by decide) (p_fieldAddr0 rfl rfl ft_57_0) ?_
  clear hs a
  intro a hs
  obtain ⟨t10, hv, h⟩ := h
  refine t_eff hs rfl rfl (by decide) (e_load rfl rfl ct_3 hv) ?_
  clear hs a hv
  intro a hs
  obtain ⟨t11, he, h⟩ := h
  refine t_pure hs rfl rfl (by decide) (Pure.int he (p_and rfl rfl rfl)) ?_
  clear hs a he
  intro a hs
  refine hK3 _ _ ?_
  refine wp_block ?_
  refine wp_seq_k fun K4 hK4 => ?_
  refine wp_region_lit ?_
  refine t_pure hs rfl rfl (by decide) (p_eq rfl rfl rfl) ?_
  clear hs a
  intro a hs
  refine t_pure hs rfl rfl (by decide) (p_assign rfl rfl) ?_
  clear hs a
  intro a hs
  refine hK4 _ _ ?_
  refine c_cond hs rfl (fun hb => ?_) (fun hb => ?_)
  · replace h := h.1 hb
    clear hb
    refine wp_seq_k fun K5 hK5 => ?_
    obtain ⟨w1, hw1, h⟩ := h
    obtain ⟨S, hS, h⟩ := h
    subst hw1
    refine d_start (S := S) (ds := [7]) #[false, false, false, false, false, false, false, false, false, false] mixed rfl rfl ?_
    refine d_pure hs #[true, false, false, false, false, false, false, false, false, false] (i := 0) rfl rfl rfl (by decide) (by kernel_rfl) (tight_body (P := Try.prog) (fn := Try.f36)) (p_move rfl rfl) ?_
    clear hs a
    intro a hs
    refine d_pure hs #[true, true, false, false, false, false, false, false, false, false] (i := 1) rfl rfl rfl (by decide) (by kernel_rfl) (tight_body (P := Try.prog) (fn := Try.f36)) (p_fieldAddr rfl rfl ft_57_2) ?_
    clear hs a
    intro a hs
    refine d_pure hs #[true, true, false, false, true, false, false, false, false, false] (i := 4) rfl rfl rfl (by decide) (by kernel_rfl) (tight_body (P := Try.prog) (fn := Try.f36)) (p_move rfl rfl) ?_
    clear hs a
    intro a hs
    refine d_pure hs #[true, true, false, false, true, true, false, false, false, false] (i := 5) rfl rfl rfl (by decide) (by kernel_rfl) (tight_body (P := Try.prog) (fn := Try.f36)) (p_fieldAddr rfl rfl ft_57_2) ?_
    clear hs a
    intro a hs
    obtain ⟨t16, hv, h⟩ := h
    refine d_read hs #[true, true, true, false, true, true, false, false, false, false] (i := 2) rfl rfl rfl (by decide) (by kernel_rfl) (by kernel_rfl) (tight_body (P := Try.prog) (fn := Try.f36)) hS (fun w h' => e_load rfl rfl ct_9 (hv w h')) ?_
    clear hs a hv
    intro a hs
    obtain ⟨t20, hv, h⟩ := h
    refine d_read hs #[true, true, true, false, true, true, true, false, false, false] (i := 6) rfl rfl rfl (by decide) (by kernel_rfl) (by kernel_rfl) (tight_body (P := Try.prog) (fn := Try.f36)) hS (fun w h' => e_load rfl rfl ct_9 (hv w h')) ?_
    clear hs a hv
    intro a hs
    refine d_all [3] (by kernel_rfl) (by decide) ?_
    refine AllS.cons ?_ AllS.nil
    refine d_call hs #[true, true, true, true, true, true, true, false, false, false] (i := 3) rfl rfl rfl (by decide) rfl (e_call rfl rfl rfl cb_23) h (fun v w'' hk => by obtain ⟨t17, _, hS, _⟩ := hk; exact fun _ _ => hS) ?_
    clear hs a h
    intro v a w hk hs
    obtain ⟨t17, rfl, h⟩ := hk
    obtain ⟨hS, h⟩ := h
    refine d_all [7] (by kernel_rfl) (by decide) ?_
    refine AllS.cons ?_ AllS.nil
    refine d_call hs #[true, true, true, true, true, true, true, true, false, false] (i := 7) rfl rfl rfl (by decide) rfl (e_call rfl rfl rfl cb_58) h (fun _ _ _ hn => (hn (by decide)).elim) ?_
    clear hs a h
    intro v a w hk hs
    obtain ⟨t21, rfl, h⟩ := hk
    replace hs := hs.to (τ := [(6, (.bool false)), (17, (.int .i64 t17)), (21, (.int .i64 t21))]) ⟨rfl, rfl, rfl, trivial⟩
    refine d_pure hs #[true, true, true, true, true, true, true, true, true, false] (i := 8) rfl rfl rfl (by decide) (by kernel_rfl) (tight_body (P := Try.prog) (fn := Try.f36)) (p_eq rfl rfl rfl) ?_
    clear hs a
    intro a hs
    refine d_pure hs #[true, true, true, true, true, true, true, true, true, true] (i := 9) rfl rfl rfl (by decide) (by kernel_rfl) (tight_body (P := Try.prog) (fn := Try.f36)) (p_assign rfl rfl) ?_
    clear hs a
    intro a hs
    refine d_done (by kernel_rfl) ?_ _
    clear hS
    refine hK5 _ _ ?_
    refine wp_ret ?_
    refine f_ret (fn := Try.f36) hs (fun a hs => r_one hs rfl (rfl)) ⟨(decide (t17 = t21)), rfl, h⟩
  · replace h := h.2 hb
    clear hb
    refine wp_seq_k fun K6 hK6 => ?_
    refine wp_region_lit ?_
    refine t_pure hs rfl rfl (by decide) (p_eq rfl rfl rfl) ?_
    clear hs a
    intro a hs
    refine t_pure hs rfl rfl (by decide) (p_assign rfl rfl) ?_
    clear hs a
    intro a hs
    refine hK6 _ _ ?_
    refine c_cond hs rfl (fun hb => ?_) (fun hb => ?_)
    · replace h := h.1 hb
      clear hb
      refine wp_seq_k fun K7 hK7 => ?_
      obtain ⟨w1, hw1, h⟩ := h
      obtain ⟨S, hS, h⟩ := h
      subst hw1
      refine d_start (S := S) (ds := [11]) #[false, false, false, false, false, false, false, false, false, false, false, false, false, false] mixed rfl rfl ?_
      refine d_pure hs #[true, false, false, false, false, false, false, false, false, false, false, false, false, false] (i := 0) rfl rfl rfl (by decide) (by kernel_rfl) (tight_body (P := Try.prog) (fn := Try.f36)) (p_move rfl rfl) ?_
      clear hs a
      intro a hs
      refine d_pure hs #[true, true, false, false, false, false, false, false, false, false, false, false, false, false] (i := 1) rfl rfl rfl (by decide) (by kernel_rfl) (tight_body (P := Try.prog) (fn := Try.f36)) (p_fieldAddr rfl rfl ft_57_2) ?_
      clear hs a
      intro a hs
      refine d_pure hs #[true, true, false, true, false, false, false, false, false, false, false, false, false, false] (i := 3) rfl rfl rfl (by decide) (by kernel_rfl) (tight_body (P := Try.prog) (fn := Try.f36)) (p_fieldAddr rfl rfl ft_57_3) ?_
      clear hs a
      intro a hs
      refine d_pure hs #[true, true, false, true, false, false, true, false, false, false, false, false, false, false] (i := 6) rfl rfl rfl (by decide) (by kernel_rfl) (tight_body (P := Try.prog) (fn := Try.f36)) (p_move rfl rfl) ?_
      clear hs a
      intro a hs
      refine d_pure hs #[true, true, false, true, false, false, true, true, false, false, false, false, false, false] (i := 7) rfl rfl rfl (by decide) (by kernel_rfl) (tight_body (P := Try.prog) (fn := Try.f36)) (p_fieldAddr rfl rfl ft_57_2) ?_
      clear hs a
      intro a hs
      refine d_pure hs #[true, true, false, true, false, false, true, true, false, true, false, false, false, false] (i := 9) rfl rfl rfl (by decide) (by kernel_rfl) (tight_body (P := Try.prog) (fn := Try.f36)) (p_fieldAddr rfl rfl ft_57_3) ?_
      clear hs a
      intro a hs
      obtain ⟨t27, hv, h⟩ := h
      refine d_read hs #[true, true, true, true, false, false, true, true, false, true, false, false, false, false] (i := 2) rfl rfl rfl (by decide) (by kernel_rfl) (by kernel_rfl) (tight_body (P := Try.prog) (fn := Try.f36)) hS (fun w h' => e_load rfl rfl ct_9 (hv w h')) ?_
      clear hs a hv
      intro a hs
      obtain ⟨t29, hv, h⟩ := h
      refine d_read hs #[true, true, true, true, true, false, true, true, false, true, false, false, false, false] (i := 4) rfl rfl rfl (by decide) (by kernel_rfl) (by kernel_rfl) (tight_body (P := Try.prog) (fn := Try.f36)) hS (fun w h' => e_load rfl rfl ct_9 (hv w h')) ?_
      clear hs a hv
      intro a hs
      replace hs := hs.to (τ := [(6, (.bool false)), (25, (.pointer d0)), (27, (.string t27)), (29, (.string t29)), (31, (.pointer m1)), (32, (.pointer (some (o5.add 2)))), (34, (.pointer (some (o5.add 3))))]) ⟨rfl, rfl, rfl, rfl, rfl, rfl, rfl, trivial⟩
      obtain ⟨t33, hv, h⟩ := h
      refine d_read hs #[true, true, true, true, true, false, true, true, true, true, false, false, false, false] (i := 8) rfl rfl rfl (by decide) (by kernel_rfl) (by kernel_rfl) (tight_body (P := Try.prog) (fn := Try.f36)) hS (fun w h' => e_load rfl rfl ct_9 (hv w h')) ?_
      clear hs a hv
      intro a hs
      obtain ⟨t35, hv, h⟩ := h
      refine d_read hs #[true, true, true, true, true, false, true, true, true, true, true, false, false, false] (i := 10) rfl rfl rfl (by decide) (by kernel_rfl) (by kernel_rfl) (tight_body (P := Try.prog) (fn := Try.f36)) hS (fun w h' => e_load rfl rfl ct_9 (hv w h')) ?_
      clear hs a hv
      intro a hs
      refine d_all [5] (by kernel_rfl) (by decide) ?_
      refine AllS.cons ?_ AllS.nil
      refine d_call hs #[true, true, true, true, true, true, true, true, true, true, true, false, false, false] (i := 5) rfl rfl rfl (by decide) rfl (e_call rfl rfl rfl cb_31) h (fun v w'' hk => by obtain ⟨t30, _, hS, _⟩ := hk; exact fun _ _ => hS) ?_
      clear hs a h
      intro v a w hk hs
      obtain ⟨t30, rfl, h⟩ := hk
      obtain ⟨hS, h⟩ := h
      refine d_all [11] (by kernel_rfl) (by decide) ?_
      refine AllS.cons ?_ AllS.nil
      refine d_call hs #[true, true, true, true, true, true, true, true, true, true, true, true, false, false] (i := 11) rfl rfl rfl (by decide) rfl (e_call rfl rfl rfl cb_59) h (fun _ _ _ hn => (hn (by decide)).elim) ?_
      clear hs a h
      intro v a w hk hs
      obtain ⟨t36, rfl, h⟩ := hk
      refine d_pure hs #[true, true, true, true, true, true, true, true, true, true, true, true, true, false] (i := 12) rfl rfl rfl (by decide) (by kernel_rfl) (tight_body (P := Try.prog) (fn := Try.f36)) (p_eq rfl rfl rfl) ?_
      clear hs a
      intro a hs
      refine d_pure hs #[true, true, true, true, true, true, true, true, true, true, true, true, true, true] (i := 13) rfl rfl rfl (by decide) (by kernel_rfl) (tight_body (P := Try.prog) (fn := Try.f36)) (p_assign rfl rfl) ?_
      clear hs a
      intro a hs
      refine d_done (by kernel_rfl) ?_ _
      clear hS
      refine hK7 _ _ ?_
      refine wp_ret ?_
      refine f_ret (fn := Try.f36) hs (fun a hs => r_one hs rfl (rfl)) ⟨(decide (t30 = t36)), rfl, h⟩
    · replace h := h.2 hb
      clear hb
      refine wp_seq_k fun K8 hK8 => ?_
      refine wp_region_lit ?_
      refine t_pure hs rfl rfl (by decide) (p_eq rfl rfl rfl) ?_
      clear hs a
      intro a hs
      refine t_pure hs rfl rfl (by decide) (p_assign rfl rfl) ?_
      clear hs a
      intro a hs
      refine hK8 _ _ ?_
      refine c_cond hs rfl (fun hb => ?_) (fun hb => ?_)
      · replace h := h.1 hb
        clear hb
        refine wp_seq_k fun K9 hK9 => ?_
        obtain ⟨w1, hw1, h⟩ := h
        obtain ⟨S, hS, h⟩ := h
        subst hw1
        refine d_start (S := S) (ds := [7]) #[false, false, false, false, false, false, false, false, false, false] mixed rfl rfl ?_
        refine d_pure hs #[true, false, false, false, false, false, false, false, false, false] (i := 0) rfl rfl rfl (by decide) (by kernel_rfl) (tight_body (P := Try.prog) (fn := Try.f36)) (p_move rfl rfl) ?_
        clear hs a
        intro a hs
        refine d_pure hs #[true, true, false, false, false, false, false, false, false, false] (i := 1) rfl rfl rfl (by decide) (by kernel_rfl) (tight_body (P := Try.prog) (fn := Try.f36)) (p_fieldAddr rfl rfl ft_57_2) ?_
        clear hs a
        intro a hs
        refine d_pure hs #[true, true, false, false, true, false, false, false, false, false] (i := 4) rfl rfl rfl (by decide) (by kernel_rfl) (tight_body (P := Try.prog) (fn := Try.f36)) (p_move rfl rfl) ?_
        clear hs a
        intro a hs
        refine d_pure hs #[true, true, false, false, true, true, false, false, false, false] (i := 5) rfl rfl rfl (by decide) (by kernel_rfl) (tight_body (P := Try.prog) (fn := Try.f36)) (p_fieldAddr rfl rfl ft_57_2) ?_
        clear hs a
        intro a hs
        obtain ⟨t42, hv, h⟩ := h
        refine d_read hs #[true, true, true, false, true, true, false, false, false, false] (i := 2) rfl rfl rfl (by decide) (by kernel_rfl) (by kernel_rfl) (tight_body (P := Try.prog) (fn := Try.f36)) hS (fun w h' => e_load rfl rfl ct_9 (hv w h')) ?_
        clear hs a hv
        intro a hs
        obtain ⟨t46, hv, h⟩ := h
        refine d_read hs #[true, true, true, false, true, true, true, false, false, false] (i := 6) rfl rfl rfl (by decide) (by kernel_rfl) (by kernel_rfl) (tight_body (P := Try.prog) (fn := Try.f36)) hS (fun w h' => e_load rfl rfl ct_9 (hv w h')) ?_
        clear hs a hv
        intro a hs
        refine d_all [3] (by kernel_rfl) (by decide) ?_
        refine AllS.cons ?_ AllS.nil
        refine d_call hs #[true, true, true, true, true, true, true, false, false, false] (i := 3) rfl rfl rfl (by decide) rfl (e_call rfl rfl rfl cb_32) h (fun v w'' hk => by obtain ⟨t43, _, hS, _⟩ := hk; exact fun _ _ => hS) ?_
        clear hs a h
        intro v a w hk hs
        obtain ⟨t43, rfl, h⟩ := hk
        obtain ⟨hS, h⟩ := h
        refine d_all [7] (by kernel_rfl) (by decide) ?_
        refine AllS.cons ?_ AllS.nil
        refine d_call hs #[true, true, true, true, true, true, true, true, false, false] (i := 7) rfl rfl rfl (by decide) rfl (e_call rfl rfl rfl cb_60) h (fun _ _ _ hn => (hn (by decide)).elim) ?_
        clear hs a h
        intro v a w hk hs
        obtain ⟨t47, rfl, h⟩ := hk
        replace hs := hs.to (τ := [(6, (.bool false)), (43, (.int .i64 t43)), (47, (.int .i64 t47))]) ⟨rfl, rfl, rfl, trivial⟩
        refine d_pure hs #[true, true, true, true, true, true, true, true, true, false] (i := 8) rfl rfl rfl (by decide) (by kernel_rfl) (tight_body (P := Try.prog) (fn := Try.f36)) (p_eq rfl rfl rfl) ?_
        clear hs a
        intro a hs
        refine d_pure hs #[true, true, true, true, true, true, true, true, true, true] (i := 9) rfl rfl rfl (by decide) (by kernel_rfl) (tight_body (P := Try.prog) (fn := Try.f36)) (p_assign rfl rfl) ?_
        clear hs a
        intro a hs
        refine d_done (by kernel_rfl) ?_ _
        clear hS
        refine hK9 _ _ ?_
        refine wp_ret ?_
        refine f_ret (fn := Try.f36) hs (fun a hs => r_one hs rfl (rfl)) ⟨(decide (t43 = t47)), rfl, h⟩
      · replace h := h.2 hb
        clear hb
        refine wp_seq_k fun K10 hK10 => ?_
        refine wp_region_lit ?_
        refine t_pure hs rfl rfl (by decide) (p_eq rfl rfl rfl) ?_
        clear hs a
        intro a hs
        refine t_pure hs rfl rfl (by decide) (p_assign rfl rfl) ?_
        clear hs a
        intro a hs
        refine hK10 _ _ ?_
        refine c_cond hs rfl (fun hb => ?_) (fun hb => ?_)
        · replace h := h.1 hb
          clear hb
          refine wp_seq_k fun K11 hK11 => ?_
          obtain ⟨w1, hw1, h⟩ := h
          obtain ⟨S, hS, h⟩ := h
          subst hw1
          refine d_start (S := S) (ds := [11]) #[false, false, false, false, false, false, false, false, false, false, false, false, false, false] mixed rfl rfl ?_
          refine d_pure hs #[true, false, false, false, false, false, false, false, false, false, false, false, false, false] (i := 0) rfl rfl rfl (by decide) (by kernel_rfl) (tight_body (P := Try.prog) (fn := Try.f36)) (p_move rfl rfl) ?_
          clear hs a
          intro a hs
          refine d_pure hs #[true, true, false, false, false, false, false, false, false, false, false, false, false, false] (i := 1) rfl rfl rfl (by decide) (by kernel_rfl) (tight_body (P := Try.prog) (fn := Try.f36)) (p_fieldAddr rfl rfl ft_57_2) ?_
          clear hs a
          intro a hs
          refine d_pure hs #[true, true, false, true, false, false, false, false, false, false, false, false, false, false] (i := 3) rfl rfl rfl (by decide) (by kernel_rfl) (tight_body (P := Try.prog) (fn := Try.f36)) (p_fieldAddr rfl rfl ft_57_1) ?_
          clear hs a
          intro a hs
          refine d_pure hs #[true, true, false, true, false, false, true, false, false, false, false, false, false, false] (i := 6) rfl rfl rfl (by decide) (by kernel_rfl) (tight_body (P := Try.prog) (fn := Try.f36)) (p_move rfl rfl) ?_
          clear hs a
          intro a hs
          refine d_pure hs #[true, true, false, true, false, false, true, true, false, false, false, false, false, false] (i := 7) rfl rfl rfl (by decide) (by kernel_rfl) (tight_body (P := Try.prog) (fn := Try.f36)) (p_fieldAddr rfl rfl ft_57_2) ?_
          clear hs a
          intro a hs
          refine d_pure hs #[true, true, false, true, false, false, true, true, false, true, false, false, false, false] (i := 9) rfl rfl rfl (by decide) (by kernel_rfl) (tight_body (P := Try.prog) (fn := Try.f36)) (p_fieldAddr rfl rfl ft_57_1) ?_
          clear hs a
          intro a hs
          obtain ⟨t53, hv, h⟩ := h
          refine d_read hs #[true, true, true, true, false, false, true, true, false, true, false, false, false, false] (i := 2) rfl rfl rfl (by decide) (by kernel_rfl) (by kernel_rfl) (tight_body (P := Try.prog) (fn := Try.f36)) hS (fun w h' => e_load rfl rfl ct_9 (hv w h')) ?_
          clear hs a hv
          intro a hs
          obtain ⟨t55, hv, h⟩ := h
          refine d_read hs #[true, true, true, true, true, false, true, true, false, true, false, false, false, false] (i := 4) rfl rfl rfl (by decide) (by kernel_rfl) (by kernel_rfl) (tight_body (P := Try.prog) (fn := Try.f36)) hS (fun w h' => e_load rfl rfl ct_3 (hv w h')) ?_
          clear hs a hv
          intro a hs
          replace hs := hs.to (τ := [(6, (.bool false)), (51, (.pointer d0)), (53, (.string t53)), (55, (.int .i64 t55)), (57, (.pointer m1)), (58, (.pointer (some (o5.add 2)))), (60, (.pointer (some (o5.add 1))))]) ⟨rfl, rfl, rfl, rfl, rfl, rfl, rfl, trivial⟩
          obtain ⟨t59, hv, h⟩ := h
          refine d_read hs #[true, true, true, true, true, false, true, true, true, true, false, false, false, false] (i := 8) rfl rfl rfl (by decide) (by kernel_rfl) (by kernel_rfl) (tight_body (P := Try.prog) (fn := Try.f36)) hS (fun w h' => e_load rfl rfl ct_9 (hv w h')) ?_
          clear hs a hv
          intro a hs
          obtain ⟨t61, hv, h⟩ := h
          refine d_read hs #[true, true, true, true, true, false, true, true, true, true, true, false, false, false] (i := 10) rfl rfl rfl (by decide) (by kernel_rfl) (by kernel_rfl) (tight_body (P := Try.prog) (fn := Try.f36)) hS (fun w h' => e_load rfl rfl ct_3 (hv w h')) ?_
          clear hs a hv
          intro a hs
          refine d_all [5] (by kernel_rfl) (by decide) ?_
          refine AllS.cons ?_ AllS.nil
          refine d_call hs #[true, true, true, true, true, true, true, true, true, true, true, false, false, false] (i := 5) rfl rfl rfl (by decide) rfl (e_call rfl rfl rfl cb_61) h (fun v w'' hk => by obtain ⟨t56, _, hS, _⟩ := hk; exact fun _ _ => hS) ?_
          clear hs a h
          intro v a w hk hs
          obtain ⟨t56, rfl, h⟩ := hk
          obtain ⟨hS, h⟩ := h
          refine d_all [11] (by kernel_rfl) (by decide) ?_
          refine AllS.cons ?_ AllS.nil
          refine d_call hs #[true, true, true, true, true, true, true, true, true, true, true, true, false, false] (i := 11) rfl rfl rfl (by decide) rfl (e_call rfl rfl rfl cb_62) h (fun _ _ _ hn => (hn (by decide)).elim) ?_
          clear hs a h
          intro v a w hk hs
          obtain ⟨t62, rfl, h⟩ := hk
          refine d_pure hs #[true, true, true, true, true, true, true, true, true, true, true, true, true, false] (i := 12) rfl rfl rfl (by decide) (by kernel_rfl) (tight_body (P := Try.prog) (fn := Try.f36)) (p_eq rfl rfl rfl) ?_
          clear hs a
          intro a hs
          refine d_pure hs #[true, true, true, true, true, true, true, true, true, true, true, true, true, true] (i := 13) rfl rfl rfl (by decide) (by kernel_rfl) (tight_body (P := Try.prog) (fn := Try.f36)) (p_assign rfl rfl) ?_
          clear hs a
          intro a hs
          refine d_done (by kernel_rfl) ?_ _
          clear hS
          refine hK11 _ _ ?_
          refine wp_ret ?_
          refine f_ret (fn := Try.f36) hs (fun a hs => r_one hs rfl (rfl)) ⟨(decide (t56 = t62)), rfl, h⟩
        · replace h := h.2 hb
          clear hb
          refine wp_seq_k fun K12 hK12 => ?_
          refine wp_region_lit ?_
          refine t_pure hs rfl rfl (by decide) (p_eq rfl rfl rfl) ?_
          clear hs a
          intro a hs
          refine t_pure hs rfl rfl (by decide) (p_assign rfl rfl) ?_
          clear hs a
          intro a hs
          refine hK12 _ _ ?_
          refine c_cond hs rfl (fun hb => ?_) (fun hb => ?_)
          · replace h := h.1 hb
            clear hb
            refine wp_seq_k fun K13 hK13 => ?_
            refine wp_region_lit ?_
            refine t_pure hs rfl rfl (by decide) (p_move rfl rfl) ?_
            clear hs a
            intro a hs
            refine t_pure hs rfl rfl (by decide) (p_fieldAddr rfl rfl ft_57_1) ?_
            clear hs a
            intro a hs
            obtain ⟨t68, hv, h⟩ := h
            refine t_eff hs rfl rfl (by decide) (e_load rfl rfl ct_3 hv) ?_
            clear hs a hv
            intro a hs
            refine t_call hs rfl rfl (by decide) (e_call rfl rfl rfl cb_30) h ?_
            clear hs a h
            intro v a w hk hs
            obtain ⟨rfl, h⟩ := hk
            refine hK13 _ _ ?_
            refine wp_seq_k fun K14 hK14 => ?_
            refine wp_region_lit ?_
            refine t_pure hs rfl rfl (by decide) (p_move rfl rfl) ?_
            clear hs a
            intro a hs
            refine t_pure hs rfl rfl (by decide) (p_fieldAddr rfl rfl ft_57_1) ?_
            clear hs a
            intro a hs
            obtain ⟨t72, hv, h⟩ := h
            refine t_eff hs rfl rfl (by decide) (e_load rfl rfl ct_3 hv) ?_
            clear hs a hv
            intro a hs
            refine t_call hs rfl rfl (by decide) (e_call rfl rfl rfl cb_41) h ?_
            clear hs a h
            intro v a w hk hs
            obtain ⟨rfl, h⟩ := hk
            refine hK14 _ _ ?_
            refine wp_seq_k fun K15 hK15 => ?_
            refine wp_region_lit ?_
            refine t_pure hs rfl rfl (by decide) (p_assign rfl rfl) ?_
            clear hs a
            intro a hs
            refine hK15 _ _ ?_
            refine wp_ret ?_
            refine f_ret (fn := Try.f36) hs (fun a hs => r_one hs rfl (rfl)) ⟨true, rfl, h⟩
          · replace h := h.2 hb
            clear hb
            refine wp_skip ?_
            refine hK2 _ _ ?_
            refine wp_seq_k fun K16 hK16 => ?_
            refine wp_region_lit ?_
            obtain ⟨t74, w1, ha, hw, h⟩ := h
            refine t_eff hs rfl rfl (by decide) (e_buildSlice (z := #[]) (cs := #[]) rfl sl_33 zt_5 (by decide) rfl rz_5_0 (by rfl) ha hw) ?_
            clear hs a ha hw
            intro a hs
            refine t_pure hs rfl rfl (by decide) (p_fieldAddr rfl rfl ft_57_4) ?_
            clear hs a
            intro a hs
            obtain ⟨t76, hv, h⟩ := h
            refine t_eff hs rfl rfl (by decide) (e_load rfl rfl ct_33 hv) ?_
            clear hs a hv
            intro a hs
            obtain ⟨t77, w1, hd, h⟩ := h
            refine t_eff hs rfl rfl (by decide) (e_append rfl rfl rfl rfl hd) ?_
            clear hs a hd
            intro a hs
            refine t_pure hs rfl rfl (by decide) (p_assign rfl rfl) ?_
            clear hs a
            intro a hs
            refine hK16 _ _ ?_
            refine wp_seq_k fun K17 hK17 => ?_
            have J1 : ∀ (ok8_1 : Bool) (a : Act) (w : World), Slots a 101 [(7, (Sl.val t77)), (8, (.bool ok8_1))] → law03_step.s1 Q t77 ok8_1 w → K17 a w := by
              clear h hs
              intro ok8_1 a w hs h
              refine hK17 _ _ ?_
              unfold law03_step.s1 at h
              refine wp_seq_k fun K18 hK18 => ?_
              refine wp_region_lit ?_
              refine t_pure hs rfl rfl (by decide) (p_move rfl rfl) ?_
              clear hs a
              intro a hs
              refine t_call hs rfl rfl (by decide) (e_call rfl rfl rfl cb_57) h ?_
              clear hs a h
              intro v a w hk hs
              obtain ⟨rfl, h⟩ := hk
              refine hK18 _ _ ?_
              refine wp_seq_k fun K19 hK19 => ?_
              refine wp_region_lit ?_
              refine t_pure hs rfl rfl (by decide) (p_move rfl rfl) ?_
              clear hs a
              intro a hs
              refine t_pure hs rfl rfl (by decide) (p_assign rfl rfl) ?_
              clear hs a
              intro a hs
              refine hK19 _ _ ?_
              refine wp_ret ?_
              refine f_ret (fn := Try.f36) hs (fun a hs => r_one hs rfl (rfl)) ⟨ok8_1, rfl, h⟩
            clear hK17
            obtain ⟨w1, hw1, h⟩ := h
            obtain ⟨S, hS, h⟩ := h
            subst hw1
            refine d_start (S := S) (ds := []) #[false, false, false, false, false, false, false, false, false, false, false, false, false, false, false, false, false, false, false, false, false] mixed rfl rfl ?_
            refine d_pure hs #[true, false, false, false, false, false, false, false, false, false, false, false, false, false, false, false, false, false, false, false, false] (i := 0) rfl rfl rfl (by decide) (by kernel_rfl) (tight_body (P := Try.prog) (fn := Try.f36)) (p_move rfl rfl) ?_
            clear hs a
            intro a hs
            refine d_pure hs #[true, true, false, false, false, false, false, false, false, false, false, false, false, false, false, false, false, false, false, false, false] (i := 1) rfl rfl rfl (by decide) (by kernel_rfl) (tight_body (P := Try.prog) (fn := Try.f36)) (p_fieldAddr rfl rfl ft_57_2) ?_
            clear hs a
            intro a hs
            refine d_pure hs #[true, true, false, true, false, false, false, false, false, false, false, false, false, false, false, false, false, false, false, false, false] (i := 3) rfl rfl rfl (by decide) (by kernel_rfl) (tight_body (P := Try.prog) (fn := Try.f36)) (p_move rfl rfl) ?_
            clear hs a
            intro a hs
            refine d_pure hs #[true, true, false, true, false, true, false, false, false, false, false, false, false, false, false, false, false, false, false, false, false] (i := 5) rfl rfl rfl (by decide) (by kernel_rfl) (tight_body (P := Try.prog) (fn := Try.f36)) (p_move rfl rfl) ?_
            clear hs a
            intro a hs
            refine d_pure hs #[true, true, false, true, false, true, true, false, false, false, false, false, false, false, false, false, false, false, false, false, false] (i := 6) rfl rfl rfl (by decide) (by kernel_rfl) (tight_body (P := Try.prog) (fn := Try.f36)) (p_fieldAddr rfl rfl ft_57_2) ?_
            clear hs a
            intro a hs
            refine d_pure hs #[true, true, false, true, false, true, true, false, true, false, false, false, false, false, false, false, false, false, false, false, false] (i := 8) rfl rfl rfl (by decide) (by kernel_rfl) (tight_body (P := Try.prog) (fn := Try.f36)) (p_fieldAddr rfl rfl ft_57_4) ?_
            clear hs a
            intro a hs
            obtain ⟨t80, hv, h⟩ := h
            refine d_read hs #[true, true, true, true, false, true, true, false, true, false, false, false, false, false, false, false, false, false, false, false, false] (i := 2) rfl rfl rfl (by decide) (by kernel_rfl) (by kernel_rfl) (tight_body (P := Try.prog) (fn := Try.f36)) hS (fun w h' => e_load rfl rfl ct_9 (hv w h')) ?_
            clear hs a hv
            intro a hs
            obtain ⟨t85, hv, h⟩ := h
            refine d_read hs #[true, true, true, true, false, true, true, true, true, false, false, false, false, false, false, false, false, false, false, false, false] (i := 7) rfl rfl rfl (by decide) (by kernel_rfl) (by kernel_rfl) (tight_body (P := Try.prog) (fn := Try.f36)) hS (fun w h' => e_load rfl rfl ct_9 (hv w h')) ?_
            clear hs a hv
            intro a hs
            replace hs := hs.to (τ := [(5, (.pointer (some o5))), (7, (Sl.val t77)), (78, (.pointer d0)), (80, (.string t80)), (81, (Sl.val t77)), (83, (.pointer m1)), (85, (.string t85)), (86, (.pointer (some (o5.add 4))))]) ⟨rfl, rfl, rfl, rfl, rfl, rfl, rfl, rfl, trivial⟩
            obtain ⟨t87, hv, h⟩ := h
            refine d_read hs #[true, true, true, true, false, true, true, true, true, true, false, false, false, false, false, false, false, false, false, false, false] (i := 9) rfl rfl rfl (by decide) (by kernel_rfl) (by kernel_rfl) (tight_body (P := Try.prog) (fn := Try.f36)) hS (fun w h' => e_load rfl rfl ct_33 (hv w h')) ?_
            clear hs a hv
            intro a hs
            refine d_all [4] (by kernel_rfl) (by decide) ?_
            refine AllS.cons ?_ AllS.nil
            refine d_call hs #[true, true, true, true, true, true, true, true, true, true, false, false, false, false, false, false, false, false, false, false, false] (i := 4) rfl rfl rfl (by decide) rfl (e_call rfl rfl rfl cb_22) h (fun v w'' hk => by obtain ⟨t82, _, hS, _⟩ := hk; exact fun _ _ => hS) ?_
            clear hs a h
            intro v a w hk hs
            obtain ⟨t82, rfl, h⟩ := hk
            obtain ⟨hS, h⟩ := h
            refine d_all [10] (by kernel_rfl) (by decide) ?_
            refine AllS.cons ?_ AllS.nil
            refine d_call hs #[true, true, true, true, true, true, true, true, true, true, true, false, false, false, false, false, false, false, false, false, false] (i := 10) rfl rfl rfl (by decide) rfl (e_call rfl rfl rfl cb_63) h (fun v w'' hk => by obtain ⟨t88, _, hS, _⟩ := hk; exact fun _ _ => hS) ?_
            clear hs a h
            intro v a w hk hs
            obtain ⟨t88, rfl, h⟩ := hk
            obtain ⟨hS, h⟩ := h
            refine d_pure hs #[true, true, true, true, true, true, true, true, true, true, true, true, false, false, false, false, false, false, false, false, false] (i := 11) rfl rfl rfl (by decide) (by kernel_rfl) (tight_body (P := Try.prog) (fn := Try.f36)) (p_eq rfl rfl rfl) ?_
            clear hs a
            intro a hs
            refine d_pure hs #[true, true, true, true, true, true, true, true, true, true, true, true, true, false, false, false, false, false, false, false, false] (i := 12) rfl rfl rfl (by decide) (by kernel_rfl) (tight_body (P := Try.prog) (fn := Try.f36)) (p_move rfl rfl) ?_
            clear hs a
            intro a hs
            refine split_bool (decide (t82 = t88)) (fun hb => ?_) (fun hb => ?_)
            · replace h := h.1 hb
              rw [hb] at hs
              clear hb
              refine d_pure hs #[true, true, true, true, true, true, true, true, true, true, true, true, true, true, false, false, false, false, false, false, false] (i := 13) rfl rfl rfl (by decide) (by kernel_rfl) (tight_body (P := Try.prog) (fn := Try.f36)) (p_move rfl rfl) ?_
              clear hs a
              intro a hs
              refine d_pure hs #[true, true, true, true, true, true, true, true, true, true, true, true, true, true, false, true, false, false, false, false, false] (i := 15) rfl rfl rfl (by decide) (by kernel_rfl) (tight_body (P := Try.prog) (fn := Try.f36)) (p_fieldAddr rfl rfl ft_57_4) ?_
              clear hs a
              intro a hs
              obtain ⟨t92, hd, h⟩ := h
              refine d_read hs #[true, true, true, true, true, true, true, true, true, true, true, true, true, true, true, true, false, false, false, false, false] (i := 14) rfl rfl rfl (by decide) (by kernel_rfl) (by kernel_rfl) (tight_body (P := Try.prog) (fn := Try.f36)) hS (fun w h' => e_convert rfl rfl (hd w h')) ?_
              clear hs a hd
              intro a hs
              replace hs := hs.to (τ := [(7, (Sl.val t77)), (90, (.bool true)), (92, (.string t92)), (93, (.pointer (some (o5.add 4))))]) ⟨rfl, rfl, rfl, rfl, trivial⟩
              obtain ⟨t94, hv, h⟩ := h
              refine d_read hs #[true, true, true, true, true, true, true, true, true, true, true, true, true, true, true, true, true, false, false, false, false] (i := 16) rfl rfl rfl (by decide) (by kernel_rfl) (by kernel_rfl) (tight_body (P := Try.prog) (fn := Try.f36)) hS (fun w h' => e_load rfl rfl ct_33 (hv w h')) ?_
              clear hs a hv
              intro a hs
              obtain ⟨t95, hd, h⟩ := h
              refine d_read hs #[true, true, true, true, true, true, true, true, true, true, true, true, true, true, true, true, true, true, false, false, false] (i := 17) rfl rfl rfl (by decide) (by kernel_rfl) (by kernel_rfl) (tight_body (P := Try.prog) (fn := Try.f36)) hS (fun w h' => e_convert rfl rfl (hd w h')) ?_
              clear hs a hd
              intro a hs
              refine d_pure hs #[true, true, true, true, true, true, true, true, true, true, true, true, true, true, true, true, true, true, true, false, false] (i := 18) rfl rfl rfl (by decide) (by kernel_rfl) (tight_body (P := Try.prog) (fn := Try.f36)) (p_eqs rfl rfl rfl) ?_
              clear hs a
              intro a hs
              refine d_pure hs #[true, true, true, true, true, true, true, true, true, true, true, true, true, true, true, true, true, true, true, true, false] (i := 19) rfl rfl rfl (by decide) (by kernel_rfl) (tight_body (P := Try.prog) (fn := Try.f36)) (p_pick_t rfl rfl rfl) ?_
              clear hs a
              intro a hs
              refine d_pure hs #[true, true, true, true, true, true, true, true, true, true, true, true, true, true, true, true, true, true, true, true, true] (i := 20) rfl rfl rfl (by decide) (by kernel_rfl) (tight_body (P := Try.prog) (fn := Try.f36)) (p_assign rfl rfl) ?_
              clear hs a
              intro a hs
              refine d_done (by kernel_rfl) ?_ _
              clear hS
              exact J1 (t92.toList == t95.toList) _ _ (hs.to ⟨rfl, rfl, trivial⟩) h
            · replace h := h.2 hb
              rw [hb] at hs
              clear hb
              refine d_no hs #[true, true, true, true, true, true, true, true, true, true, true, true, true, true, false, false, false, false, false, false, false] (i := 13) rfl rfl rfl (by decide) (by kernel_rfl) (tight_body (P := Try.prog) (fn := Try.f36)) ?_
              clear hs a
              intro a hs
              refine d_no hs #[true, true, true, true, true, true, true, true, true, true, true, true, true, true, true, false, false, false, false, false, false] (i := 14) rfl rfl rfl (by decide) (by kernel_rfl) (tight_body (P := Try.prog) (fn := Try.f36)) ?_
              clear hs a
              intro a hs
              refine d_no hs #[true, true, true, true, true, true, true, true, true, true, true, true, true, true, true, true, false, false, false, false, false] (i := 15) rfl rfl rfl (by decide) (by kernel_rfl) (tight_body (P := Try.prog) (fn := Try.f36)) ?_
              clear hs a
              intro a hs
              replace hs := hs.to (τ := [(7, (Sl.val t77)), (90, (.bool false)), (92, undef), (93, undef)]) ⟨rfl, rfl, rfl, rfl, trivial⟩
              refine d_no hs #[true, true, true, true, true, true, true, true, true, true, true, true, true, true, true, true, true, false, false, false, false] (i := 16) rfl rfl rfl (by decide) (by kernel_rfl) (tight_body (P := Try.prog) (fn := Try.f36)) ?_
              clear hs a
              intro a hs
              refine d_no hs #[true, true, true, true, true, true, true, true, true, true, true, true, true, true, true, true, true, true, false, false, false] (i := 17) rfl rfl rfl (by decide) (by kernel_rfl) (tight_body (P := Try.prog) (fn := Try.f36)) ?_
              clear hs a
              intro a hs
              refine d_no hs #[true, true, true, true, true, true, true, true, true, true, true, true, true, true, true, true, true, true, true, false, false] (i := 18) rfl rfl rfl (by decide) (by kernel_rfl) (tight_body (P := Try.prog) (fn := Try.f36)) ?_
              clear hs a
              intro a hs
              refine d_pure hs #[true, true, true, true, true, true, true, true, true, true, true, true, true, true, true, true, true, true, true, true, false] (i := 19) rfl rfl rfl (by decide) (by kernel_rfl) (tight_body (P := Try.prog) (fn := Try.f36)) (p_pick_f rfl rfl rfl) ?_
              clear hs a
              intro a hs
              refine d_pure hs #[true, true, true, true, true, true, true, true, true, true, true, true, true, true, true, true, true, true, true, true, true] (i := 20) rfl rfl rfl (by decide) (by kernel_rfl) (tight_body (P := Try.prog) (fn := Try.f36)) (p_assign rfl rfl) ?_
              clear hs a
              intro a hs
              refine d_done (by kernel_rfl) ?_ _
              clear hS
              exact J1 false _ _ (hs.to ⟨rfl, rfl, trivial⟩) h
def law03_spoil.b1 (Q : K)  (X1 : Int → K) (b0_1 : Sl) (t4_1 : Int) (t5_1 : Int) : K :=
  Ite (decide (t5_1 < t4_1))
    (Idx b0_1 t5_1 1 fun t10 =>
    St t10 (.int .u8 238) <|
    Ar (IntKind.wrap .i64 (t5_1 + 1)) fun t11 =>
    X1 t11)
    (Q)
def law03_spoil (b0 : Sl) (Q : K) : K :=
  LoopK (α := Int) (fun X x => law03_spoil.b1 Q X b0 (b0.n : Int) x) 0
theorem law03_spoil_ok (b0 : Sl) (Q : K) (w : World) (h : law03_spoil b0 Q w) : law03_spoil.call b0 Q w := by
  unfold law03_spoil.call CallF
  refine f_start (args := [(Sl.val b0)]) Try.func57 rfl (Nat.le_of_ble_eq_true rfl) ?_
  intro a hs
  unfold law03_spoil at h
  refine wp_seq_k fun K1 hK1 => ?_
  refine wp_region_lit ?_
  refine t_pure hs rfl rfl (by decide) (p_move rfl rfl) ?_
  clear hs a
  intro a hs
  refine t_pure hs rfl rfl (by decide) (p_len rfl rfl sl_33) ?_
  clear hs a
  intro a hs
  refine t_pure hs rfl rfl (by decide) (p_move rfl rfl) ?_
  clear hs a
  intro a hs
  refine hK1 _ _ ?_
  refine wp_block ?_
  obtain ⟨I1, μ1, h0, hr⟩ := h
  refine c_loop (α := Int) I1 μ1 (fun x a => Slots a 12 [(0, (Sl.val b0)), (4, (.int .i64 (b0.n : Int))), (5, (.int .i64 x))]) 0 h0 (hs.to ⟨rfl, rfl, rfl, trivial⟩) ?_
  clear h0 hs a
  intro t5_1 a w hI hs
  have h : law03_spoil.b1 Q (fun t5_1n w' => I1 t5_1n w' ∧ μ1 t5_1n w' < μ1 t5_1 w) b0 (b0.n : Int) t5_1 w := hr t5_1 w hI
  clear hr hI
  generalize hX1 : (fun t5_1n w' => I1 t5_1n w' ∧ μ1 t5_1n w' < μ1 t5_1 w) = X1 at h
  unfold law03_spoil.b1 at h
  replace hs : Slots a 12 [(0, (Sl.val b0)), (4, (.int .i64 (b0.n : Int))), (5, (.int .i64 t5_1))] := hs
  refine wp_seq_k fun K2 hK2 => ?_
  refine wp_region_lit ?_
  refine t_pure hs rfl rfl (by decide) (p_lt rfl rfl rfl) ?_
  clear hs a
  intro a hs
  refine hK2 _ _ ?_
  refine wp_seq_k fun K3 hK3 => ?_
  refine c_cond hs rfl (fun hb => ?_) (fun hb => ?_)
  · replace h := h.1 hb
    clear hb
    refine wp_skip ?_
    refine hK3 _ _ ?_
    refine wp_seq_k fun K4 hK4 => ?_
    refine wp_block ?_
    refine wp_seq_k fun K5 hK5 => ?_
    refine wp_region_lit ?_
    refine t_pure hs rfl rfl (by decide) (p_move rfl rfl) ?_
    clear hs a
    intro a hs
    refine t_pure hs rfl rfl (by decide) (p_assign rfl rfl) ?_
    clear hs a
    intro a hs
    refine hK5 _ _ ?_
    refine wp_region_lit ?_
    refine t_pure hs rfl rfl (by decide) (p_move rfl rfl) ?_
    clear hs a
    intro a hs
    refine t_pure hs rfl rfl (by decide) (p_move rfl rfl) ?_
    clear hs a
    intro a hs
    obtain ⟨qt10, t10, ha, h0, h1, he, h⟩ := h
    refine t_pure hs rfl rfl (by decide) (Pure.adr he (p_idx rfl rfl rfl sl_33 ha h0 h1)) ?_
    clear hs a ha h0 h1 he
    intro a hs
    obtain ⟨w1, hw, hc, hf, hv, h⟩ := h
    refine t_skip hs rfl rfl (e_store rfl rfl rfl sz_5 hw hc hf hv) ?_
    clear hs a hw hc hf hv
    intro a hs
    refine hK4 _ _ ?_
    refine wp_region_lit ?_
    obtain ⟨t11, he, h⟩ := h
    refine t_pure hs rfl rfl (by decide) (Pure.int he (p_add rfl rfl rfl)) ?_
    clear hs a he
    intro a hs
    refine t_pure hs rfl rfl (by decide) (p_move rfl rfl) ?_
    clear hs a
    intro a hs
    rw [← hX1] at h
    exact ⟨t11, hs.to ⟨rfl, rfl, rfl, trivial⟩, h⟩
  · replace h := h.2 hb
    clear hb
    refine wp_exit ?_
    refine f_end (fn := Try.f57) hs (fun a hs => r_many hs (rs := []) (vs := []) rfl (by decide) trivial) ⟨rfl, h⟩
end Go.Proofs.Ytgnkminakongkaa
