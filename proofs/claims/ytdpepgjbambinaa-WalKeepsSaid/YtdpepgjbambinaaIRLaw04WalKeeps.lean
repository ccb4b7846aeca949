/- Plain forms of functions, and that their code comes to them (package law04_WalKeeps). -/
import Derived.Test.YtdpepgjbambinaaCalls
namespace Go.Proofs.Ytdpepgjbambinaa
open Go Go.Sep
set_option linter.unusedVariables false
set_option linter.unusedSimpArgs false
set_option maxRecDepth 100000
set_option maxHeartbeats 4000000
def law04_WalKeeps.s4 (Q : Bool → K)  (t4_4 : Bool) : K :=
  Q t4_4
def law04_WalKeeps.s3 (Q : Bool → K)  (put9_3 : Int) (all10_3 : Sl) (m15_3 : (Option Addr)) (t109_3 : Bool) : K :=
  Ite t109_3
    (Q false)
    (wal_Log_Records.call m15_3 fun t111 =>
    Ite (decide (put9_3 ≤ (t111.n : Int)))
      (Ite (decide ((t111.n : Int) ≤ (all10_3.n : Int)))
        (Slc all10_3 0 (t111.n : Int) (all10_3.c : Int) 1 fun t128 =>
        ref04_Same.call t111 t128 fun t129 =>
        law04_WalKeeps.s4 Q t129)
        (law04_WalKeeps.s4 Q false))
      (law04_WalKeeps.s4 Q false))
def law04_WalKeeps.s2 (Q : Bool → K)  (size1_2 : Int) (k2_2 : Addr) (d5_2 : (Option Addr)) (put9_2 : Int) (all10_2 : Sl) : K :=
  Ld (k2_2.add 2) Sl.val fun t92 =>
  disk_Disk_Crash.call d5_2 t92 fun t93 =>
  Ite ((t93).isNone)
    (Q false)
    (Ar (bitsOf .and .i64 size1_2 1023) fun t99 =>
    Ar (IntKind.wrap .i64 (16 + t99)) fun t100 =>
    wal_Open.call t93 ⟨#[108, 111, 103]⟩ t100 fun t101x0 t101x1 =>
    Ite ((t101x0).isNone)
      (law04_WalKeeps.s3 Q put9_2 all10_2 t101x0 true)
      (law04_WalKeeps.s3 Q put9_2 all10_2 t101x0 (decide (t101x1 ≠ 0))))
def law04_WalKeeps.s6 (Q : Bool → K) (X5 : Int → Sl → Int → K) (size1_6 : Int) (k2_6 : Addr) (d5_6 : (Option Addr)) (l7_6 : (Option Addr)) (put9_6 : Int) (all10_6 : Sl) (r12_6 : Sl) (t53_6 : Sl) (t54_6 : Int) (t55_6 : Int) : K :=
  Ite (decide ((1000 : Int) < (r12_6.n : Int)))
    (Q true)
    (wal_Log_Append.call l7_6 r12_6 fun t80 =>
    Ite (decide (t80 = 2))
      (law04_WalKeeps.s2 Q size1_6 k2_6 d5_6 put9_6 all10_6)
      (Ite (decide (t80 ≠ 0))
        (Q false)
        (New 22 #[(Sl.val r12_6)] fun t87 =>
        Do Try.prog (Builtin.append_ #[54, 54] 54 #[(Sl.val all10_6), (Sl.val (Sl.mk (some t87) 1 1))]) Sl.val fun t88 =>
        Ar (IntKind.wrap .i64 (t55_6 + 1)) fun t89 =>
        X5 put9_6 t88 t89)))
def law04_WalKeeps.s7 (Q : Bool → K) (X5 : Int → Sl → Int → K) (size1_7 : Int) (k2_7 : Addr) (d5_7 : (Option Addr)) (l7_7 : (Option Addr)) (put9_7 : Int) (all10_7 : Sl) (r12_7 : Sl) (t53_7 : Sl) (t54_7 : Int) (t55_7 : Int) (t68_7 : Bool) : K :=
  Ite t68_7
    (wal_Log_Sync.call l7_7 fun t70 =>
    Ite (decide (t70 ≠ 0))
      (Q false)
      (wal_Log_Records.call l7_7 fun t73 =>
      law04_WalKeeps.s6 Q X5 size1_7 k2_7 d5_7 l7_7 (t73.n : Int) all10_7 r12_7 t53_7 t54_7 t55_7))
    (law04_WalKeeps.s6 Q X5 size1_7 k2_7 d5_7 l7_7 put9_7 all10_7 r12_7 t53_7 t54_7 t55_7)
def law04_WalKeeps.b5 (Q : Bool → K)  (X5 : Int → Sl → Int → K) (size1_5 : Int) (k2_5 : Addr) (d5_5 : (Option Addr)) (l7_5 : (Option Addr)) (t53_5 : Sl) (t54_5 : Int) (put9_5 : Int) (all10_5 : Sl) (t55_5 : Int) : K :=
  Ite (decide (t55_5 < t54_5))
    (Idx t53_5 t55_5 1 fun t57 =>
    Ld t57 Sl.val fun t58 =>
    Ld k2_5 Sl.val fun t62 =>
    Ite (decide ((all10_5.n : Int) = (t62.n : Int)))
      (law04_WalKeeps.s7 Q X5 size1_5 k2_5 d5_5 l7_5 put9_5 all10_5 t58 t53_5 t54_5 t55_5 (decide (put9_5 = 0)))
      (law04_WalKeeps.s7 Q X5 size1_5 k2_5 d5_5 l7_5 put9_5 all10_5 t58 t53_5 t54_5 t55_5 false))
    (law04_WalKeeps.s2 Q size1_5 k2_5 d5_5 put9_5 all10_5)
def law04_WalKeeps.s1 (Q : Bool → K)  (size1_1 : Int) (k2_1 : Addr) (t29_1 : Bool) : K :=
  Ite t29_1
    (Q true)
    (disk_New.call 1048576 fun t31x0 t31x1 =>
    Ite ((t31x0).isNone)
      (Q false)
      (Ar (bitsOf .and .i64 size1_1 1023) fun t39 =>
      Ar (IntKind.wrap .i64 (16 + t39)) fun t40 =>
      wal_Open.call t31x0 ⟨#[108, 111, 103]⟩ t40 fun t41x0 t41x1 =>
      Ite ((t41x0).isNone)
        (Q false)
        (New 22 #[] fun t46 =>
        Dr <| WithS fun S =>
        LdS S k2_1 Sl.val fun t49 =>
        LdS S (k2_1.add 1) Sl.val fun t52 =>
        New 22 #[] fun t47 =>
        Sv S <|
        Do Try.prog (Builtin.append_ #[54, 54] 54 #[(Sl.val (Sl.mk (some t47) 0 0)), (Sl.val t49)]) Sl.val fun t50 =>
        Sv S <|
        Do Try.prog (Builtin.append_ #[54, 54] 54 #[(Sl.val t50), (Sl.val t52)]) Sl.val fun t53 =>
        LoopK (α := Int × Sl × Int) (fun X x => law04_WalKeeps.b5 Q (fun put9_5 all10_5 t55_5 => X (put9_5, all10_5, t55_5)) size1_1 k2_1 t31x0 t41x0 t53 (t53.n : Int) x.1 x.2.1 x.2.2) (0, (Sl.mk (some t46) 0 0), 0))))
def law04_WalKeeps (k0 : (Array Value)) (size1 : Int) (Q : Bool → K) : K :=
  New 56 k0 fun k2 =>
  law04_speaks.call  fun t18 =>
  Ite (!t18)
    (Q false)
    (Ld k2 Sl.val fun t21 =>
    Ite (decide ((40 : Int) < (t21.n : Int)))
      (law04_WalKeeps.s1 Q size1 k2 true)
      (Ld (k2.add 1) Sl.val fun t26 =>
      law04_WalKeeps.s1 Q size1 k2 (decide ((40 : Int) < (t26.n : Int)))))
theorem law04_WalKeeps_ok (k0 : (Array Value)) (size1 : Int) (Q : Bool → K) (w : World) (h : law04_WalKeeps k0 size1 Q w) : law04_WalKeeps.call k0 size1 Q w := by
  unfold law04_WalKeeps.call CallF
  refine f_start (args := [(.agg k0), (.int .i64 size1)]) Try.func5 rfl (Nat.le_of_ble_eq_true rfl) ?_
  intro a hs
  unfold law04_WalKeeps at h
  refine wp_seq_k fun K1 hK1 => ?_
  refine wp_region_lit ?_
  obtain ⟨k2, w1, ha, hw, h⟩ := h
  refine t_eff hs rfl rfl (by decide) (e_box rfl rfl rfl ha hw) ?_
  clear hs a ha hw; intro a hs
  refine t_pure hs rfl rfl (by decide) (p_assign rfl rfl) ?_
  clear hs a; intro a hs
  refine hK1 _ _ ?_
  refine wp_seq_k fun K2 hK2 => ?_
  refine wp_seq_k fun K3 hK3 => ?_
  refine wp_region_lit ?_
  refine t_call hs rfl rfl (by decide) (e_call rfl rfl rfl cb_26) h ?_
  clear hs a h
  intro v a w hk hs
  obtain ⟨t18, rfl, h⟩ := hk
  refine t_pure hs rfl rfl (by decide) (p_not rfl rfl) ?_
  clear hs a; intro a hs
  refine hK3 _ _ ?_
  refine c_cond hs rfl (fun hb => ?_) (fun hb => ?_)
  · replace h := h.1 hb
    clear hb
    refine wp_seq_k fun K4 hK4 => ?_
    refine wp_region_lit ?_
    refine t_pure hs rfl rfl (by decide) (p_assign rfl rfl) ?_
    clear hs a; intro a hs
    refine hK4 _ _ ?_
    refine wp_ret ?_
    refine f_ret (fn := Try.f5) hs (fun a hs => r_one hs rfl (rfl)) ⟨false, rfl, h⟩
  · replace h := h.2 hb
    clear hb
    refine wp_skip ?_
    refine hK2 _ _ ?_
    refine wp_seq_k fun K5 hK5 => ?_
    refine wp_seq_k fun K6 hK6 => ?_
    have J1 : ∀ (t29_1 : Bool) (a : Act) (w : World), Slots a 131 [(1, (.int .i64 size1)), (2, (.pointer (some k2))), (29, (.bool t29_1))] → law04_WalKeeps.s1 Q size1 k2 t29_1 w → K6 a w := by
      clear h hs
      intro t29_1 a w hs h
      refine hK6 _ _ ?_
      unfold law04_WalKeeps.s1 at h
      refine c_cond hs rfl (fun hb => ?_) (fun hb => ?_)
      · replace h := h.1 hb
        clear hb
        refine wp_seq_k fun K7 hK7 => ?_
        refine wp_region_lit ?_
        refine t_pure hs rfl rfl (by decide) (p_assign rfl rfl) ?_
        clear hs a; intro a hs
        refine hK7 _ _ ?_
        refine wp_ret ?_
        refine f_ret (fn := Try.f5) hs (fun a hs => r_one hs rfl (rfl)) ⟨true, rfl, h⟩
      · replace h := h.2 hb
        clear hb
        refine wp_skip ?_
        refine hK5 _ _ ?_
        refine wp_seq_k fun K8 hK8 => ?_
        refine wp_region_lit ?_
        refine t_call hs rfl rfl (by decide) (e_call rfl rfl rfl cb_27) h ?_
        clear hs a h
        intro v a w hk hs
        obtain ⟨t31x0, t31x1, rfl, h⟩ := hk
        refine t_pure hs rfl rfl (by decide) (p_move rfl rfl) ?_
        clear hs a; intro a hs
        refine t_pure hs rfl rfl (by decide) (p_extract rfl rfl rfl) ?_
        clear hs a; intro a hs
        refine t_pure hs rfl rfl (by decide) (p_extract rfl rfl rfl) ?_
        clear hs a; intro a hs
        refine t_pure hs rfl rfl (by decide) (p_assign rfl rfl) ?_
        clear hs a; intro a hs
        refine t_pure hs rfl rfl (by decide) (p_assign rfl rfl) ?_
        clear hs a; intro a hs
        refine hK8 _ _ ?_
        refine wp_seq_k fun K9 hK9 => ?_
        refine wp_seq_k fun K10 hK10 => ?_
        refine wp_region_lit ?_
        refine t_pure hs rfl rfl (by decide) (p_move rfl rfl) ?_
        clear hs a; intro a hs
        refine t_pure hs rfl rfl (by decide) (p_eq_nil rfl rfl rfl Try.underlying57) ?_
        clear hs a; intro a hs
        refine hK10 _ _ ?_
        refine c_cond hs rfl (fun hb => ?_) (fun hb => ?_)
        · replace h := h.1 hb
          clear hb
          refine wp_seq_k fun K11 hK11 => ?_
          refine wp_region_lit ?_
          refine t_pure hs rfl rfl (by decide) (p_assign rfl rfl) ?_
          clear hs a; intro a hs
          refine hK11 _ _ ?_
          refine wp_ret ?_
          refine f_ret (fn := Try.f5) hs (fun a hs => r_one hs rfl (rfl)) ⟨false, rfl, h⟩
        · replace h := h.2 hb
          clear hb
          refine wp_skip ?_
          refine hK9 _ _ ?_
          refine wp_seq_k fun K12 hK12 => ?_
          refine wp_region_lit ?_
          refine t_pure hs rfl rfl (by decide) (p_move rfl rfl) ?_
          clear hs a; intro a hs
          refine t_pure hs rfl rfl (by decide) (p_move rfl rfl) ?_
          clear hs a; intro a hs
          obtain ⟨t39, he, h⟩ := h
          refine t_pure hs rfl rfl (by decide) (Pure.int he (p_and rfl rfl rfl)) ?_
          clear hs a he; intro a hs
          obtain ⟨t40, he, h⟩ := h
          refine t_pure hs rfl rfl (by decide) (Pure.int he (p_add rfl rfl rfl)) ?_
          clear hs a he; intro a hs
          refine t_call hs rfl rfl (by decide) (e_call rfl rfl rfl cb_28) h ?_
          clear hs a h
          intro v a w hk hs
          obtain ⟨t41x0, t41x1, rfl, h⟩ := hk
          refine t_pure hs rfl rfl (by decide) (p_move rfl rfl) ?_
          clear hs a; intro a hs
          refine t_pure hs rfl rfl (by decide) (p_extract rfl rfl rfl) ?_
          clear hs a; intro a hs
          refine t_pure hs rfl rfl (by decide) (p_extract rfl rfl rfl) ?_
          clear hs a; intro a hs
          replace hs := hs.to (τ := [(1, (.int .i64 size1)), (2, (.pointer (some k2))), (5, (.pointer t31x0)), (42, (.pointer t41x0)), (43, (.int .i64 t41x1))]) ⟨rfl, rfl, rfl, rfl, rfl, trivial⟩
          refine t_pure hs rfl rfl (by decide) (p_assign rfl rfl) ?_
          clear hs a; intro a hs
          refine t_pure hs rfl rfl (by decide) (p_assign rfl rfl) ?_
          clear hs a; intro a hs
          refine hK12 _ _ ?_
          refine wp_seq_k fun K13 hK13 => ?_
          refine wp_seq_k fun K14 hK14 => ?_
          refine wp_region_lit ?_
          refine t_pure hs rfl rfl (by decide) (p_move rfl rfl) ?_
          clear hs a; intro a hs
          refine t_pure hs rfl rfl (by decide) (p_eq_nil rfl rfl rfl Try.underlying60) ?_
          clear hs a; intro a hs
          refine hK14 _ _ ?_
          refine c_cond hs rfl (fun hb => ?_) (fun hb => ?_)
          · replace h := h.1 hb
            clear hb
            refine wp_seq_k fun K15 hK15 => ?_
            refine wp_region_lit ?_
            refine t_pure hs rfl rfl (by decide) (p_assign rfl rfl) ?_
            clear hs a; intro a hs
            refine hK15 _ _ ?_
            refine wp_ret ?_
            refine f_ret (fn := Try.f5) hs (fun a hs => r_one hs rfl (rfl)) ⟨false, rfl, h⟩
          · replace h := h.2 hb
            clear hb
            refine wp_skip ?_
            refine hK13 _ _ ?_
            refine wp_seq_k fun K16 hK16 => ?_
            refine wp_region_lit ?_
            obtain ⟨t46, w1, ha, hw, h⟩ := h
            refine t_eff hs rfl rfl (by decide) (e_buildSlice (z := #[]) (cs := #[]) rfl sl_54 zt_22 (by decide) rfl rz_22_0 (by rfl) ha hw) ?_
            clear hs a ha hw; intro a hs
            refine t_pure hs rfl rfl (by decide) (p_assign rfl rfl) ?_
            clear hs a; intro a hs
            refine t_pure hs rfl rfl (by decide) (p_assign rfl rfl) ?_
            clear hs a; intro a hs
            refine hK16 _ _ ?_
            refine wp_seq_k fun K17 hK17 => ?_
            have J2 : ∀ (put9_2 : Int) (all10_2 : Sl) (a : Act) (w : World), Slots a 131 [(1, (.int .i64 size1)), (2, (.pointer (some k2))), (5, (.pointer t31x0)), (9, (.int .i64 put9_2)), (10, (Sl.val all10_2))] → law04_WalKeeps.s2 Q size1 k2 t31x0 put9_2 all10_2 w → K17 a w := by
              clear h hs
              intro put9_2 all10_2 a w hs h
              refine hK17 _ _ ?_
              unfold law04_WalKeeps.s2 at h
              refine wp_seq_k fun K18 hK18 => ?_
              refine wp_region_lit ?_
              refine t_pure hs rfl rfl (by decide) (p_move rfl rfl) ?_
              clear hs a; intro a hs
              refine t_pure hs rfl rfl (by decide) (p_fieldAddr rfl rfl ft_56_2) ?_
              clear hs a; intro a hs
              obtain ⟨t92, hv, h⟩ := h
              refine t_eff hs rfl rfl (by decide) (e_load rfl rfl ct_29 hv) ?_
              clear hs a hv; intro a hs
              refine t_call hs rfl rfl (by decide) (e_call rfl rfl rfl cb_32) h ?_
              clear hs a h
              intro v a w hk hs
              obtain ⟨t93, rfl, h⟩ := hk
              refine t_pure hs rfl rfl (by decide) (p_assign rfl rfl) ?_
              clear hs a; intro a hs
              refine hK18 _ _ ?_
              refine wp_seq_k fun K19 hK19 => ?_
              refine wp_seq_k fun K20 hK20 => ?_
              refine wp_region_lit ?_
              refine t_pure hs rfl rfl (by decide) (p_move rfl rfl) ?_
              clear hs a; intro a hs
              refine t_pure hs rfl rfl (by decide) (p_eq_nil rfl rfl rfl Try.underlying57) ?_
              clear hs a; intro a hs
              refine hK20 _ _ ?_
              refine c_cond hs rfl (fun hb => ?_) (fun hb => ?_)
              · replace h := h.1 hb
                clear hb
                refine wp_seq_k fun K21 hK21 => ?_
                refine wp_region_lit ?_
                refine t_pure hs rfl rfl (by decide) (p_assign rfl rfl) ?_
                clear hs a; intro a hs
                refine hK21 _ _ ?_
                refine wp_ret ?_
                refine f_ret (fn := Try.f5) hs (fun a hs => r_one hs rfl (rfl)) ⟨false, rfl, h⟩
              · replace h := h.2 hb
                clear hb
                refine wp_skip ?_
                refine hK19 _ _ ?_
                refine wp_seq_k fun K22 hK22 => ?_
                refine wp_region_lit ?_
                refine t_pure hs rfl rfl (by decide) (p_move rfl rfl) ?_
                clear hs a; intro a hs
                refine t_pure hs rfl rfl (by decide) (p_move rfl rfl) ?_
                clear hs a; intro a hs
                obtain ⟨t99, he, h⟩ := h
                refine t_pure hs rfl rfl (by decide) (Pure.int he (p_and rfl rfl rfl)) ?_
                clear hs a he; intro a hs
                obtain ⟨t100, he, h⟩ := h
                refine t_pure hs rfl rfl (by decide) (Pure.int he (p_add rfl rfl rfl)) ?_
                clear hs a he; intro a hs
                refine t_call hs rfl rfl (by decide) (e_call rfl rfl rfl cb_28) h ?_
                clear hs a h
                intro v a w hk hs
                obtain ⟨t101x0, t101x1, rfl, h⟩ := hk
                refine t_pure hs rfl rfl (by decide) (p_move rfl rfl) ?_
                clear hs a; intro a hs
                refine t_pure hs rfl rfl (by decide) (p_extract rfl rfl rfl) ?_
                clear hs a; intro a hs
                refine t_pure hs rfl rfl (by decide) (p_extract rfl rfl rfl) ?_
                clear hs a; intro a hs
                replace hs := hs.to (τ := [(9, (.int .i64 put9_2)), (10, (Sl.val all10_2)), (102, (.pointer t101x0)), (103, (.int .i64 t101x1))]) ⟨rfl, rfl, rfl, rfl, trivial⟩
                refine t_pure hs rfl rfl (by decide) (p_assign rfl rfl) ?_
                clear hs a; intro a hs
                refine t_pure hs rfl rfl (by decide) (p_assign rfl rfl) ?_
                clear hs a; intro a hs
                refine hK22 _ _ ?_
                refine wp_seq_k fun K23 hK23 => ?_
                refine wp_seq_k fun K24 hK24 => ?_
                have J3 : ∀ (t109_3 : Bool) (a : Act) (w : World), Slots a 131 [(9, (.int .i64 put9_2)), (10, (Sl.val all10_2)), (15, (.pointer t101x0)), (109, (.bool t109_3))] → law04_WalKeeps.s3 Q put9_2 all10_2 t101x0 t109_3 w → K24 a w := by
                  clear h hs
                  intro t109_3 a w hs h
                  refine hK24 _ _ ?_
                  unfold law04_WalKeeps.s3 at h
                  refine c_cond hs rfl (fun hb => ?_) (fun hb => ?_)
                  · replace h := h.1 hb
                    clear hb
                    refine wp_seq_k fun K25 hK25 => ?_
                    refine wp_region_lit ?_
                    refine t_pure hs rfl rfl (by decide) (p_assign rfl rfl) ?_
                    clear hs a; intro a hs
                    refine hK25 _ _ ?_
                    refine wp_ret ?_
                    refine f_ret (fn := Try.f5) hs (fun a hs => r_one hs rfl (rfl)) ⟨false, rfl, h⟩
                  · replace h := h.2 hb
                    clear hb
                    refine wp_skip ?_
                    refine hK23 _ _ ?_
                    refine wp_seq_k fun K26 hK26 => ?_
                    refine wp_region_lit ?_
                    refine t_pure hs rfl rfl (by decide) (p_move rfl rfl) ?_
                    clear hs a; intro a hs
                    refine t_call hs rfl rfl (by decide) (e_call rfl rfl rfl cb_30) h ?_
                    clear hs a h
                    intro v a w hk hs
                    obtain ⟨t111, rfl, h⟩ := hk
                    refine t_pure hs rfl rfl (by decide) (p_assign rfl rfl) ?_
                    clear hs a; intro a hs
                    refine hK26 _ _ ?_
                    refine wp_seq_k fun K27 hK27 => ?_
                    have J4 : ∀ (t4_4 : Bool) (a : Act) (w : World), Slots a 131 [(4, (.bool t4_4))] → law04_WalKeeps.s4 Q t4_4 w → K27 a w := by
                      clear h hs
                      intro t4_4 a w hs h
                      refine hK27 _ _ ?_
                      unfold law04_WalKeeps.s4 at h
                      refine wp_ret ?_
                      refine f_ret (fn := Try.f5) hs (fun a hs => r_one hs rfl (rfl)) ⟨t4_4, rfl, h⟩
                    clear hK27
                    refine wp_region_lit ?_
                    refine t_pure hs rfl rfl (by decide) (p_move rfl rfl) ?_
                    clear hs a; intro a hs
                    refine t_pure hs rfl rfl (by decide) (p_len rfl rfl sl_54) ?_
                    clear hs a; intro a hs
                    refine t_pure hs rfl rfl (by decide) (p_move rfl rfl) ?_
                    clear hs a; intro a hs
                    refine t_pure hs rfl rfl (by decide) (p_ge rfl rfl rfl) ?_
                    clear hs a; intro a hs
                    refine t_pure hs rfl rfl (by decide) (p_move rfl rfl) ?_
                    clear hs a; intro a hs
                    refine split_bool (decide (put9_2 ≤ (t111.n : Int))) (fun hb => ?_) (fun hb => ?_)
                    · replace h := h.1 hb
                      rw [hb] at hs
                      clear hb
                      refine t_yes hs rfl ?_
                      refine t_pure hs rfl rfl (by decide) (p_move rfl rfl) ?_
                      clear hs a; intro a hs
                      refine t_yes hs rfl ?_
                      refine t_pure hs rfl rfl (by decide) (p_len rfl rfl sl_54) ?_
                      clear hs a; intro a hs
                      refine t_yes hs rfl ?_
                      refine t_pure hs rfl rfl (by decide) (p_move rfl rfl) ?_
                      clear hs a; intro a hs
                      replace hs := hs.to (τ := [(10, (Sl.val all10_2)), (17, (Sl.val t111)), (116, (.bool true)), (118, (.int .i64 (t111.n : Int))), (119, (Sl.val all10_2))]) ⟨rfl, rfl, rfl, rfl, rfl, trivial⟩
                      refine t_yes hs rfl ?_
                      refine t_pure hs rfl rfl (by decide) (p_len rfl rfl sl_54) ?_
                      clear hs a; intro a hs
                      refine t_yes hs rfl ?_
                      refine t_pure hs rfl rfl (by decide) (p_le rfl rfl rfl) ?_
                      clear hs a; intro a hs
                      refine t_pure hs rfl rfl (by decide) (p_pick_t rfl rfl rfl) ?_
                      clear hs a; intro a hs
                      refine t_pure hs rfl rfl (by decide) (p_move rfl rfl) ?_
                      clear hs a; intro a hs
                      refine split_bool (decide ((t111.n : Int) ≤ (all10_2.n : Int))) (fun hb => ?_) (fun hb => ?_)
                      · replace h := h.1 hb
                        rw [hb] at hs
                        clear hb
                        refine t_yes hs rfl ?_
                        refine t_pure hs rfl rfl (by decide) (p_move rfl rfl) ?_
                        clear hs a; intro a hs
                        refine t_yes hs rfl ?_
                        refine t_pure hs rfl rfl (by decide) (p_move rfl rfl) ?_
                        clear hs a; intro a hs
                        refine t_yes hs rfl ?_
                        refine t_pure hs rfl rfl (by decide) (p_move rfl rfl) ?_
                        clear hs a; intro a hs
                        refine t_yes hs rfl ?_
                        refine t_pure hs rfl rfl (by decide) (p_len rfl rfl sl_54) ?_
                        clear hs a; intro a hs
                        replace hs := hs.to (τ := [(123, (.bool true)), (124, (Sl.val t111)), (125, (Sl.val all10_2)), (127, (.int .i64 (t111.n : Int)))]) ⟨rfl, rfl, rfl, rfl, trivial⟩
                        refine t_yes hs rfl ?_
                        obtain ⟨t128, h0, h1, h2, h3, he, h⟩ := h
                        refine t_pure hs rfl rfl (by decide) (Pure.sl he (p_slc rfl rfl sl_54 rfl ⟨_, rfl⟩ rfl (by decide) h0 h1 h2 h3)) ?_
                        clear hs a h0 h1 h2 h3 he; intro a hs
                        refine t_yes hs rfl ?_
                        refine t_call hs rfl rfl (by decide) (e_call rfl rfl rfl cb_33) h ?_
                        clear hs a h
                        intro v a w hk hs
                        obtain ⟨t129, rfl, h⟩ := hk
                        refine t_pure hs rfl rfl (by decide) (p_pick_t rfl rfl rfl) ?_
                        clear hs a; intro a hs
                        refine t_pure hs rfl rfl (by decide) (p_assign rfl rfl) ?_
                        clear hs a; intro a hs
                        exact J4 t129 _ _ (hs.to ⟨rfl, trivial⟩) h
                      · replace h := h.2 hb
                        rw [hb] at hs
                        clear hb
                        refine t_no hs rfl rfl (by decide) ?_
                        clear hs a; intro a hs
                        refine t_no hs rfl rfl (by decide) ?_
                        clear hs a; intro a hs
                        refine t_no hs rfl rfl (by decide) ?_
                        clear hs a; intro a hs
                        refine t_no hs rfl rfl (by decide) ?_
                        clear hs a; intro a hs
                        replace hs := hs.to (τ := [(123, (.bool false)), (124, undef), (125, undef), (127, undef)]) ⟨rfl, rfl, rfl, rfl, trivial⟩
                        refine t_no hs rfl rfl (by decide) ?_
                        clear hs a; intro a hs
                        refine t_no hs rfl rfl (by decide) ?_
                        clear hs a; intro a hs
                        refine t_pure hs rfl rfl (by decide) (p_pick_f rfl rfl rfl) ?_
                        clear hs a; intro a hs
                        refine t_pure hs rfl rfl (by decide) (p_assign rfl rfl) ?_
                        clear hs a; intro a hs
                        exact J4 false _ _ (hs.to ⟨rfl, trivial⟩) h
                    · replace h := h.2 hb
                      rw [hb] at hs
                      clear hb
                      refine t_no hs rfl rfl (by decide) ?_
                      clear hs a; intro a hs
                      refine t_no hs rfl rfl (by decide) ?_
                      clear hs a; intro a hs
                      refine t_no hs rfl rfl (by decide) ?_
                      clear hs a; intro a hs
                      replace hs := hs.to (τ := [(10, (Sl.val all10_2)), (17, (Sl.val t111)), (116, (.bool false)), (118, undef), (119, undef)]) ⟨rfl, rfl, rfl, rfl, rfl, trivial⟩
                      refine t_no hs rfl rfl (by decide) ?_
                      clear hs a; intro a hs
                      refine t_no hs rfl rfl (by decide) ?_
                      clear hs a; intro a hs
                      refine t_pure hs rfl rfl (by decide) (p_pick_f rfl rfl rfl) ?_
                      clear hs a; intro a hs
                      refine t_pure hs rfl rfl (by decide) (p_move rfl rfl) ?_
                      clear hs a; intro a hs
                      refine t_no hs rfl rfl (by decide) ?_
                      clear hs a; intro a hs
                      refine t_no hs rfl rfl (by decide) ?_
                      clear hs a; intro a hs
                      refine t_no hs rfl rfl (by decide) ?_
                      clear hs a; intro a hs
                      refine t_no hs rfl rfl (by decide) ?_
                      clear hs a; intro a hs
                      replace hs := hs.to (τ := [(123, (.bool false)), (124, undef), (125, undef), (127, undef)]) ⟨rfl, rfl, rfl, rfl, trivial⟩
                      refine t_no hs rfl rfl (by decide) ?_
                      clear hs a; intro a hs
                      refine t_no hs rfl rfl (by decide) ?_
                      clear hs a; intro a hs
                      refine t_pure hs rfl rfl (by decide) (p_pick_f rfl rfl rfl) ?_
                      clear hs a; intro a hs
                      refine t_pure hs rfl rfl (by decide) (p_assign rfl rfl) ?_
                      clear hs a; intro a hs
                      exact J4 false _ _ (hs.to ⟨rfl, trivial⟩) h
                clear hK24
                refine wp_region_lit ?_
                refine t_pure hs rfl rfl (by decide) (p_move rfl rfl) ?_
                clear hs a; intro a hs
                refine t_pure hs rfl rfl (by decide) (p_eq_nil rfl rfl rfl Try.underlying60) ?_
                clear hs a; intro a hs
                refine t_pure hs rfl rfl (by decide) (p_move rfl rfl) ?_
                clear hs a; intro a hs
                refine split_bool ((t101x0).isNone) (fun hb => ?_) (fun hb => ?_)
                · replace h := h.1 hb
                  rw [hb] at hs
                  clear hb
                  refine t_no hs rfl rfl (by decide) ?_
                  clear hs a; intro a hs
                  refine t_no hs rfl rfl (by decide) ?_
                  clear hs a; intro a hs
                  refine t_pure hs rfl rfl (by decide) (p_pick_t rfl rfl rfl) ?_
                  clear hs a; intro a hs
                  exact J3 true _ _ (hs.to ⟨rfl, rfl, rfl, rfl, trivial⟩) h
                · replace h := h.2 hb
                  rw [hb] at hs
                  clear hb
                  refine t_yes hs rfl ?_
                  refine t_pure hs rfl rfl (by decide) (p_move rfl rfl) ?_
                  clear hs a; intro a hs
                  refine t_yes hs rfl ?_
                  refine t_pure hs rfl rfl (by decide) (p_ne rfl rfl rfl) ?_
                  clear hs a; intro a hs
                  refine t_pure hs rfl rfl (by decide) (p_pick_f rfl rfl rfl) ?_
                  clear hs a; intro a hs
                  exact J3 (decide (t101x1 ≠ 0)) _ _ (hs.to ⟨rfl, rfl, rfl, rfl, trivial⟩) h
            clear hK17
            refine wp_seq_k fun K28 hK28 => ?_
            obtain ⟨w1, hw1, h⟩ := h
            obtain ⟨S, hS, h⟩ := h
            subst hw1
            refine d_start (S := S) (ds := [6]) #[false, false, false, false, false, false, false, false, false] mixed rfl rfl ?_
            refine d_pure hs #[false, true, false, false, false, false, false, false, false] (i := 1) rfl rfl rfl (by decide) (by kernel_rfl) (tight_body (P := Try.prog) (fn := Try.f5)) (p_fieldAddr0 rfl rfl ft_56_0) ?_
            clear hs a; intro a hs
            refine d_pure hs #[false, true, false, false, true, false, false, false, false] (i := 4) rfl rfl rfl (by decide) (by kernel_rfl) (tight_body (P := Try.prog) (fn := Try.f5)) (p_fieldAddr rfl rfl ft_56_1) ?_
            clear hs a; intro a hs
            refine d_pure hs #[false, true, false, false, true, false, false, false, true] (i := 8) rfl rfl rfl (by decide) (by kernel_rfl) (tight_body (P := Try.prog) (fn := Try.f5)) (p_move rfl rfl) ?_
            clear hs a; intro a hs
            obtain ⟨t49, hv, h⟩ := h
            refine d_read hs #[false, true, true, false, true, false, false, false, true] (i := 2) rfl rfl rfl (by decide) (by kernel_rfl) (by kernel_rfl) (tight_body (P := Try.prog) (fn := Try.f5)) hS (fun w h' => e_load rfl rfl ct_54 (hv w h')) ?_
            clear hs a hv; intro a hs
            obtain ⟨t52, hv, h⟩ := h
            refine d_read hs #[false, true, true, false, true, true, false, false, true] (i := 5) rfl rfl rfl (by decide) (by kernel_rfl) (by kernel_rfl) (tight_body (P := Try.prog) (fn := Try.f5)) hS (fun w h' => e_load rfl rfl ct_54 (hv w h')) ?_
            clear hs a hv; intro a hs
            refine d_all [0] (by kernel_rfl) (by decide) ?_
            refine AllS.cons ?_ AllS.nil
            obtain ⟨t47, w1, ha, hw, h⟩ := h
            obtain ⟨hS, h⟩ := h
            refine d_eff hs #[true, true, true, false, true, true, false, false, true] (i := 0) rfl rfl rfl (by decide) rfl (e_buildSlice (z := #[]) (cs := #[]) rfl sl_54 zt_22 (by decide) rfl rz_22_0 (by rfl) ha hw) (fun _ _ => hS) ?_
            clear hs a ha hw; intro a hs
            refine d_all [3] (by kernel_rfl) (by decide) ?_
            refine AllS.cons ?_ AllS.nil
            obtain ⟨t50, w1, hd, h⟩ := h
            obtain ⟨hS, h⟩ := h
            refine d_eff hs #[true, true, true, true, true, true, false, false, true] (i := 3) rfl rfl rfl (by decide) rfl (e_append rfl rfl rfl rfl hd) (fun _ _ => hS) ?_
            clear hs a hd; intro a hs
            refine d_all [6] (by kernel_rfl) (by decide) ?_
            refine AllS.cons ?_ AllS.nil
            obtain ⟨t53, w1, hd, h⟩ := h
            refine d_eff hs #[true, true, true, true, true, true, true, false, true] (i := 6) rfl rfl rfl (by decide) rfl (e_append rfl rfl rfl rfl hd) (fun hn => (hn (by decide)).elim) ?_
            clear hs a hd; intro a hs
            replace hs := hs.to (τ := [(1, (.int .i64 size1)), (2, (.pointer (some k2))), (5, (.pointer t31x0)), (7, (.pointer t41x0)), (9, (.int .i64 0)), (10, (Sl.val (Sl.mk (some t46) 0 0))), (53, (Sl.val t53)), (55, (.int .i64 0))]) ⟨rfl, rfl, rfl, rfl, rfl, rfl, rfl, rfl, trivial⟩
            refine d_pure hs #[true, true, true, true, true, true, true, true, true] (i := 7) rfl rfl rfl (by decide) (by kernel_rfl) (tight_body (P := Try.prog) (fn := Try.f5)) (p_len rfl rfl sl_54) ?_
            clear hs a; intro a hs
            refine d_done (by kernel_rfl) ?_ _
            clear hS
            refine hK28 _ _ ?_
            refine wp_block ?_
            obtain ⟨I5, μ5, h0, hr⟩ := h
            refine c_loop (α := Int × Sl × Int) I5 μ5 (fun x a => Slots a 131 [(1, (.int .i64 size1)), (2, (.pointer (some k2))), (5, (.pointer t31x0)), (7, (.pointer t41x0)), (9, (.int .i64 x.1)), (10, (Sl.val x.2.1)), (53, (Sl.val t53)), (54, (.int .i64 (t53.n : Int))), (55, (.int .i64 x.2.2))]) (0, (Sl.mk (some t46) 0 0), 0) h0 (hs.to ⟨rfl, rfl, rfl, rfl, rfl, rfl, rfl, rfl, rfl, trivial⟩) ?_
            clear h0 hs a
            rintro ⟨put9_5, all10_5, t55_5⟩ a w hI hs
            have h : law04_WalKeeps.b5 Q (fun put9_5n all10_5n t55_5n w' => I5 (put9_5n, all10_5n, t55_5n) w' ∧ μ5 (put9_5n, all10_5n, t55_5n) w' < μ5 (put9_5, all10_5, t55_5) w) size1 k2 t31x0 t41x0 t53 (t53.n : Int) put9_5 all10_5 t55_5 w := hr (put9_5, all10_5, t55_5) w hI
            clear hr hI
            generalize hX5 : (fun put9_5n all10_5n t55_5n w' => I5 (put9_5n, all10_5n, t55_5n) w' ∧ μ5 (put9_5n, all10_5n, t55_5n) w' < μ5 (put9_5, all10_5, t55_5) w) = X5 at h
            unfold law04_WalKeeps.b5 at h
            replace hs : Slots a 131 [(1, (.int .i64 size1)), (2, (.pointer (some k2))), (5, (.pointer t31x0)), (7, (.pointer t41x0)), (9, (.int .i64 put9_5)), (10, (Sl.val all10_5)), (53, (Sl.val t53)), (54, (.int .i64 (t53.n : Int))), (55, (.int .i64 t55_5))] := hs
            refine wp_seq_k fun K29 hK29 => ?_
            refine wp_region_lit ?_
            refine t_pure hs rfl rfl (by decide) (p_lt rfl rfl rfl) ?_
            clear hs a; intro a hs
            refine hK29 _ _ ?_
            refine wp_seq_k fun K30 hK30 => ?_
            refine c_cond hs rfl (fun hb => ?_) (fun hb => ?_)
            · replace h := h.1 hb
              clear hb
              refine wp_skip ?_
              refine hK30 _ _ ?_
              refine wp_seq_k fun K31 hK31 => ?_
              refine wp_block ?_
              refine wp_seq_k fun K32 hK32 => ?_
              refine wp_region_lit ?_
              obtain ⟨qt57, t57, ha, h0, h1, he, h⟩ := h
              refine t_pure hs rfl rfl (by decide) (Pure.adr he (p_idx rfl rfl rfl sl_54 ha h0 h1)) ?_
              clear hs a ha h0 h1 he; intro a hs
              obtain ⟨t58, hv, h⟩ := h
              refine t_eff hs rfl rfl (by decide) (e_load rfl rfl ct_22 hv) ?_
              clear hs a hv; intro a hs
              refine t_pure hs rfl rfl (by decide) (p_assign rfl rfl) ?_
              clear hs a; intro a hs
              refine hK32 _ _ ?_
              refine wp_seq_k fun K33 hK33 => ?_
              have J6 : ∀ (put9_6 : Int) (a : Act) (w : World), Slots a 131 [(1, (.int .i64 size1)), (2, (.pointer (some k2))), (5, (.pointer t31x0)), (7, (.pointer t41x0)), (9, (.int .i64 put9_6)), (10, (Sl.val all10_5)), (12, (Sl.val t58)), (53, (Sl.val t53)), (54, (.int .i64 (t53.n : Int))), (55, (.int .i64 t55_5))] → law04_WalKeeps.s6 Q X5 size1 k2 t31x0 t41x0 put9_6 all10_5 t58 t53 (t53.n : Int) t55_5 w → K33 a w := by
                clear h hs
                intro put9_6 a w hs h
                refine hK33 _ _ ?_
                unfold law04_WalKeeps.s6 at h
                refine wp_seq_k fun K34 hK34 => ?_
                refine wp_seq_k fun K35 hK35 => ?_
                refine wp_region_lit ?_
                refine t_pure hs rfl rfl (by decide) (p_move rfl rfl) ?_
                clear hs a; intro a hs
                refine t_pure hs rfl rfl (by decide) (p_len rfl rfl sl_22) ?_
                clear hs a; intro a hs
                refine t_pure hs rfl rfl (by decide) (p_gt rfl rfl rfl) ?_
                clear hs a; intro a hs
                refine hK35 _ _ ?_
                refine c_cond hs rfl (fun hb => ?_) (fun hb => ?_)
                · replace h := h.1 hb
                  clear hb
                  refine wp_seq_k fun K36 hK36 => ?_
                  refine wp_region_lit ?_
                  refine t_pure hs rfl rfl (by decide) (p_assign rfl rfl) ?_
                  clear hs a; intro a hs
                  refine hK36 _ _ ?_
                  refine wp_ret ?_
                  refine f_ret (fn := Try.f5) hs (fun a hs => r_one hs rfl (rfl)) ⟨true, rfl, h⟩
                · replace h := h.2 hb
                  clear hb
                  refine wp_skip ?_
                  refine hK34 _ _ ?_
                  refine wp_seq_k fun K37 hK37 => ?_
                  refine wp_seq_k fun K38 hK38 => ?_
                  refine wp_region_lit ?_
                  refine t_pure hs rfl rfl (by decide) (p_move rfl rfl) ?_
                  clear hs a; intro a hs
                  refine t_pure hs rfl rfl (by decide) (p_move rfl rfl) ?_
                  clear hs a; intro a hs
                  refine t_call hs rfl rfl (by decide) (e_call rfl rfl rfl cb_31) h ?_
                  clear hs a h
                  intro v a w hk hs
                  obtain ⟨t80, rfl, h⟩ := hk
                  refine t_pure hs rfl rfl (by decide) (p_assign rfl rfl) ?_
                  clear hs a; intro a hs
                  refine hK38 _ _ ?_
                  refine wp_seq_k fun K39 hK39 => ?_
                  refine wp_region_lit ?_
                  refine t_pure hs rfl rfl (by decide) (p_move rfl rfl) ?_
                  clear hs a; intro a hs
                  refine t_pure hs rfl rfl (by decide) (p_eq rfl rfl rfl) ?_
                  clear hs a; intro a hs
                  refine hK39 _ _ ?_
                  refine c_cond hs rfl (fun hb => ?_) (fun hb => ?_)
                  · replace h := h.1 hb
                    clear hb
                    refine wp_exit ?_
                    exact J2 put9_6 all10_5 _ _ (hs.to ⟨rfl, rfl, rfl, rfl, rfl, trivial⟩) h
                  · replace h := h.2 hb
                    clear hb
                    refine wp_seq_k fun K40 hK40 => ?_
                    refine wp_region_lit ?_
                    refine t_pure hs rfl rfl (by decide) (p_move rfl rfl) ?_
                    clear hs a; intro a hs
                    refine t_pure hs rfl rfl (by decide) (p_ne rfl rfl rfl) ?_
                    clear hs a; intro a hs
                    refine hK40 _ _ ?_
                    refine c_cond hs rfl (fun hb => ?_) (fun hb => ?_)
                    · replace h := h.1 hb
                      clear hb
                      refine wp_seq_k fun K41 hK41 => ?_
                      refine wp_region_lit ?_
                      refine t_pure hs rfl rfl (by decide) (p_assign rfl rfl) ?_
                      clear hs a; intro a hs
                      refine hK41 _ _ ?_
                      refine wp_ret ?_
                      refine f_ret (fn := Try.f5) hs (fun a hs => r_one hs rfl (rfl)) ⟨false, rfl, h⟩
                    · replace h := h.2 hb
                      clear hb
                      refine wp_skip ?_
                      refine hK37 _ _ ?_
                      refine wp_region_lit ?_
                      refine t_pure hs rfl rfl (by decide) (p_move rfl rfl) ?_
                      clear hs a; intro a hs
                      refine t_pure hs rfl rfl (by decide) (p_move rfl rfl) ?_
                      clear hs a; intro a hs
                      obtain ⟨t87, w1, ha, hw, h⟩ := h
                      refine t_eff hs rfl rfl (by decide) (e_buildSlice (z := #[(Sl.val ⟨none, 0, 0⟩)]) (cs := #[(Sl.val t58)]) rfl sl_54 zt_22 (by decide) rfl rz_22_1 (by rfl) ha hw) ?_
                      clear hs a ha hw; intro a hs
                      obtain ⟨t88, w1, hd, h⟩ := h
                      refine t_eff hs rfl rfl (by decide) (e_append rfl rfl rfl rfl hd) ?_
                      clear hs a hd; intro a hs
                      refine t_pure hs rfl rfl (by decide) (p_assign rfl rfl) ?_
                      clear hs a; intro a hs
                      refine hK31 _ _ ?_
                      refine wp_region_lit ?_
                      obtain ⟨t89, he, h⟩ := h
                      refine t_pure hs rfl rfl (by decide) (Pure.int he (p_add rfl rfl rfl)) ?_
                      clear hs a he; intro a hs
                      refine t_pure hs rfl rfl (by decide) (p_move rfl rfl) ?_
                      clear hs a; intro a hs
                      rw [← hX5] at h
                      exact ⟨(put9_6, t88, t89), hs.to ⟨rfl, rfl, rfl, rfl, rfl, rfl, rfl, rfl, rfl, trivial⟩, h⟩
              clear hK33
              refine wp_seq_k fun K42 hK42 => ?_
              have J7 : ∀ (t68_7 : Bool) (a : Act) (w : World), Slots a 131 [(1, (.int .i64 size1)), (2, (.pointer (some k2))), (5, (.pointer t31x0)), (7, (.pointer t41x0)), (9, (.int .i64 put9_5)), (10, (Sl.val all10_5)), (12, (Sl.val t58)), (53, (Sl.val t53)), (54, (.int .i64 (t53.n : Int))), (55, (.int .i64 t55_5)), (68, (.bool t68_7))] → law04_WalKeeps.s7 Q X5 size1 k2 t31x0 t41x0 put9_5 all10_5 t58 t53 (t53.n : Int) t55_5 t68_7 w → K42 a w := by
                clear h hs
                intro t68_7 a w hs h
                refine hK42 _ _ ?_
                unfold law04_WalKeeps.s7 at h
                refine c_cond hs rfl (fun hb => ?_) (fun hb => ?_)
                · replace h := h.1 hb
                  clear hb
                  refine wp_seq_k fun K43 hK43 => ?_
                  refine wp_seq_k fun K44 hK44 => ?_
                  refine wp_region_lit ?_
                  refine t_pure hs rfl rfl (by decide) (p_move rfl rfl) ?_
                  clear hs a; intro a hs
                  refine t_call hs rfl rfl (by decide) (e_call rfl rfl rfl cb_29) h ?_
                  clear hs a h
                  intro v a w hk hs
                  obtain ⟨t70, rfl, h⟩ := hk
                  refine t_pure hs rfl rfl (by decide) (p_ne rfl rfl rfl) ?_
                  clear hs a; intro a hs
                  refine hK44 _ _ ?_
                  refine c_cond hs rfl (fun hb => ?_) (fun hb => ?_)
                  · replace h := h.1 hb
                    clear hb
                    refine wp_seq_k fun K45 hK45 => ?_
                    refine wp_region_lit ?_
                    refine t_pure hs rfl rfl (by decide) (p_assign rfl rfl) ?_
                    clear hs a; intro a hs
                    refine hK45 _ _ ?_
                    refine wp_ret ?_
                    refine f_ret (fn := Try.f5) hs (fun a hs => r_one hs rfl (rfl)) ⟨false, rfl, h⟩
                  · replace h := h.2 hb
                    clear hb
                    refine wp_skip ?_
                    refine hK43 _ _ ?_
                    refine wp_region_lit ?_
                    refine t_pure hs rfl rfl (by decide) (p_move rfl rfl) ?_
                    clear hs a; intro a hs
                    refine t_call hs rfl rfl (by decide) (e_call rfl rfl rfl cb_30) h ?_
                    clear hs a h
                    intro v a w hk hs
                    obtain ⟨t73, rfl, h⟩ := hk
                    refine t_pure hs rfl rfl (by decide) (p_len rfl rfl sl_54) ?_
                    clear hs a; intro a hs
                    refine t_pure hs rfl rfl (by decide) (p_assign rfl rfl) ?_
                    clear hs a; intro a hs
                    exact J6 (t73.n : Int) _ _ (hs.to ⟨rfl, rfl, rfl, rfl, rfl, rfl, rfl, rfl, rfl, rfl, trivial⟩) h
                · replace h := h.2 hb
                  clear hb
                  refine wp_skip ?_
                  exact J6 put9_5 _ _ (hs.to ⟨rfl, rfl, rfl, rfl, rfl, rfl, rfl, rfl, rfl, rfl, trivial⟩) h
              clear hK42
              refine wp_region_lit ?_
              refine t_pure hs rfl rfl (by decide) (p_move rfl rfl) ?_
              clear hs a; intro a hs
              refine t_pure hs rfl rfl (by decide) (p_len rfl rfl sl_54) ?_
              clear hs a; intro a hs
              refine t_pure hs rfl rfl (by decide) (p_fieldAddr0 rfl rfl ft_56_0) ?_
              clear hs a; intro a hs
              obtain ⟨t62, hv, h⟩ := h
              refine t_eff hs rfl rfl (by decide) (e_load rfl rfl ct_54 hv) ?_
              clear hs a hv; intro a hs
              refine t_pure hs rfl rfl (by decide) (p_len rfl rfl sl_54) ?_
              clear hs a; intro a hs
              refine t_pure hs rfl rfl (by decide) (p_eq rfl rfl rfl) ?_
              clear hs a; intro a hs
              refine t_pure hs rfl rfl (by decide) (p_move rfl rfl) ?_
              clear hs a; intro a hs
              refine split_bool (decide ((all10_5.n : Int) = (t62.n : Int))) (fun hb => ?_) (fun hb => ?_)
              · replace h := h.1 hb
                rw [hb] at hs
                clear hb
                refine t_yes hs rfl ?_
                refine t_pure hs rfl rfl (by decide) (p_move rfl rfl) ?_
                clear hs a; intro a hs
                replace hs := hs.to (τ := [(1, (.int .i64 size1)), (2, (.pointer (some k2))), (5, (.pointer t31x0)), (7, (.pointer t41x0)), (9, (.int .i64 put9_5)), (10, (Sl.val all10_5)), (12, (Sl.val t58)), (53, (Sl.val t53)), (54, (.int .i64 (t53.n : Int))), (55, (.int .i64 t55_5)), (65, (.bool true)), (66, (.int .i64 put9_5))]) ⟨rfl, rfl, rfl, rfl, rfl, rfl, rfl, rfl, rfl, rfl, rfl, rfl, trivial⟩
                refine t_yes hs rfl ?_
                refine t_pure hs rfl rfl (by decide) (p_eq rfl rfl rfl) ?_
                clear hs a; intro a hs
                refine t_pure hs rfl rfl (by decide) (p_pick_t rfl rfl rfl) ?_
                clear hs a; intro a hs
                exact J7 (decide (put9_5 = 0)) _ _ (hs.to ⟨rfl, rfl, rfl, rfl, rfl, rfl, rfl, rfl, rfl, rfl, rfl, trivial⟩) h
              · replace h := h.2 hb
                rw [hb] at hs
                clear hb
                refine t_no hs rfl rfl (by decide) ?_
                clear hs a; intro a hs
                replace hs := hs.to (τ := [(1, (.int .i64 size1)), (2, (.pointer (some k2))), (5, (.pointer t31x0)), (7, (.pointer t41x0)), (9, (.int .i64 put9_5)), (10, (Sl.val all10_5)), (12, (Sl.val t58)), (53, (Sl.val t53)), (54, (.int .i64 (t53.n : Int))), (55, (.int .i64 t55_5)), (65, (.bool false)), (66, undef)]) ⟨rfl, rfl, rfl, rfl, rfl, rfl, rfl, rfl, rfl, rfl, rfl, rfl, trivial⟩
                refine t_no hs rfl rfl (by decide) ?_
                clear hs a; intro a hs
                refine t_pure hs rfl rfl (by decide) (p_pick_f rfl rfl rfl) ?_
                clear hs a; intro a hs
                exact J7 false _ _ (hs.to ⟨rfl, rfl, rfl, rfl, rfl, rfl, rfl, rfl, rfl, rfl, rfl, trivial⟩) h
            · replace h := h.2 hb
              clear hb
              refine wp_exit ?_
              exact J2 put9_5 all10_5 _ _ (hs.to ⟨rfl, rfl, rfl, rfl, rfl, trivial⟩) h
    clear hK6
    refine wp_region_lit ?_
    refine t_pure hs rfl rfl (by decide) (p_fieldAddr0 rfl rfl ft_56_0) ?_
    clear hs a; intro a hs
    obtain ⟨t21, hv, h⟩ := h
    refine t_eff hs rfl rfl (by decide) (e_load rfl rfl ct_54 hv) ?_
    clear hs a hv; intro a hs
    refine t_pure hs rfl rfl (by decide) (p_len rfl rfl sl_54) ?_
    clear hs a; intro a hs
    refine t_pure hs rfl rfl (by decide) (p_gt rfl rfl rfl) ?_
    clear hs a; intro a hs
    refine t_pure hs rfl rfl (by decide) (p_move rfl rfl) ?_
    clear hs a; intro a hs
    refine split_bool (decide ((40 : Int) < (t21.n : Int))) (fun hb => ?_) (fun hb => ?_)
    · replace h := h.1 hb
      rw [hb] at hs
      clear hb
      refine t_no hs rfl rfl (by decide) ?_
      clear hs a; intro a hs
      refine t_no hs rfl rfl (by decide) ?_
      clear hs a; intro a hs
      refine t_no hs rfl rfl (by decide) ?_
      clear hs a; intro a hs
      replace hs := hs.to (τ := [(1, (.int .i64 size1)), (2, (.pointer (some k2))), (24, (.bool true)), (27, undef)]) ⟨rfl, rfl, rfl, rfl, trivial⟩
      refine t_no hs rfl rfl (by decide) ?_
      clear hs a; intro a hs
      refine t_pure hs rfl rfl (by decide) (p_pick_t rfl rfl rfl) ?_
      clear hs a; intro a hs
      exact J1 true _ _ (hs.to ⟨rfl, rfl, rfl, trivial⟩) h
    · replace h := h.2 hb
      rw [hb] at hs
      clear hb
      refine t_yes hs rfl ?_
      refine t_pure hs rfl rfl (by decide) (p_fieldAddr rfl rfl ft_56_1) ?_
      clear hs a; intro a hs
      refine t_yes hs rfl ?_
      obtain ⟨t26, hv, h⟩ := h
      refine t_eff hs rfl rfl (by decide) (e_load rfl rfl ct_54 hv) ?_
      clear hs a hv; intro a hs
      refine t_yes hs rfl ?_
      refine t_pure hs rfl rfl (by decide) (p_len rfl rfl sl_54) ?_
      clear hs a; intro a hs
      replace hs := hs.to (τ := [(1, (.int .i64 size1)), (2, (.pointer (some k2))), (24, (.bool false)), (27, (.int .i64 (t26.n : Int)))]) ⟨rfl, rfl, rfl, rfl, trivial⟩
      refine t_yes hs rfl ?_
      refine t_pure hs rfl rfl (by decide) (p_gt rfl rfl rfl) ?_
      clear hs a; intro a hs
      refine t_pure hs rfl rfl (by decide) (p_pick_f rfl rfl rfl) ?_
      clear hs a; intro a hs
      exact J1 (decide ((40 : Int) < (t26.n : Int))) _ _ (hs.to ⟨rfl, rfl, rfl, trivial⟩) h
end Go.Proofs.Ytdpepgjbambinaa
