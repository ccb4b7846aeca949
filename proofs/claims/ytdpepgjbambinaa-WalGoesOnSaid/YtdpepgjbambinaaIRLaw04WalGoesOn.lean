/- Plain forms of functions, and that their code comes to them (package law04_WalGoesOn). -/
import Derived.Test.YtdpepgjbambinaaCalls
namespace Go.Proofs.Ytdpepgjbambinaa
open Go Go.Sep
set_option linter.unusedVariables false
set_option linter.unusedSimpArgs false
set_option maxRecDepth 100000
set_option maxHeartbeats 4000000
def law04_WalGoesOn.s3 (Q : Bool → K) (X2 : (Option Addr) → (Option Addr) → Sl → Int → K) (t6_3 : Bool) : K :=
  Q t6_3
def law04_WalGoesOn.s5 (Q : Bool → K) (X2 : (Option Addr) → (Option Addr) → Sl → Int → K) (stops1_5 : Sl) (n7_5 : Int) (d8_5 : (Option Addr)) (l10_5 : (Option Addr)) (all12_5 : Sl) (t44_5 : Sl) (t45_5 : Int) (t46_5 : Int) : K :=
  wal_Log_Records.call l10_5 fun t104 =>
  ref04_Same.call t104 all12_5 fun t106 =>
  Ite (!t106)
    (Q false)
    (Ar (IntKind.wrap .i64 (t46_5 + 1)) fun t108 =>
    X2 d8_5 l10_5 all12_5 t108)
def law04_WalGoesOn.s6 (Q : Bool → K) (X2 : (Option Addr) → (Option Addr) → Sl → Int → K) (stops1_6 : Sl) (n7_6 : Int) (d8_6 : (Option Addr)) (l10_6 : (Option Addr)) (all12_6 : Sl) (t44_6 : Sl) (t45_6 : Int) (t46_6 : Int) (t90_6 : Bool) : K :=
  Ite t90_6
    (disk_Disk_Crash.call d8_6 (Sl.mk none 0 0) fun t92 =>
    Ite ((t92).isNone)
      (Q false)
      (wal_Open.call t92 ⟨#[108, 111, 103]⟩ n7_6 fun t98x0 t98x1 =>
      Ite ((t98x0).isNone)
        (Q false)
        (law04_WalGoesOn.s5 Q X2 stops1_6 n7_6 t92 t98x0 all12_6 t44_6 t45_6 t46_6)))
    (law04_WalGoesOn.s5 Q X2 stops1_6 n7_6 d8_6 l10_6 all12_6 t44_6 t45_6 t46_6)
def law04_WalGoesOn.s4 (Q : Bool → K) (X2 : (Option Addr) → (Option Addr) → Sl → Int → K) (stops1_4 : Sl) (n7_4 : Int) (d8_4 : (Option Addr)) (l10_4 : (Option Addr)) (all12_4 : Sl) (i13_4 : Int) (b14_4 : Sl) (t44_4 : Sl) (t45_4 : Int) (t46_4 : Int) (t74_4 : Bool) : K :=
  Ite t74_4
    (Q false)
    (New 22 #[(Sl.val b14_4)] fun t77 =>
    Do Try.prog (Builtin.append_ #[54, 54] 54 #[(Sl.val all12_4), (Sl.val (Sl.mk (some t77) 1 1))]) Sl.val fun t78 =>
    Ite (decide (i13_4 < (stops1_4.n : Int)))
      (Idx stops1_4 i13_4 1 fun t86 =>
      Ld t86 (Value.int .i64) fun t87 =>
      Ar (bitsOf .and .i64 t87 1) fun t88 =>
      law04_WalGoesOn.s6 Q X2 stops1_4 n7_4 d8_4 l10_4 t78 t44_4 t45_4 t46_4 (decide (t88 = 1)))
      (law04_WalGoesOn.s6 Q X2 stops1_4 n7_4 d8_4 l10_4 t78 t44_4 t45_4 t46_4 false))
def law04_WalGoesOn.b2 (Q : Bool → K)  (X2 : (Option Addr) → (Option Addr) → Sl → Int → K) (stops1_2 : Sl) (n7_2 : Int) (t44_2 : Sl) (t45_2 : Int) (d8_2 : (Option Addr)) (l10_2 : (Option Addr)) (all12_2 : Sl) (t46_2 : Int) : K :=
  Ite (decide (t46_2 < t45_2))
    (Idx t44_2 t46_2 1 fun t49 =>
    Ld t49 Sl.val fun t50 =>
    Ite (decide ((30 : Int) < (t50.n : Int)))
      (Q true)
      (wal_Log_Append.call l10_2 t50 fun t56 =>
      Ite (decide (t56 = 2))
        (wal_Log_Parts.call l10_2 fun t60 =>
        Ite (decide (t60 = 10))
          (wal_Log_Records.call l10_2 fun t64 =>
          ref04_Same.call t64 all12_2 fun t66 =>
          law04_WalGoesOn.s3 Q X2 t66)
          (law04_WalGoesOn.s3 Q X2 false))
        (Ite (decide (t56 ≠ 0))
          (law04_WalGoesOn.s4 Q X2 stops1_2 n7_2 d8_2 l10_2 all12_2 t46_2 t50 t44_2 t45_2 t46_2 true)
          (wal_Log_Sync.call l10_2 fun t72 =>
          law04_WalGoesOn.s4 Q X2 stops1_2 n7_2 d8_2 l10_2 all12_2 t46_2 t50 t44_2 t45_2 t46_2 (decide (t72 ≠ 0))))))
    (Q true)
def law04_WalGoesOn.s1 (Q : Bool → K)  (list0_1 : Sl) (stops1_1 : Sl) (size2_1 : Int) (t25_1 : Bool) : K :=
  Ite t25_1
    (Q true)
    (Ar (bitsOf .and .i64 size2_1 4095) fun t27 =>
    Ar (IntKind.wrap .i64 (40 + t27)) fun t28 =>
    disk_New.call 1048576 fun t30x0 t30x1 =>
    Ite ((t30x0).isNone)
      (Q false)
      (wal_Open.call t30x0 ⟨#[108, 111, 103]⟩ t28 fun t38x0 t38x1 =>
      Ite ((t38x0).isNone)
        (Q false)
        (New 22 #[] fun t43 =>
        LoopK (α := (Option Addr) × (Option Addr) × Sl × Int) (fun X x => law04_WalGoesOn.b2 Q (fun d8_2 l10_2 all12_2 t46_2 => X (d8_2, l10_2, all12_2, t46_2)) stops1_1 t28 list0_1 (list0_1.n : Int) x.1 x.2.1 x.2.2.1 x.2.2.2) (t30x0, t38x0, (Sl.mk (some t43) 0 0), 0))))
def law04_WalGoesOn (list0 : Sl) (stops1 : Sl) (size2 : Int) (Q : Bool → K) : K :=
  law04_speaks.call  fun t16 =>
  Ite (!t16)
    (Q false)
    (Ite (decide ((30 : Int) < (list0.n : Int)))
      (law04_WalGoesOn.s1 Q list0 stops1 size2 true)
      (law04_WalGoesOn.s1 Q list0 stops1 size2 (decide ((30 : Int) < (stops1.n : Int)))))
theorem law04_WalGoesOn_ok (list0 : Sl) (stops1 : Sl) (size2 : Int) (Q : Bool → K) (w : World) (h : law04_WalGoesOn list0 stops1 size2 Q w) : law04_WalGoesOn.call list0 stops1 size2 Q w := by
  unfold law04_WalGoesOn.call CallF
  refine f_start (args := [(Sl.val list0), (Sl.val stops1), (.int .i64 size2)]) Try.func8 rfl (Nat.le_of_ble_eq_true rfl) ?_
  intro a hs
  unfold law04_WalGoesOn at h
  refine wp_seq_k fun K1 hK1 => ?_
  refine wp_region_lit ?_
  refine t_pure hs rfl rfl (by decide) (p_assign rfl rfl) ?_
  clear hs a; intro a hs
  refine hK1 _ _ ?_
  refine wp_seq_k fun K2 hK2 => ?_
  refine wp_seq_k fun K3 hK3 => ?_
  refine wp_region_lit ?_
  refine t_call hs rfl rfl (by decide) (e_call rfl rfl rfl cb_26) h ?_
  clear hs a h
  intro v a w hk hs
  obtain ⟨t16, rfl, h⟩ := hk
  refine t_pure hs rfl rfl (by decide) (p_not rfl rfl) ?_
  clear hs a; intro a hs
  refine hK3 _ _ ?_
  refine c_cond hs rfl (fun hb => ?_) (fun hb => ?_)
  · replace h := h.1 hb
    clear hb
    refine wp_seq_k fun K4 hK4 => ?_
    refine wp_region_lit ?_
    refine t_pure hs rfl rfl (by decide) (p_assign rfl rfl) ?_
    clear hs a; intro a hs
    refine hK4 _ _ ?_
    refine wp_ret ?_
    refine f_ret (fn := Try.f8) hs (fun a hs => r_one hs rfl (rfl)) ⟨false, rfl, h⟩
  · replace h := h.2 hb
    clear hb
    refine wp_skip ?_
    refine hK2 _ _ ?_
    refine wp_seq_k fun K5 hK5 => ?_
    refine wp_seq_k fun K6 hK6 => ?_
    have J1 : ∀ (t25_1 : Bool) (a : Act) (w : World), Slots a 109 [(0, (Sl.val list0)), (1, (Sl.val stops1)), (2, (.int .i64 size2)), (25, (.bool t25_1))] → law04_WalGoesOn.s1 Q list0 stops1 size2 t25_1 w → K6 a w := by
      clear h hs
      intro t25_1 a w hs h
      refine hK6 _ _ ?_
      unfold law04_WalGoesOn.s1 at h
      refine c_cond hs rfl (fun hb => ?_) (fun hb => ?_)
      · replace h := h.1 hb
        clear hb
        refine wp_seq_k fun K7 hK7 => ?_
        refine wp_region_lit ?_
        refine t_pure hs rfl rfl (by decide) (p_assign rfl rfl) ?_
        clear hs a; intro a hs
        refine hK7 _ _ ?_
        refine wp_ret ?_
        refine f_ret (fn := Try.f8) hs (fun a hs => r_one hs rfl (rfl)) ⟨true, rfl, h⟩
      · replace h := h.2 hb
        clear hb
        refine wp_skip ?_
        refine hK5 _ _ ?_
        refine wp_seq_k fun K8 hK8 => ?_
        refine wp_region_lit ?_
        refine t_pure hs rfl rfl (by decide) (p_move rfl rfl) ?_
        clear hs a; intro a hs
        obtain ⟨t27, he, h⟩ := h
        refine t_pure hs rfl rfl (by decide) (Pure.int he (p_and rfl rfl rfl)) ?_
        clear hs a he; intro a hs
        obtain ⟨t28, he, h⟩ := h
        refine t_pure hs rfl rfl (by decide) (Pure.int he (p_add rfl rfl rfl)) ?_
        clear hs a he; intro a hs
        refine t_pure hs rfl rfl (by decide) (p_assign rfl rfl) ?_
        clear hs a; intro a hs
        refine hK8 _ _ ?_
        refine wp_seq_k fun K9 hK9 => ?_
        refine wp_region_lit ?_
        refine t_call hs rfl rfl (by decide) (e_call rfl rfl rfl cb_27) h ?_
        clear hs a h
        intro v a w hk hs
        obtain ⟨t30x0, t30x1, rfl, h⟩ := hk
        refine t_pure hs rfl rfl (by decide) (p_move rfl rfl) ?_
        clear hs a; intro a hs
        refine t_pure hs rfl rfl (by decide) (p_extract rfl rfl rfl) ?_
        clear hs a; intro a hs
        refine t_pure hs rfl rfl (by decide) (p_extract rfl rfl rfl) ?_
        clear hs a; intro a hs
        refine t_pure hs rfl rfl (by decide) (p_assign rfl rfl) ?_
        clear hs a; intro a hs
        refine t_pure hs rfl rfl (by decide) (p_assign rfl rfl) ?_
        clear hs a; intro a hs
        refine hK9 _ _ ?_
        refine wp_seq_k fun K10 hK10 => ?_
        refine wp_seq_k fun K11 hK11 => ?_
        refine wp_region_lit ?_
        refine t_pure hs rfl rfl (by decide) (p_move rfl rfl) ?_
        clear hs a; intro a hs
        refine t_pure hs rfl rfl (by decide) (p_eq_nil rfl rfl rfl Try.underlying57) ?_
        clear hs a; intro a hs
        refine hK11 _ _ ?_
        refine c_cond hs rfl (fun hb => ?_) (fun hb => ?_)
        · replace h := h.1 hb
          clear hb
          refine wp_seq_k fun K12 hK12 => ?_
          refine wp_region_lit ?_
          refine t_pure hs rfl rfl (by decide) (p_assign rfl rfl) ?_
          clear hs a; intro a hs
          refine hK12 _ _ ?_
          refine wp_ret ?_
          refine f_ret (fn := Try.f8) hs (fun a hs => r_one hs rfl (rfl)) ⟨false, rfl, h⟩
        · replace h := h.2 hb
          clear hb
          refine wp_skip ?_
          refine hK10 _ _ ?_
          refine wp_seq_k fun K13 hK13 => ?_
          refine wp_region_lit ?_
          refine t_pure hs rfl rfl (by decide) (p_move rfl rfl) ?_
          clear hs a; intro a hs
          refine t_pure hs rfl rfl (by decide) (p_move rfl rfl) ?_
          clear hs a; intro a hs
          refine t_call hs rfl rfl (by decide) (e_call rfl rfl rfl cb_28) h ?_
          clear hs a h
          intro v a w hk hs
          obtain ⟨t38x0, t38x1, rfl, h⟩ := hk
          refine t_pure hs rfl rfl (by decide) (p_move rfl rfl) ?_
          clear hs a; intro a hs
          refine t_pure hs rfl rfl (by decide) (p_extract rfl rfl rfl) ?_
          clear hs a; intro a hs
          refine t_pure hs rfl rfl (by decide) (p_extract rfl rfl rfl) ?_
          clear hs a; intro a hs
          refine t_pure hs rfl rfl (by decide) (p_assign rfl rfl) ?_
          clear hs a; intro a hs
          refine t_pure hs rfl rfl (by decide) (p_assign rfl rfl) ?_
          clear hs a; intro a hs
          refine hK13 _ _ ?_
          refine wp_seq_k fun K14 hK14 => ?_
          refine wp_seq_k fun K15 hK15 => ?_
          refine wp_region_lit ?_
          refine t_pure hs rfl rfl (by decide) (p_move rfl rfl) ?_
          clear hs a; intro a hs
          refine t_pure hs rfl rfl (by decide) (p_eq_nil rfl rfl rfl Try.underlying60) ?_
          clear hs a; intro a hs
          refine hK15 _ _ ?_
          refine c_cond hs rfl (fun hb => ?_) (fun hb => ?_)
          · replace h := h.1 hb
            clear hb
            refine wp_seq_k fun K16 hK16 => ?_
            refine wp_region_lit ?_
            refine t_pure hs rfl rfl (by decide) (p_assign rfl rfl) ?_
            clear hs a; intro a hs
            refine hK16 _ _ ?_
            refine wp_ret ?_
            refine f_ret (fn := Try.f8) hs (fun a hs => r_one hs rfl (rfl)) ⟨false, rfl, h⟩
          · replace h := h.2 hb
            clear hb
            refine wp_skip ?_
            refine hK14 _ _ ?_
            refine wp_seq_k fun K17 hK17 => ?_
            refine wp_region_lit ?_
            obtain ⟨t43, w1, ha, hw, h⟩ := h
            refine t_eff hs rfl rfl (by decide) (e_buildSlice (z := #[]) (cs := #[]) rfl sl_54 zt_22 (by decide) rfl rz_22_0 (by rfl) ha hw) ?_
            clear hs a ha hw; intro a hs
            refine t_pure hs rfl rfl (by decide) (p_assign rfl rfl) ?_
            clear hs a; intro a hs
            refine hK17 _ _ ?_
            refine wp_seq_k fun K18 hK18 => ?_
            refine wp_seq_k fun K19 hK19 => ?_
            refine wp_region_lit ?_
            refine t_pure hs rfl rfl (by decide) (p_move rfl rfl) ?_
            clear hs a; intro a hs
            refine t_pure hs rfl rfl (by decide) (p_len rfl rfl sl_54) ?_
            clear hs a; intro a hs
            refine t_pure hs rfl rfl (by decide) (p_move rfl rfl) ?_
            clear hs a; intro a hs
            refine hK19 _ _ ?_
            refine wp_block ?_
            obtain ⟨I2, μ2, h0, hr⟩ := h
            refine c_loop (α := (Option Addr) × (Option Addr) × Sl × Int) I2 μ2 (fun x a => Slots a 109 [(1, (Sl.val stops1)), (7, (.int .i64 t28)), (8, (.pointer x.1)), (10, (.pointer x.2.1)), (12, (Sl.val x.2.2.1)), (44, (Sl.val list0)), (45, (.int .i64 (list0.n : Int))), (46, (.int .i64 x.2.2.2))]) (t30x0, t38x0, (Sl.mk (some t43) 0 0), 0) h0 (hs.to ⟨rfl, rfl, rfl, rfl, rfl, rfl, rfl, rfl, trivial⟩) ?_
            clear h0 hs a
            rintro ⟨d8_2, l10_2, all12_2, t46_2⟩ a w hI hs
            have h : law04_WalGoesOn.b2 Q (fun d8_2n l10_2n all12_2n t46_2n w' => I2 (d8_2n, l10_2n, all12_2n, t46_2n) w' ∧ μ2 (d8_2n, l10_2n, all12_2n, t46_2n) w' < μ2 (d8_2, l10_2, all12_2, t46_2) w) stops1 t28 list0 (list0.n : Int) d8_2 l10_2 all12_2 t46_2 w := hr (d8_2, l10_2, all12_2, t46_2) w hI
            clear hr hI
            generalize hX2 : (fun d8_2n l10_2n all12_2n t46_2n w' => I2 (d8_2n, l10_2n, all12_2n, t46_2n) w' ∧ μ2 (d8_2n, l10_2n, all12_2n, t46_2n) w' < μ2 (d8_2, l10_2, all12_2, t46_2) w) = X2 at h
            unfold law04_WalGoesOn.b2 at h
            replace hs : Slots a 109 [(1, (Sl.val stops1)), (7, (.int .i64 t28)), (8, (.pointer d8_2)), (10, (.pointer l10_2)), (12, (Sl.val all12_2)), (44, (Sl.val list0)), (45, (.int .i64 (list0.n : Int))), (46, (.int .i64 t46_2))] := hs
            refine wp_seq_k fun K20 hK20 => ?_
            refine wp_region_lit ?_
            refine t_pure hs rfl rfl (by decide) (p_lt rfl rfl rfl) ?_
            clear hs a; intro a hs
            refine hK20 _ _ ?_
            refine wp_seq_k fun K21 hK21 => ?_
            refine c_cond hs rfl (fun hb => ?_) (fun hb => ?_)
            · replace h := h.1 hb
              clear hb
              refine wp_skip ?_
              refine hK21 _ _ ?_
              refine wp_seq_k fun K22 hK22 => ?_
              refine wp_block ?_
              refine wp_seq_k fun K23 hK23 => ?_
              refine wp_region_lit ?_
              refine t_pure hs rfl rfl (by decide) (p_move rfl rfl) ?_
              clear hs a; intro a hs
              obtain ⟨qt49, t49, ha, h0, h1, he, h⟩ := h
              refine t_pure hs rfl rfl (by decide) (Pure.adr he (p_idx rfl rfl rfl sl_54 ha h0 h1)) ?_
              clear hs a ha h0 h1 he; intro a hs
              obtain ⟨t50, hv, h⟩ := h
              refine t_eff hs rfl rfl (by decide) (e_load rfl rfl ct_22 hv) ?_
              clear hs a hv; intro a hs
              refine t_pure hs rfl rfl (by decide) (p_assign rfl rfl) ?_
              clear hs a; intro a hs
              refine t_pure hs rfl rfl (by decide) (p_assign rfl rfl) ?_
              clear hs a; intro a hs
              refine hK23 _ _ ?_
              refine wp_seq_k fun K24 hK24 => ?_
              refine wp_seq_k fun K25 hK25 => ?_
              refine wp_region_lit ?_
              refine t_pure hs rfl rfl (by decide) (p_move rfl rfl) ?_
              clear hs a; intro a hs
              refine t_pure hs rfl rfl (by decide) (p_len rfl rfl sl_22) ?_
              clear hs a; intro a hs
              refine t_pure hs rfl rfl (by decide) (p_gt rfl rfl rfl) ?_
              clear hs a; intro a hs
              refine hK25 _ _ ?_
              refine c_cond hs rfl (fun hb => ?_) (fun hb => ?_)
              · replace h := h.1 hb
                clear hb
                refine wp_seq_k fun K26 hK26 => ?_
                refine wp_region_lit ?_
                refine t_pure hs rfl rfl (by decide) (p_assign rfl rfl) ?_
                clear hs a; intro a hs
                refine hK26 _ _ ?_
                refine wp_ret ?_
                refine f_ret (fn := Try.f8) hs (fun a hs => r_one hs rfl (rfl)) ⟨true, rfl, h⟩
              · replace h := h.2 hb
                clear hb
                refine wp_skip ?_
                refine hK24 _ _ ?_
                refine wp_seq_k fun K27 hK27 => ?_
                refine wp_region_lit ?_
                refine t_pure hs rfl rfl (by decide) (p_move rfl rfl) ?_
                clear hs a; intro a hs
                refine t_pure hs rfl rfl (by decide) (p_move rfl rfl) ?_
                clear hs a; intro a hs
                refine t_call hs rfl rfl (by decide) (e_call rfl rfl rfl cb_31) h ?_
                clear hs a h
                intro v a w hk hs
                obtain ⟨t56, rfl, h⟩ := hk
                refine t_pure hs rfl rfl (by decide) (p_assign rfl rfl) ?_
                clear hs a; intro a hs
                refine hK27 _ _ ?_
                refine wp_seq_k fun K28 hK28 => ?_
                refine wp_seq_k fun K29 hK29 => ?_
                refine wp_region_lit ?_
                refine t_pure hs rfl rfl (by decide) (p_move rfl rfl) ?_
                clear hs a; intro a hs
                refine t_pure hs rfl rfl (by decide) (p_eq rfl rfl rfl) ?_
                clear hs a; intro a hs
                refine hK29 _ _ ?_
                refine c_cond hs rfl (fun hb => ?_) (fun hb => ?_)
                · replace h := h.1 hb
                  clear hb
                  refine wp_seq_k fun K30 hK30 => ?_
                  have J3 : ∀ (t6_3 : Bool) (a : Act) (w : World), Slots a 109 [(6, (.bool t6_3))] → law04_WalGoesOn.s3 Q X2 t6_3 w → K30 a w := by
                    clear h hs
                    intro t6_3 a w hs h
                    refine hK30 _ _ ?_
                    unfold law04_WalGoesOn.s3 at h
                    refine wp_ret ?_
                    refine f_ret (fn := Try.f8) hs (fun a hs => r_one hs rfl (rfl)) ⟨t6_3, rfl, h⟩
                  clear hK30
                  refine wp_region_lit ?_
                  refine t_pure hs rfl rfl (by decide) (p_move rfl rfl) ?_
                  clear hs a; intro a hs
                  refine t_call hs rfl rfl (by decide) (e_call rfl rfl rfl cb_38) h ?_
                  clear hs a h
                  intro v a w hk hs
                  obtain ⟨t60, rfl, h⟩ := hk
                  refine t_pure hs rfl rfl (by decide) (p_eq rfl rfl rfl) ?_
                  clear hs a; intro a hs
                  refine t_pure hs rfl rfl (by decide) (p_move rfl rfl) ?_
                  clear hs a; intro a hs
                  refine split_bool (decide (t60 = 10)) (fun hb => ?_) (fun hb => ?_)
                  · replace h := h.1 hb
                    rw [hb] at hs
                    clear hb
                    refine t_yes hs rfl ?_
                    refine t_pure hs rfl rfl (by decide) (p_move rfl rfl) ?_
                    clear hs a; intro a hs
                    refine t_yes hs rfl ?_
                    refine t_call hs rfl rfl (by decide) (e_call rfl rfl rfl cb_30) h ?_
                    clear hs a h
                    intro v a w hk hs
                    obtain ⟨t64, rfl, h⟩ := hk
                    refine t_yes hs rfl ?_
                    refine t_pure hs rfl rfl (by decide) (p_move rfl rfl) ?_
                    clear hs a; intro a hs
                    refine t_yes hs rfl ?_
                    refine t_call hs rfl rfl (by decide) (e_call rfl rfl rfl cb_33) h ?_
                    clear hs a h
                    intro v a w hk hs
                    obtain ⟨t66, rfl, h⟩ := hk
                    replace hs := hs.to (τ := [(62, (.bool true)), (66, (.bool t66))]) ⟨rfl, rfl, trivial⟩
                    refine t_pure hs rfl rfl (by decide) (p_pick_t rfl rfl rfl) ?_
                    clear hs a; intro a hs
                    refine t_pure hs rfl rfl (by decide) (p_assign rfl rfl) ?_
                    clear hs a; intro a hs
                    exact J3 t66 _ _ (hs.to ⟨rfl, trivial⟩) h
                  · replace h := h.2 hb
                    rw [hb] at hs
                    clear hb
                    refine t_no hs rfl rfl (by decide) ?_
                    clear hs a; intro a hs
                    refine t_no hs rfl rfl (by decide) ?_
                    clear hs a; intro a hs
                    refine t_no hs rfl rfl (by decide) ?_
                    clear hs a; intro a hs
                    refine t_no hs rfl rfl (by decide) ?_
                    clear hs a; intro a hs
                    replace hs := hs.to (τ := [(62, (.bool false)), (66, undef)]) ⟨rfl, rfl, trivial⟩
                    refine t_pure hs rfl rfl (by decide) (p_pick_f rfl rfl rfl) ?_
                    clear hs a; intro a hs
                    refine t_pure hs rfl rfl (by decide) (p_assign rfl rfl) ?_
                    clear hs a; intro a hs
                    exact J3 false _ _ (hs.to ⟨rfl, trivial⟩) h
                · replace h := h.2 hb
                  clear hb
                  refine wp_skip ?_
                  refine hK28 _ _ ?_
                  refine wp_seq_k fun K31 hK31 => ?_
                  refine wp_seq_k fun K32 hK32 => ?_
                  have J4 : ∀ (t74_4 : Bool) (a : Act) (w : World), Slots a 109 [(1, (Sl.val stops1)), (7, (.int .i64 t28)), (8, (.pointer d8_2)), (10, (.pointer l10_2)), (12, (Sl.val all12_2)), (13, (.int .i64 t46_2)), (14, (Sl.val t50)), (44, (Sl.val list0)), (45, (.int .i64 (list0.n : Int))), (46, (.int .i64 t46_2)), (74, (.bool t74_4))] → law04_WalGoesOn.s4 Q X2 stops1 t28 d8_2 l10_2 all12_2 t46_2 t50 list0 (list0.n : Int) t46_2 t74_4 w → K32 a w := by
                    clear h hs
                    intro t74_4 a w hs h
                    refine hK32 _ _ ?_
                    unfold law04_WalGoesOn.s4 at h
                    refine c_cond hs rfl (fun hb => ?_) (fun hb => ?_)
                    · replace h := h.1 hb
                      clear hb
                      refine wp_seq_k fun K33 hK33 => ?_
                      refine wp_region_lit ?_
                      refine t_pure hs rfl rfl (by decide) (p_assign rfl rfl) ?_
                      clear hs a; intro a hs
                      refine hK33 _ _ ?_
                      refine wp_ret ?_
                      refine f_ret (fn := Try.f8) hs (fun a hs => r_one hs rfl (rfl)) ⟨false, rfl, h⟩
                    · replace h := h.2 hb
                      clear hb
                      refine wp_skip ?_
                      refine hK31 _ _ ?_
                      refine wp_seq_k fun K34 hK34 => ?_
                      refine wp_region_lit ?_
                      refine t_pure hs rfl rfl (by decide) (p_move rfl rfl) ?_
                      clear hs a; intro a hs
                      refine t_pure hs rfl rfl (by decide) (p_move rfl rfl) ?_
                      clear hs a; intro a hs
                      obtain ⟨t77, w1, ha, hw, h⟩ := h
                      refine t_eff hs rfl rfl (by decide) (e_buildSlice (z := #[(Sl.val ⟨none, 0, 0⟩)]) (cs := #[(Sl.val t50)]) rfl sl_54 zt_22 (by decide) rfl rz_22_1 (by rfl) ha hw) ?_
                      clear hs a ha hw; intro a hs
                      obtain ⟨t78, w1, hd, h⟩ := h
                      refine t_eff hs rfl rfl (by decide) (e_append rfl rfl rfl rfl hd) ?_
                      clear hs a hd; intro a hs
                      refine t_pure hs rfl rfl (by decide) (p_assign rfl rfl) ?_
                      clear hs a; intro a hs
                      refine hK34 _ _ ?_
                      refine wp_seq_k fun K35 hK35 => ?_
                      have J5 : ∀ (d8_5 : (Option Addr)) (l10_5 : (Option Addr)) (a : Act) (w : World), Slots a 109 [(1, (Sl.val stops1)), (7, (.int .i64 t28)), (8, (.pointer d8_5)), (10, (.pointer l10_5)), (12, (Sl.val t78)), (44, (Sl.val list0)), (45, (.int .i64 (list0.n : Int))), (46, (.int .i64 t46_2))] → law04_WalGoesOn.s5 Q X2 stops1 t28 d8_5 l10_5 t78 list0 (list0.n : Int) t46_2 w → K35 a w := by
                        clear h hs
                        intro d8_5 l10_5 a w hs h
                        refine hK35 _ _ ?_
                        unfold law04_WalGoesOn.s5 at h
                        refine wp_seq_k fun K36 hK36 => ?_
                        refine wp_region_lit ?_
                        refine t_pure hs rfl rfl (by decide) (p_move rfl rfl) ?_
                        clear hs a; intro a hs
                        refine t_call hs rfl rfl (by decide) (e_call rfl rfl rfl cb_30) h ?_
                        clear hs a h
                        intro v a w hk hs
                        obtain ⟨t104, rfl, h⟩ := hk
                        refine t_pure hs rfl rfl (by decide) (p_move rfl rfl) ?_
                        clear hs a; intro a hs
                        refine t_call hs rfl rfl (by decide) (e_call rfl rfl rfl cb_33) h ?_
                        clear hs a h
                        intro v a w hk hs
                        obtain ⟨t106, rfl, h⟩ := hk
                        refine t_pure hs rfl rfl (by decide) (p_not rfl rfl) ?_
                        clear hs a; intro a hs
                        refine hK36 _ _ ?_
                        refine c_cond hs rfl (fun hb => ?_) (fun hb => ?_)
                        · replace h := h.1 hb
                          clear hb
                          refine wp_seq_k fun K37 hK37 => ?_
                          refine wp_region_lit ?_
                          refine t_pure hs rfl rfl (by decide) (p_assign rfl rfl) ?_
                          clear hs a; intro a hs
                          refine hK37 _ _ ?_
                          refine wp_ret ?_
                          refine f_ret (fn := Try.f8) hs (fun a hs => r_one hs rfl (rfl)) ⟨false, rfl, h⟩
                        · replace h := h.2 hb
                          clear hb
                          refine wp_skip ?_
                          refine hK22 _ _ ?_
                          refine wp_region_lit ?_
                          obtain ⟨t108, he, h⟩ := h
                          refine t_pure hs rfl rfl (by decide) (Pure.int he (p_add rfl rfl rfl)) ?_
                          clear hs a he; intro a hs
                          refine t_pure hs rfl rfl (by decide) (p_move rfl rfl) ?_
                          clear hs a; intro a hs
                          rw [← hX2] at h
                          exact ⟨(d8_5, l10_5, t78, t108), hs.to ⟨rfl, rfl, rfl, rfl, rfl, rfl, rfl, rfl, trivial⟩, h⟩
                      clear hK35
                      refine wp_seq_k fun K38 hK38 => ?_
                      have J6 : ∀ (t90_6 : Bool) (a : Act) (w : World), Slots a 109 [(1, (Sl.val stops1)), (7, (.int .i64 t28)), (8, (.pointer d8_2)), (10, (.pointer l10_2)), (12, (Sl.val t78)), (44, (Sl.val list0)), (45, (.int .i64 (list0.n : Int))), (46, (.int .i64 t46_2)), (90, (.bool t90_6))] → law04_WalGoesOn.s6 Q X2 stops1 t28 d8_2 l10_2 t78 list0 (list0.n : Int) t46_2 t90_6 w → K38 a w := by
                        clear h hs
                        intro t90_6 a w hs h
                        refine hK38 _ _ ?_
                        unfold law04_WalGoesOn.s6 at h
                        refine c_cond hs rfl (fun hb => ?_) (fun hb => ?_)
                        · replace h := h.1 hb
                          clear hb
                          refine wp_seq_k fun K39 hK39 => ?_
                          refine wp_seq_k fun K40 hK40 => ?_
                          refine wp_region_lit ?_
                          refine t_pure hs rfl rfl (by decide) (p_move rfl rfl) ?_
                          clear hs a; intro a hs
                          refine t_call hs rfl rfl (by decide) (e_call rfl rfl rfl cb_32) h ?_
                          clear hs a h
                          intro v a w hk hs
                          obtain ⟨t92, rfl, h⟩ := hk
                          refine t_pure hs rfl rfl (by decide) (p_assign rfl rfl) ?_
                          clear hs a; intro a hs
                          refine hK40 _ _ ?_
                          refine wp_seq_k fun K41 hK41 => ?_
                          refine wp_region_lit ?_
                          refine t_pure hs rfl rfl (by decide) (p_move rfl rfl) ?_
                          clear hs a; intro a hs
                          refine t_pure hs rfl rfl (by decide) (p_eq_nil rfl rfl rfl Try.underlying57) ?_
                          clear hs a; intro a hs
                          refine hK41 _ _ ?_
                          refine c_cond hs rfl (fun hb => ?_) (fun hb => ?_)
                          · replace h := h.1 hb
                            clear hb
                            refine wp_seq_k fun K42 hK42 => ?_
                            refine wp_region_lit ?_
                            refine t_pure hs rfl rfl (by decide) (p_assign rfl rfl) ?_
                            clear hs a; intro a hs
                            refine hK42 _ _ ?_
                            refine wp_ret ?_
                            refine f_ret (fn := Try.f8) hs (fun a hs => r_one hs rfl (rfl)) ⟨false, rfl, h⟩
                          · replace h := h.2 hb
                            clear hb
                            refine wp_skip ?_
                            refine hK39 _ _ ?_
                            refine wp_seq_k fun K43 hK43 => ?_
                            refine wp_region_lit ?_
                            refine t_pure hs rfl rfl (by decide) (p_move rfl rfl) ?_
                            clear hs a; intro a hs
                            refine t_pure hs rfl rfl (by decide) (p_move rfl rfl) ?_
                            clear hs a; intro a hs
                            refine t_call hs rfl rfl (by decide) (e_call rfl rfl rfl cb_28) h ?_
                            clear hs a h
                            intro v a w hk hs
                            obtain ⟨t98x0, t98x1, rfl, h⟩ := hk
                            refine t_pure hs rfl rfl (by decide) (p_move rfl rfl) ?_
                            clear hs a; intro a hs
                            refine t_pure hs rfl rfl (by decide) (p_extract rfl rfl rfl) ?_
                            clear hs a; intro a hs
                            refine t_pure hs rfl rfl (by decide) (p_extract rfl rfl rfl) ?_
                            clear hs a; intro a hs
                            refine t_pure hs rfl rfl (by decide) (p_assign rfl rfl) ?_
                            clear hs a; intro a hs
                            refine hK43 _ _ ?_
                            refine wp_seq_k fun K44 hK44 => ?_
                            refine wp_region_lit ?_
                            refine t_pure hs rfl rfl (by decide) (p_move rfl rfl) ?_
                            clear hs a; intro a hs
                            refine t_pure hs rfl rfl (by decide) (p_eq_nil rfl rfl rfl Try.underlying60) ?_
                            clear hs a; intro a hs
                            refine hK44 _ _ ?_
                            refine c_cond hs rfl (fun hb => ?_) (fun hb => ?_)
                            · replace h := h.1 hb
                              clear hb
                              refine wp_seq_k fun K45 hK45 => ?_
                              refine wp_region_lit ?_
                              refine t_pure hs rfl rfl (by decide) (p_assign rfl rfl) ?_
                              clear hs a; intro a hs
                              refine hK45 _ _ ?_
                              refine wp_ret ?_
                              refine f_ret (fn := Try.f8) hs (fun a hs => r_one hs rfl (rfl)) ⟨false, rfl, h⟩
                            · replace h := h.2 hb
                              clear hb
                              refine wp_skip ?_
                              exact J5 t92 t98x0 _ _ (hs.to ⟨rfl, rfl, rfl, rfl, rfl, rfl, rfl, rfl, trivial⟩) h
                        · replace h := h.2 hb
                          clear hb
                          refine wp_skip ?_
                          exact J5 d8_2 l10_2 _ _ (hs.to ⟨rfl, rfl, rfl, rfl, rfl, rfl, rfl, rfl, trivial⟩) h
                      clear hK38
                      refine wp_region_lit ?_
                      refine t_pure hs rfl rfl (by decide) (p_move rfl rfl) ?_
                      clear hs a; intro a hs
                      refine t_pure hs rfl rfl (by decide) (p_move rfl rfl) ?_
                      clear hs a; intro a hs
                      refine t_pure hs rfl rfl (by decide) (p_len rfl rfl sl_29) ?_
                      clear hs a; intro a hs
                      refine t_pure hs rfl rfl (by decide) (p_lt rfl rfl rfl) ?_
                      clear hs a; intro a hs
                      refine t_pure hs rfl rfl (by decide) (p_move rfl rfl) ?_
                      clear hs a; intro a hs
                      refine split_bool (decide (t46_2 < (stops1.n : Int))) (fun hb => ?_) (fun hb => ?_)
                      · replace h := h.1 hb
                        rw [hb] at hs
                        clear hb
                        refine t_yes hs rfl ?_
                        refine t_pure hs rfl rfl (by decide) (p_move rfl rfl) ?_
                        clear hs a; intro a hs
                        refine t_yes hs rfl ?_
                        refine t_pure hs rfl rfl (by decide) (p_move rfl rfl) ?_
                        clear hs a; intro a hs
                        refine t_yes hs rfl ?_
                        obtain ⟨qt86, t86, ha, h0, h1, he, h⟩ := h
                        refine t_pure hs rfl rfl (by decide) (Pure.adr he (p_idx rfl rfl rfl sl_29 ha h0 h1)) ?_
                        clear hs a ha h0 h1 he; intro a hs
                        replace hs := hs.to (τ := [(1, (Sl.val stops1)), (7, (.int .i64 t28)), (8, (.pointer d8_2)), (10, (.pointer l10_2)), (12, (Sl.val t78)), (44, (Sl.val list0)), (45, (.int .i64 (list0.n : Int))), (46, (.int .i64 t46_2)), (83, (.bool true)), (86, (.pointer (some t86)))]) ⟨rfl, rfl, rfl, rfl, rfl, rfl, rfl, rfl, rfl, rfl, trivial⟩
                        refine t_yes hs rfl ?_
                        obtain ⟨t87, hv, h⟩ := h
                        refine t_eff hs rfl rfl (by decide) (e_load rfl rfl ct_3 hv) ?_
                        clear hs a hv; intro a hs
                        refine t_yes hs rfl ?_
                        obtain ⟨t88, he, h⟩ := h
                        refine t_pure hs rfl rfl (by decide) (Pure.int he (p_and rfl rfl rfl)) ?_
                        clear hs a he; intro a hs
                        refine t_yes hs rfl ?_
                        refine t_pure hs rfl rfl (by decide) (p_eq rfl rfl rfl) ?_
                        clear hs a; intro a hs
                        refine t_pure hs rfl rfl (by decide) (p_pick_t rfl rfl rfl) ?_
                        clear hs a; intro a hs
                        exact J6 (decide (t88 = 1)) _ _ (hs.to ⟨rfl, rfl, rfl, rfl, rfl, rfl, rfl, rfl, rfl, trivial⟩) h
                      · replace h := h.2 hb
                        rw [hb] at hs
                        clear hb
                        refine t_no hs rfl rfl (by decide) ?_
                        clear hs a; intro a hs
                        refine t_no hs rfl rfl (by decide) ?_
                        clear hs a; intro a hs
                        refine t_no hs rfl rfl (by decide) ?_
                        clear hs a; intro a hs
                        replace hs := hs.to (τ := [(1, (Sl.val stops1)), (7, (.int .i64 t28)), (8, (.pointer d8_2)), (10, (.pointer l10_2)), (12, (Sl.val t78)), (44, (Sl.val list0)), (45, (.int .i64 (list0.n : Int))), (46, (.int .i64 t46_2)), (83, (.bool false)), (86, undef)]) ⟨rfl, rfl, rfl, rfl, rfl, rfl, rfl, rfl, rfl, rfl, trivial⟩
                        refine t_no hs rfl rfl (by decide) ?_
                        clear hs a; intro a hs
                        refine t_no hs rfl rfl (by decide) ?_
                        clear hs a; intro a hs
                        refine t_no hs rfl rfl (by decide) ?_
                        clear hs a; intro a hs
                        refine t_pure hs rfl rfl (by decide) (p_pick_f rfl rfl rfl) ?_
                        clear hs a; intro a hs
                        exact J6 false _ _ (hs.to ⟨rfl, rfl, rfl, rfl, rfl, rfl, rfl, rfl, rfl, trivial⟩) h
                  clear hK32
                  refine wp_region_lit ?_
                  refine t_pure hs rfl rfl (by decide) (p_move rfl rfl) ?_
                  clear hs a; intro a hs
                  refine t_pure hs rfl rfl (by decide) (p_ne rfl rfl rfl) ?_
                  clear hs a; intro a hs
                  refine t_pure hs rfl rfl (by decide) (p_move rfl rfl) ?_
                  clear hs a; intro a hs
                  refine split_bool (decide (t56 ≠ 0)) (fun hb => ?_) (fun hb => ?_)
                  · replace h := h.1 hb
                    rw [hb] at hs
                    clear hb
                    refine t_no hs rfl rfl (by decide) ?_
                    clear hs a; intro a hs
                    refine t_no hs rfl rfl (by decide) ?_
                    clear hs a; intro a hs
                    refine t_no hs rfl rfl (by decide) ?_
                    clear hs a; intro a hs
                    refine t_pure hs rfl rfl (by decide) (p_pick_t rfl rfl rfl) ?_
                    clear hs a; intro a hs
                    exact J4 true _ _ (hs.to ⟨rfl, rfl, rfl, rfl, rfl, rfl, rfl, rfl, rfl, rfl, rfl, trivial⟩) h
                  · replace h := h.2 hb
                    rw [hb] at hs
                    clear hb
                    refine t_yes hs rfl ?_
                    refine t_pure hs rfl rfl (by decide) (p_move rfl rfl) ?_
                    clear hs a; intro a hs
                    refine t_yes hs rfl ?_
                    refine t_call hs rfl rfl (by decide) (e_call rfl rfl rfl cb_29) h ?_
                    clear hs a h
                    intro v a w hk hs
                    obtain ⟨t72, rfl, h⟩ := hk
                    refine t_yes hs rfl ?_
                    refine t_pure hs rfl rfl (by decide) (p_ne rfl rfl rfl) ?_
                    clear hs a; intro a hs
                    refine t_pure hs rfl rfl (by decide) (p_pick_f rfl rfl rfl) ?_
                    clear hs a; intro a hs
                    exact J4 (decide (t72 ≠ 0)) _ _ (hs.to ⟨rfl, rfl, rfl, rfl, rfl, rfl, rfl, rfl, rfl, rfl, rfl, trivial⟩) h
            · replace h := h.2 hb
              clear hb
              refine wp_exit ?_
              refine hK18 _ _ ?_
              refine wp_seq_k fun K46 hK46 => ?_
              refine wp_region_lit ?_
              refine t_pure hs rfl rfl (by decide) (p_assign rfl rfl) ?_
              clear hs a; intro a hs
              refine hK46 _ _ ?_
              refine wp_ret ?_
              refine f_ret (fn := Try.f8) hs (fun a hs => r_one hs rfl (rfl)) ⟨true, rfl, h⟩
    clear hK6
    refine wp_region_lit ?_
    refine t_pure hs rfl rfl (by decide) (p_move rfl rfl) ?_
    clear hs a; intro a hs
    refine t_pure hs rfl rfl (by decide) (p_len rfl rfl sl_54) ?_
    clear hs a; intro a hs
    refine t_pure hs rfl rfl (by decide) (p_gt rfl rfl rfl) ?_
    clear hs a; intro a hs
    refine t_pure hs rfl rfl (by decide) (p_move rfl rfl) ?_
    clear hs a; intro a hs
    refine split_bool (decide ((30 : Int) < (list0.n : Int))) (fun hb => ?_) (fun hb => ?_)
    · replace h := h.1 hb
      rw [hb] at hs
      clear hb
      refine t_no hs rfl rfl (by decide) ?_
      clear hs a; intro a hs
      refine t_no hs rfl rfl (by decide) ?_
      clear hs a; intro a hs
      refine t_no hs rfl rfl (by decide) ?_
      clear hs a; intro a hs
      refine t_pure hs rfl rfl (by decide) (p_pick_t rfl rfl rfl) ?_
      clear hs a; intro a hs
      exact J1 true _ _ (hs.to ⟨rfl, rfl, rfl, rfl, trivial⟩) h
    · replace h := h.2 hb
      rw [hb] at hs
      clear hb
      refine t_yes hs rfl ?_
      refine t_pure hs rfl rfl (by decide) (p_move rfl rfl) ?_
      clear hs a; intro a hs
      refine t_yes hs rfl ?_
      refine t_pure hs rfl rfl (by decide) (p_len rfl rfl sl_29) ?_
      clear hs a; intro a hs
      refine t_yes hs rfl ?_
      refine t_pure hs rfl rfl (by decide) (p_gt rfl rfl rfl) ?_
      clear hs a; intro a hs
      refine t_pure hs rfl rfl (by decide) (p_pick_f rfl rfl rfl) ?_
      clear hs a; intro a hs
      exact J1 (decide ((30 : Int) < (stops1.n : Int))) _ _ (hs.to ⟨rfl, rfl, rfl, rfl, trivial⟩) h
end Go.Proofs.Ytdpepgjbambinaa
