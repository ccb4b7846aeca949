/- Plain forms of functions, and that their code comes to them (package law04). -/
import Derived.Test.YtdpepgjbambinaaCalls
namespace Go.Proofs.Ytdpepgjbambinaa
open Go Go.Sep
set_option linter.unusedVariables false
set_option linter.unusedSimpArgs false
set_option maxRecDepth 100000
set_option maxHeartbeats 4000000
def law04_speaks.s2 (Q : Bool → K)  (t0_2 : Bool) : K :=
  Q t0_2
def law04_speaks.s1 (Q : Bool → K)  (d1_1 : (Option Addr)) (l3_1 : (Option Addr)) (t24_1 : Bool) : K :=
  Ite t24_1
    (Q false)
    (New 5 #[(.int .u8 111), (.int .u8 110), (.int .u8 101)] fun t26 =>
    Do Try.prog (convert 22 22 (Sl.val (Sl.mk (some t26) 3 3))) Sl.val fun t27 =>
    wal_Log_Append.call l3_1 t27 fun t28 =>
    wal_Log_Sync.call l3_1 fun t30 =>
    New 5 #[(.int .u8 116), (.int .u8 119), (.int .u8 111)] fun t32 =>
    Do Try.prog (convert 22 22 (Sl.val (Sl.mk (some t32) 3 3))) Sl.val fun t33 =>
    wal_Log_Append.call l3_1 t33 fun t34 =>
    New 3 #[(.int .i64 3)] fun t36 =>
    disk_Disk_Crash.call d1_1 (Sl.mk (some t36) 1 1) fun t37 =>
    Ite ((t37).isNone)
      (Q false)
      (wal_Open.call t37 ⟨#[119]⟩ 100 fun t42x0 t42x1 =>
      Ite (!(t42x0).isNone)
        (Ite (decide (t42x1 = 0))
          (wal_Log_Records.call t42x0 fun t53 =>
          New 5 #[(.int .u8 111), (.int .u8 110), (.int .u8 101)] fun t54 =>
          Do Try.prog (convert 22 22 (Sl.val (Sl.mk (some t54) 3 3))) Sl.val fun t55 =>
          New 22 #[(Sl.val t55)] fun t56 =>
          ref04_Same.call t53 (Sl.mk (some t56) 1 1) fun t57 =>
          law04_speaks.s2 Q t57)
          (law04_speaks.s2 Q false))
        (law04_speaks.s2 Q false)))
def law04_speaks  (Q : Bool → K) : K :=
  disk_New.call 1000 fun t9x0 t9x1 =>
  Ite ((t9x0).isNone)
    (Q false)
    (wal_Open.call t9x0 ⟨#[119]⟩ 100 fun t16x0 t16x1 =>
    Ite ((t16x0).isNone)
      (law04_speaks.s1 Q t9x0 t16x0 true)
      (law04_speaks.s1 Q t9x0 t16x0 (decide (t16x1 ≠ 0))))
theorem law04_speaks_ok  (Q : Bool → K) (w : World) (h : law04_speaks  Q w) : law04_speaks.call  Q w := by
  unfold law04_speaks.call CallF
  refine f_start (args := []) Try.func26 rfl (Nat.le_of_ble_eq_true rfl) ?_
  intro a hs
  unfold law04_speaks at h
  refine wp_seq_k fun K1 hK1 => ?_
  refine wp_region_lit ?_
  refine t_pure hs rfl rfl (by decide) (p_assign rfl rfl) ?_
  clear hs a; intro a hs
  refine hK1 _ _ ?_
  refine wp_seq_k fun K2 hK2 => ?_
  refine wp_region_lit ?_
  refine t_call hs rfl rfl (by decide) (e_call rfl rfl rfl cb_27) h ?_
  clear hs a h
  intro v a w hk hs
  obtain ⟨t9x0, t9x1, rfl, h⟩ := hk
  refine t_pure hs rfl rfl (by decide) (p_move rfl rfl) ?_
  clear hs a; intro a hs
  refine t_pure hs rfl rfl (by decide) (p_extract rfl rfl rfl) ?_
  clear hs a; intro a hs
  refine t_pure hs rfl rfl (by decide) (p_extract rfl rfl rfl) ?_
  clear hs a; intro a hs
  refine t_pure hs rfl rfl (by decide) (p_assign rfl rfl) ?_
  clear hs a; intro a hs
  refine t_pure hs rfl rfl (by decide) (p_assign rfl rfl) ?_
  clear hs a; intro a hs
  refine hK2 _ _ ?_
  refine wp_seq_k fun K3 hK3 => ?_
  refine wp_seq_k fun K4 hK4 => ?_
  refine wp_region_lit ?_
  refine t_pure hs rfl rfl (by decide) (p_move rfl rfl) ?_
  clear hs a; intro a hs
  refine t_pure hs rfl rfl (by decide) (p_eq_nil rfl rfl rfl Try.underlying57) ?_
  clear hs a; intro a hs
  refine hK4 _ _ ?_
  refine c_cond hs rfl (fun hb => ?_) (fun hb => ?_)
  · replace h := h.1 hb
    clear hb
    refine wp_seq_k fun K5 hK5 => ?_
    refine wp_region_lit ?_
    refine t_pure hs rfl rfl (by decide) (p_assign rfl rfl) ?_
    clear hs a; intro a hs
    refine hK5 _ _ ?_
    refine wp_ret ?_
    refine f_ret (fn := Try.f26) hs (fun a hs => r_one hs rfl (rfl)) ⟨false, rfl, h⟩
  · replace h := h.2 hb
    clear hb
    refine wp_skip ?_
    refine hK3 _ _ ?_
    refine wp_seq_k fun K6 hK6 => ?_
    refine wp_region_lit ?_
    refine t_pure hs rfl rfl (by decide) (p_move rfl rfl) ?_
    clear hs a; intro a hs
    refine t_call hs rfl rfl (by decide) (e_call rfl rfl rfl cb_28) h ?_
    clear hs a h
    intro v a w hk hs
    obtain ⟨t16x0, t16x1, rfl, h⟩ := hk
    refine t_pure hs rfl rfl (by decide) (p_move rfl rfl) ?_
    clear hs a; intro a hs
    refine t_pure hs rfl rfl (by decide) (p_extract rfl rfl rfl) ?_
    clear hs a; intro a hs
    refine t_pure hs rfl rfl (by decide) (p_extract rfl rfl rfl) ?_
    clear hs a; intro a hs
    refine t_pure hs rfl rfl (by decide) (p_assign rfl rfl) ?_
    clear hs a; intro a hs
    refine t_pure hs rfl rfl (by decide) (p_assign rfl rfl) ?_
    clear hs a; intro a hs
    refine hK6 _ _ ?_
    refine wp_seq_k fun K7 hK7 => ?_
    refine wp_seq_k fun K8 hK8 => ?_
    have J1 : ∀ (t24_1 : Bool) (a : Act) (w : World), Slots a 59 [(1, (.pointer t9x0)), (3, (.pointer t16x0)), (24, (.bool t24_1))] → law04_speaks.s1 Q t9x0 t16x0 t24_1 w → K8 a w := by
      clear h hs
      intro t24_1 a w hs h
      refine hK8 _ _ ?_
      unfold law04_speaks.s1 at h
      refine c_cond hs rfl (fun hb => ?_) (fun hb => ?_)
      · replace h := h.1 hb
        clear hb
        refine wp_seq_k fun K9 hK9 => ?_
        refine wp_region_lit ?_
        refine t_pure hs rfl rfl (by decide) (p_assign rfl rfl) ?_
        clear hs a; intro a hs
        refine hK9 _ _ ?_
        refine wp_ret ?_
        refine f_ret (fn := Try.f26) hs (fun a hs => r_one hs rfl (rfl)) ⟨false, rfl, h⟩
      · replace h := h.2 hb
        clear hb
        refine wp_skip ?_
        refine hK7 _ _ ?_
        refine wp_seq_k fun K10 hK10 => ?_
        refine wp_region_lit ?_
        refine t_pure hs rfl rfl (by decide) (p_move rfl rfl) ?_
        clear hs a; intro a hs
        obtain ⟨t26, w1, ha, hw, h⟩ := h
        refine t_eff hs rfl rfl (by decide) (e_buildSlice (z := #[(.int .u8 0), (.int .u8 0), (.int .u8 0)]) (cs := #[(.int .u8 111), (.int .u8 110), (.int .u8 101)]) rfl sl_22 zt_5 (by decide) rfl rz_5_3 (by rfl) ha hw) ?_
        clear hs a ha hw; intro a hs
        obtain ⟨t27, w1, hd, h⟩ := h
        refine t_eff hs rfl rfl (by decide) (e_convert rfl rfl hd) ?_
        clear hs a hd; intro a hs
        refine t_call hs rfl rfl (by decide) (e_call rfl rfl rfl cb_31) h ?_
        clear hs a h
        intro v a w hk hs
        obtain ⟨t28, rfl, h⟩ := hk
        refine hK10 _ _ ?_
        refine wp_seq_k fun K11 hK11 => ?_
        refine wp_region_lit ?_
        refine t_pure hs rfl rfl (by decide) (p_move rfl rfl) ?_
        clear hs a; intro a hs
        refine t_call hs rfl rfl (by decide) (e_call rfl rfl rfl cb_29) h ?_
        clear hs a h
        intro v a w hk hs
        obtain ⟨t30, rfl, h⟩ := hk
        refine hK11 _ _ ?_
        refine wp_seq_k fun K12 hK12 => ?_
        refine wp_region_lit ?_
        refine t_pure hs rfl rfl (by decide) (p_move rfl rfl) ?_
        clear hs a; intro a hs
        obtain ⟨t32, w1, ha, hw, h⟩ := h
        refine t_eff hs rfl rfl (by decide) (e_buildSlice (z := #[(.int .u8 0), (.int .u8 0), (.int .u8 0)]) (cs := #[(.int .u8 116), (.int .u8 119), (.int .u8 111)]) rfl sl_22 zt_5 (by decide) rfl rz_5_3 (by rfl) ha hw) ?_
        clear hs a ha hw; intro a hs
        obtain ⟨t33, w1, hd, h⟩ := h
        refine t_eff hs rfl rfl (by decide) (e_convert rfl rfl hd) ?_
        clear hs a hd; intro a hs
        refine t_call hs rfl rfl (by decide) (e_call rfl rfl rfl cb_31) h ?_
        clear hs a h
        intro v a w hk hs
        obtain ⟨t34, rfl, h⟩ := hk
        refine hK12 _ _ ?_
        refine wp_seq_k fun K13 hK13 => ?_
        refine wp_region_lit ?_
        refine t_pure hs rfl rfl (by decide) (p_move rfl rfl) ?_
        clear hs a; intro a hs
        obtain ⟨t36, w1, ha, hw, h⟩ := h
        refine t_eff hs rfl rfl (by decide) (e_buildSlice (z := #[(.int .i64 0)]) (cs := #[(.int .i64 3)]) rfl sl_29 zt_3 (by decide) rfl rz_3_1 (by rfl) ha hw) ?_
        clear hs a ha hw; intro a hs
        refine t_call hs rfl rfl (by decide) (e_call rfl rfl rfl cb_32) h ?_
        clear hs a h
        intro v a w hk hs
        obtain ⟨t37, rfl, h⟩ := hk
        refine t_pure hs rfl rfl (by decide) (p_assign rfl rfl) ?_
        clear hs a; intro a hs
        refine hK13 _ _ ?_
        refine wp_seq_k fun K14 hK14 => ?_
        refine wp_seq_k fun K15 hK15 => ?_
        refine wp_region_lit ?_
        refine t_pure hs rfl rfl (by decide) (p_move rfl rfl) ?_
        clear hs a; intro a hs
        refine t_pure hs rfl rfl (by decide) (p_eq_nil rfl rfl rfl Try.underlying57) ?_
        clear hs a; intro a hs
        refine hK15 _ _ ?_
        refine c_cond hs rfl (fun hb => ?_) (fun hb => ?_)
        · replace h := h.1 hb
          clear hb
          refine wp_seq_k fun K16 hK16 => ?_
          refine wp_region_lit ?_
          refine t_pure hs rfl rfl (by decide) (p_assign rfl rfl) ?_
          clear hs a; intro a hs
          refine hK16 _ _ ?_
          refine wp_ret ?_
          refine f_ret (fn := Try.f26) hs (fun a hs => r_one hs rfl (rfl)) ⟨false, rfl, h⟩
        · replace h := h.2 hb
          clear hb
          refine wp_skip ?_
          refine hK14 _ _ ?_
          refine wp_seq_k fun K17 hK17 => ?_
          refine wp_region_lit ?_
          refine t_pure hs rfl rfl (by decide) (p_move rfl rfl) ?_
          clear hs a; intro a hs
          refine t_call hs rfl rfl (by decide) (e_call rfl rfl rfl cb_28) h ?_
          clear hs a h
          intro v a w hk hs
          obtain ⟨t42x0, t42x1, rfl, h⟩ := hk
          refine t_pure hs rfl rfl (by decide) (p_move rfl rfl) ?_
          clear hs a; intro a hs
          refine t_pure hs rfl rfl (by decide) (p_extract rfl rfl rfl) ?_
          clear hs a; intro a hs
          refine t_pure hs rfl rfl (by decide) (p_extract rfl rfl rfl) ?_
          clear hs a; intro a hs
          refine t_pure hs rfl rfl (by decide) (p_assign rfl rfl) ?_
          clear hs a; intro a hs
          refine t_pure hs rfl rfl (by decide) (p_assign rfl rfl) ?_
          clear hs a; intro a hs
          refine hK17 _ _ ?_
          refine wp_seq_k fun K18 hK18 => ?_
          have J2 : ∀ (t0_2 : Bool) (a : Act) (w : World), Slots a 59 [(0, (.bool t0_2))] → law04_speaks.s2 Q t0_2 w → K18 a w := by
            clear h hs
            intro t0_2 a w hs h
            refine hK18 _ _ ?_
            unfold law04_speaks.s2 at h
            refine wp_ret ?_
            refine f_ret (fn := Try.f26) hs (fun a hs => r_one hs rfl (rfl)) ⟨t0_2, rfl, h⟩
          clear hK18
          refine wp_region_lit ?_
          refine t_pure hs rfl rfl (by decide) (p_move rfl rfl) ?_
          clear hs a; intro a hs
          refine t_pure hs rfl rfl (by decide) (p_ne_nil rfl rfl rfl Try.underlying60) ?_
          clear hs a; intro a hs
          refine t_pure hs rfl rfl (by decide) (p_move rfl rfl) ?_
          clear hs a; intro a hs
          refine split_bool (!(t42x0).isNone) (fun hb => ?_) (fun hb => ?_)
          · replace h := h.1 hb
            rw [hb] at hs
            clear hb
            refine t_yes hs rfl ?_
            refine t_pure hs rfl rfl (by decide) (p_move rfl rfl) ?_
            clear hs a; intro a hs
            refine t_yes hs rfl ?_
            refine t_pure hs rfl rfl (by decide) (p_eq rfl rfl rfl) ?_
            clear hs a; intro a hs
            refine t_pure hs rfl rfl (by decide) (p_pick_t rfl rfl rfl) ?_
            clear hs a; intro a hs
            refine t_pure hs rfl rfl (by decide) (p_move rfl rfl) ?_
            clear hs a; intro a hs
            refine split_bool (decide (t42x1 = 0)) (fun hb => ?_) (fun hb => ?_)
            · replace h := h.1 hb
              rw [hb] at hs
              clear hb
              refine t_yes hs rfl ?_
              refine t_pure hs rfl rfl (by decide) (p_move rfl rfl) ?_
              clear hs a; intro a hs
              replace hs := hs.to (τ := [(51, (.bool true)), (52, (.pointer t42x0))]) ⟨rfl, rfl, trivial⟩
              refine t_yes hs rfl ?_
              refine t_call hs rfl rfl (by decide) (e_call rfl rfl rfl cb_30) h ?_
              clear hs a h
              intro v a w hk hs
              obtain ⟨t53, rfl, h⟩ := hk
              refine t_yes hs rfl ?_
              obtain ⟨t54, w1, ha, hw, h⟩ := h
              refine t_eff hs rfl rfl (by decide) (e_buildSlice (z := #[(.int .u8 0), (.int .u8 0), (.int .u8 0)]) (cs := #[(.int .u8 111), (.int .u8 110), (.int .u8 101)]) rfl sl_22 zt_5 (by decide) rfl rz_5_3 (by rfl) ha hw) ?_
              clear hs a ha hw; intro a hs
              refine t_yes hs rfl ?_
              obtain ⟨t55, w1, hd, h⟩ := h
              refine t_eff hs rfl rfl (by decide) (e_convert rfl rfl hd) ?_
              clear hs a hd; intro a hs
              refine t_yes hs rfl ?_
              obtain ⟨t56, w1, ha, hw, h⟩ := h
              refine t_eff hs rfl rfl (by decide) (e_buildSlice (z := #[(Sl.val ⟨none, 0, 0⟩)]) (cs := #[(Sl.val t55)]) rfl sl_54 zt_22 (by decide) rfl rz_22_1 (by rfl) ha hw) ?_
              clear hs a ha hw; intro a hs
              refine t_yes hs rfl ?_
              refine t_call hs rfl rfl (by decide) (e_call rfl rfl rfl cb_33) h ?_
              clear hs a h
              intro v a w hk hs
              obtain ⟨t57, rfl, h⟩ := hk
              refine t_pure hs rfl rfl (by decide) (p_pick_t rfl rfl rfl) ?_
              clear hs a; intro a hs
              refine t_pure hs rfl rfl (by decide) (p_assign rfl rfl) ?_
              clear hs a; intro a hs
              exact J2 t57 _ _ (hs.to ⟨rfl, trivial⟩) h
            · replace h := h.2 hb
              rw [hb] at hs
              clear hb
              refine t_no hs rfl rfl (by decide) ?_
              clear hs a; intro a hs
              replace hs := hs.to (τ := [(51, (.bool false)), (52, undef)]) ⟨rfl, rfl, trivial⟩
              refine t_no hs rfl rfl (by decide) ?_
              clear hs a; intro a hs
              refine t_no hs rfl rfl (by decide) ?_
              clear hs a; intro a hs
              refine t_no hs rfl rfl (by decide) ?_
              clear hs a; intro a hs
              refine t_no hs rfl rfl (by decide) ?_
              clear hs a; intro a hs
              refine t_no hs rfl rfl (by decide) ?_
              clear hs a; intro a hs
              refine t_pure hs rfl rfl (by decide) (p_pick_f rfl rfl rfl) ?_
              clear hs a; intro a hs
              refine t_pure hs rfl rfl (by decide) (p_assign rfl rfl) ?_
              clear hs a; intro a hs
              exact J2 false _ _ (hs.to ⟨rfl, trivial⟩) h
          · replace h := h.2 hb
            rw [hb] at hs
            clear hb
            refine t_no hs rfl rfl (by decide) ?_
            clear hs a; intro a hs
            refine t_no hs rfl rfl (by decide) ?_
            clear hs a; intro a hs
            refine t_pure hs rfl rfl (by decide) (p_pick_f rfl rfl rfl) ?_
            clear hs a; intro a hs
            refine t_pure hs rfl rfl (by decide) (p_move rfl rfl) ?_
            clear hs a; intro a hs
            refine t_no hs rfl rfl (by decide) ?_
            clear hs a; intro a hs
            replace hs := hs.to (τ := [(51, (.bool false)), (52, undef)]) ⟨rfl, rfl, trivial⟩
            refine t_no hs rfl rfl (by decide) ?_
            clear hs a; intro a hs
            refine t_no hs rfl rfl (by decide) ?_
            clear hs a; intro a hs
            refine t_no hs rfl rfl (by decide) ?_
            clear hs a; intro a hs
            refine t_no hs rfl rfl (by decide) ?_
            clear hs a; intro a hs
            refine t_no hs rfl rfl (by decide) ?_
            clear hs a; intro a hs
            refine t_pure hs rfl rfl (by decide) (p_pick_f rfl rfl rfl) ?_
            clear hs a; intro a hs
            refine t_pure hs rfl rfl (by decide) (p_assign rfl rfl) ?_
            clear hs a; intro a hs
            exact J2 false _ _ (hs.to ⟨rfl, trivial⟩) h
    clear hK8
    refine wp_region_lit ?_
    refine t_pure hs rfl rfl (by decide) (p_move rfl rfl) ?_
    clear hs a; intro a hs
    refine t_pure hs rfl rfl (by decide) (p_eq_nil rfl rfl rfl Try.underlying60) ?_
    clear hs a; intro a hs
    refine t_pure hs rfl rfl (by decide) (p_move rfl rfl) ?_
    clear hs a; intro a hs
    refine split_bool ((t16x0).isNone) (fun hb => ?_) (fun hb => ?_)
    · replace h := h.1 hb
      rw [hb] at hs
      clear hb
      refine t_no hs rfl rfl (by decide) ?_
      clear hs a; intro a hs
      refine t_no hs rfl rfl (by decide) ?_
      clear hs a; intro a hs
      refine t_pure hs rfl rfl (by decide) (p_pick_t rfl rfl rfl) ?_
      clear hs a; intro a hs
      exact J1 true _ _ (hs.to ⟨rfl, rfl, rfl, trivial⟩) h
    · replace h := h.2 hb
      rw [hb] at hs
      clear hb
      refine t_yes hs rfl ?_
      refine t_pure hs rfl rfl (by decide) (p_move rfl rfl) ?_
      clear hs a; intro a hs
      refine t_yes hs rfl ?_
      refine t_pure hs rfl rfl (by decide) (p_ne rfl rfl rfl) ?_
      clear hs a; intro a hs
      refine t_pure hs rfl rfl (by decide) (p_pick_f rfl rfl rfl) ?_
      clear hs a; intro a hs
      exact J1 (decide (t16x1 ≠ 0)) _ _ (hs.to ⟨rfl, rfl, rfl, trivial⟩) h
end Go.Proofs.Ytdpepgjbambinaa
