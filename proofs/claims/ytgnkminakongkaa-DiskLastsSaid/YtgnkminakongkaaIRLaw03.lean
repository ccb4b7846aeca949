/- Plain forms of functions, and that their code comes to them (package law03). -/
import Derived.Test.YtgnkminakongkaaCalls
namespace Go.Proofs.Ytgnkminakongkaa
open Go Go.Sep
set_option linter.unusedVariables false
set_option linter.unusedSimpArgs false
set_option maxRecDepth 100000
set_option maxHeartbeats 4000000
def law03_DiskLasts.s5 (Q : Bool → K) (X2 : Sl → Int → K) (X3 : Sl → Int → K) (t6_5 : Bool) : K :=
  Q t6_5
def law03_DiskLasts.s4 (Q : Bool → K) (X2 : Sl → Int → K) (X3 : Sl → Int → K) (before0_4 : Sl) (sure9_4 : Sl) (all10_4 : Sl) (got16_4 : Sl) (t99_4 : Bool) : K :=
  Ite t99_4
    (Q false)
    (Ite (decide ((before0_4.n : Int) = 0))
      (Dr <|
      Rd Try.prog (convert 33 9 (Sl.val got16_4)) Value.string fun t104 =>
      Slc all10_4 0 (got16_4.n : Int) (all10_4.c : Int) 1 fun t108 =>
      Rd Try.prog (convert 33 9 (Sl.val t108)) Value.string fun t109 =>
      Q (t104.toList == t109.toList))
      (Dr <|
      Ite (decide ((sure9_4.n : Int) ≤ (got16_4.n : Int)))
        (Rd Try.prog (convert 33 9 (Sl.val got16_4)) Value.string fun t118 =>
        Slc all10_4 0 (got16_4.n : Int) (all10_4.c : Int) 1 fun t122 =>
        Rd Try.prog (convert 33 9 (Sl.val t122)) Value.string fun t123 =>
        law03_DiskLasts.s5 Q X2 X3 (t118.toList == t123.toList))
        (law03_DiskLasts.s5 Q X2 X3 false)))
def law03_DiskLasts.b3 (Q : Bool → K) (X2 : Sl → Int → K) (X3 : Sl → Int → K) (before0_3 : Sl) (behind1_3 : Sl) (keeps2_3 : Sl) (d7_3 : (Option Addr)) (sure9_3 : Sl) (t57_3 : Sl) (t58_3 : Int) (all10_3 : Sl) (t59_3 : Int) : K :=
  Ite (decide (t59_3 < t58_3))
    (Idx t57_3 t59_3 1 fun t61 =>
    Ld t61 Sl.val fun t62 =>
    Ite (decide ((2000 : Int) < (t62.n : Int)))
      (Q true)
      (disk_Disk_Append.call d7_3 ⟨#[102]⟩ t62 fun t68 =>
      Do Try.prog (Builtin.append_ #[33, 33] 33 #[(Sl.val all10_3), (Sl.val t62)]) Sl.val fun t71 =>
      Ar (IntKind.wrap .i64 (t59_3 + 1)) fun t72 =>
      X3 t71 t72))
    (disk_Disk_Crash.call d7_3 keeps2_3 fun t75 =>
    Ite ((t75).isNone)
      (Q false)
      (disk_Disk_Read.call t75 ⟨#[102]⟩ fun t80x0 t80x1 =>
      Ar (IntKind.wrap .i64 ((before0_3.n : Int) + (behind1_3.n : Int))) fun t87 =>
      Ite (decide (t87 = 0))
        (Q (decide (t80x1 = 60)))
        (Ite (decide ((all10_3.n : Int) < (t80x0.n : Int)))
          (law03_DiskLasts.s4 Q X2 X3 before0_3 sure9_3 all10_3 t80x0 true)
          (law03_DiskLasts.s4 Q X2 X3 before0_3 sure9_3 all10_3 t80x0 (decide (t80x1 ≠ 0))))))
def law03_DiskLasts.b2 (Q : Bool → K)  (X2 : Sl → Int → K) (before0_2 : Sl) (behind1_2 : Sl) (keeps2_2 : Sl) (d7_2 : (Option Addr)) (all10_2 : Sl) (t36_2 : Sl) (t37_2 : Int) (sure9_2 : Sl) (t38_2 : Int) : K :=
  Ite (decide (t38_2 < t37_2))
    (Idx t36_2 t38_2 1 fun t40 =>
    Ld t40 Sl.val fun t41 =>
    Ite (decide ((2000 : Int) < (t41.n : Int)))
      (Q true)
      (disk_Disk_Append.call d7_2 ⟨#[102]⟩ t41 fun t47 =>
      Do Try.prog (Builtin.append_ #[33, 33] 33 #[(Sl.val sure9_2), (Sl.val t41)]) Sl.val fun t50 =>
      Ar (IntKind.wrap .i64 (t38_2 + 1)) fun t51 =>
      X2 t50 t51))
    (disk_Disk_Sync.call d7_2 ⟨#[102]⟩ fun t53 =>
    Do Try.prog (Builtin.append_ #[33, 33] 33 #[(Sl.val all10_2), (Sl.val sure9_2)]) Sl.val fun t56 =>
    LoopK (α := Sl × Int) (fun X x => law03_DiskLasts.b3 Q X2 (fun all10_3 t59_3 => X (all10_3, t59_3)) before0_2 behind1_2 keeps2_2 d7_2 sure9_2 behind1_2 (behind1_2.n : Int) x.1 x.2) (t56, 0))
def law03_DiskLasts.s1 (Q : Bool → K)  (before0_1 : Sl) (behind1_1 : Sl) (keeps2_1 : Sl) (t27_1 : Bool) : K :=
  Ite t27_1
    (Q true)
    (disk_New.call 1048576 fun t29x0 t29x1 =>
    Ite ((t29x0).isNone)
      (Q false)
      (New 5 #[] fun t34 =>
      New 5 #[] fun t35 =>
      LoopK (α := Sl × Int) (fun X x => law03_DiskLasts.b2 Q (fun sure9_2 t38_2 => X (sure9_2, t38_2)) before0_1 behind1_1 keeps2_1 t29x0 (Sl.mk (some t35) 0 0) before0_1 (before0_1.n : Int) x.1 x.2) ((Sl.mk (some t34) 0 0), 0)))
def law03_DiskLasts (before0 : Sl) (behind1 : Sl) (keeps2 : Sl) (Q : Bool → K) : K :=
  law03_speaks.call  fun t18 =>
  Ite (!t18)
    (Q false)
    (Ite (decide ((50 : Int) < (before0.n : Int)))
      (law03_DiskLasts.s1 Q before0 behind1 keeps2 true)
      (law03_DiskLasts.s1 Q before0 behind1 keeps2 (decide ((50 : Int) < (behind1.n : Int)))))
theorem law03_DiskLasts_ok (before0 : Sl) (behind1 : Sl) (keeps2 : Sl) (Q : Bool → K) (w : World) (h : law03_DiskLasts before0 behind1 keeps2 Q w) : law03_DiskLasts.call before0 behind1 keeps2 Q w := by
  unfold law03_DiskLasts.call CallF
  refine f_start (args := [(Sl.val before0), (Sl.val behind1), (Sl.val keeps2)]) Try.func4 rfl (Nat.le_of_ble_eq_true rfl) ?_
  intro a hs
  unfold law03_DiskLasts at h
  refine wp_seq_k fun K1 hK1 => ?_
  refine wp_region_lit ?_
  refine t_pure hs rfl rfl (by decide) (p_assign rfl rfl) ?_
  clear hs a
  intro a hs
  refine hK1 _ _ ?_
  refine wp_seq_k fun K2 hK2 => ?_
  refine wp_seq_k fun K3 hK3 => ?_
  refine wp_region_lit ?_
  refine t_call hs rfl rfl (by decide) (e_call rfl rfl rfl cb_20) h ?_
  clear hs a h
  intro v a w hk hs
  obtain ⟨t18, rfl, h⟩ := hk
  refine t_pure hs rfl rfl (by decide) (p_not rfl rfl) ?_
  clear hs a
  intro a hs
  refine hK3 _ _ ?_
  refine c_cond hs rfl (fun hb => ?_) (fun hb => ?_)
  · replace h := h.1 hb
    clear hb
    refine wp_seq_k fun K4 hK4 => ?_
    refine wp_region_lit ?_
    refine t_pure hs rfl rfl (by decide) (p_assign rfl rfl) ?_
    clear hs a
    intro a hs
    refine hK4 _ _ ?_
    refine wp_ret ?_
    refine f_ret (fn := Try.f4) hs (fun a hs => r_one hs rfl (rfl)) ⟨false, rfl, h⟩
  · replace h := h.2 hb
    clear hb
    refine wp_skip ?_
    refine hK2 _ _ ?_
    refine wp_seq_k fun K5 hK5 => ?_
    refine wp_seq_k fun K6 hK6 => ?_
    have J1 : ∀ (t27_1 : Bool) (a : Act) (w : World), Slots a 126 [(0, (Sl.val before0)), (1, (Sl.val behind1)), (2, (Sl.val keeps2)), (27, (.bool t27_1))] → law03_DiskLasts.s1 Q before0 behind1 keeps2 t27_1 w → K6 a w := by
      clear h hs
      intro t27_1 a w hs h
      refine hK6 _ _ ?_
      unfold law03_DiskLasts.s1 at h
      refine c_cond hs rfl (fun hb => ?_) (fun hb => ?_)
      · replace h := h.1 hb
        clear hb
        refine wp_seq_k fun K7 hK7 => ?_
        refine wp_region_lit ?_
        refine t_pure hs rfl rfl (by decide) (p_assign rfl rfl) ?_
        clear hs a
        intro a hs
        refine hK7 _ _ ?_
        refine wp_ret ?_
        refine f_ret (fn := Try.f4) hs (fun a hs => r_one hs rfl (rfl)) ⟨true, rfl, h⟩
      · replace h := h.2 hb
        clear hb
        refine wp_skip ?_
        refine hK5 _ _ ?_
        refine wp_seq_k fun K8 hK8 => ?_
        refine wp_region_lit ?_
        refine t_call hs rfl rfl (by decide) (e_call rfl rfl rfl cb_21) h ?_
        clear hs a h
        intro v a w hk hs
        obtain ⟨t29x0, t29x1, rfl, h⟩ := hk
        refine t_pure hs rfl rfl (by decide) (p_move rfl rfl) ?_
        clear hs a
        intro a hs
        refine t_pure hs rfl rfl (by decide) (p_extract rfl rfl rfl) ?_
        clear hs a
        intro a hs
        refine t_pure hs rfl rfl (by decide) (p_extract rfl rfl rfl) ?_
        clear hs a
        intro a hs
        refine t_pure hs rfl rfl (by decide) (p_assign rfl rfl) ?_
        clear hs a
        intro a hs
        refine t_pure hs rfl rfl (by decide) (p_assign rfl rfl) ?_
        clear hs a
        intro a hs
        refine hK8 _ _ ?_
        refine wp_seq_k fun K9 hK9 => ?_
        refine wp_seq_k fun K10 hK10 => ?_
        refine wp_region_lit ?_
        refine t_pure hs rfl rfl (by decide) (p_move rfl rfl) ?_
        clear hs a
        intro a hs
        refine t_pure hs rfl rfl (by decide) (p_eq_nil rfl rfl rfl Try.underlying45) ?_
        clear hs a
        intro a hs
        refine hK10 _ _ ?_
        refine c_cond hs rfl (fun hb => ?_) (fun hb => ?_)
        · replace h := h.1 hb
          clear hb
          refine wp_seq_k fun K11 hK11 => ?_
          refine wp_region_lit ?_
          refine t_pure hs rfl rfl (by decide) (p_assign rfl rfl) ?_
          clear hs a
          intro a hs
          refine hK11 _ _ ?_
          refine wp_ret ?_
          refine f_ret (fn := Try.f4) hs (fun a hs => r_one hs rfl (rfl)) ⟨false, rfl, h⟩
        · replace h := h.2 hb
          clear hb
          refine wp_skip ?_
          refine hK9 _ _ ?_
          refine wp_seq_k fun K12 hK12 => ?_
          refine wp_region_lit ?_
          obtain ⟨t34, w1, ha, hw, h⟩ := h
          refine t_eff hs rfl rfl (by decide) (e_buildSlice (z := #[]) (cs := #[]) rfl sl_33 zt_5 (by decide) rfl rz_5_0 (by rfl) ha hw) ?_
          clear hs a ha hw
          intro a hs
          obtain ⟨t35, w1, ha, hw, h⟩ := h
          refine t_eff hs rfl rfl (by decide) (e_buildSlice (z := #[]) (cs := #[]) rfl sl_33 zt_5 (by decide) rfl rz_5_0 (by rfl) ha hw) ?_
          clear hs a ha hw
          intro a hs
          refine t_pure hs rfl rfl (by decide) (p_assign rfl rfl) ?_
          clear hs a
          intro a hs
          refine t_pure hs rfl rfl (by decide) (p_assign rfl rfl) ?_
          clear hs a
          intro a hs
          refine hK12 _ _ ?_
          refine wp_seq_k fun K13 hK13 => ?_
          refine wp_seq_k fun K14 hK14 => ?_
          refine wp_region_lit ?_
          refine t_pure hs rfl rfl (by decide) (p_move rfl rfl) ?_
          clear hs a
          intro a hs
          refine t_pure hs rfl rfl (by decide) (p_len rfl rfl sl_43) ?_
          clear hs a
          intro a hs
          refine t_pure hs rfl rfl (by decide) (p_move rfl rfl) ?_
          clear hs a
          intro a hs
          refine hK14 _ _ ?_
          refine wp_block ?_
          obtain ⟨I2, μ2, h0, hr⟩ := h
          refine c_loop (α := Sl × Int) I2 μ2 (fun x a => Slots a 126 [(0, (Sl.val before0)), (1, (Sl.val behind1)), (2, (Sl.val keeps2)), (7, (.pointer t29x0)), (9, (Sl.val x.1)), (10, (Sl.val (Sl.mk (some t35) 0 0))), (36, (Sl.val before0)), (37, (.int .i64 (before0.n : Int))), (38, (.int .i64 x.2))]) ((Sl.mk (some t34) 0 0), 0) h0 (hs.to ⟨rfl, rfl, rfl, rfl, rfl, rfl, rfl, rfl, rfl, trivial⟩) ?_
          clear h0 hs a
          rintro ⟨sure9_2, t38_2⟩ a w hI hs
          have h : law03_DiskLasts.b2 Q (fun sure9_2n t38_2n w' => I2 (sure9_2n, t38_2n) w' ∧ μ2 (sure9_2n, t38_2n) w' < μ2 (sure9_2, t38_2) w) before0 behind1 keeps2 t29x0 (Sl.mk (some t35) 0 0) before0 (before0.n : Int) sure9_2 t38_2 w := hr (sure9_2, t38_2) w hI
          clear hr hI
          generalize hX2 : (fun sure9_2n t38_2n w' => I2 (sure9_2n, t38_2n) w' ∧ μ2 (sure9_2n, t38_2n) w' < μ2 (sure9_2, t38_2) w) = X2 at h
          unfold law03_DiskLasts.b2 at h
          replace hs : Slots a 126 [(0, (Sl.val before0)), (1, (Sl.val behind1)), (2, (Sl.val keeps2)), (7, (.pointer t29x0)), (9, (Sl.val sure9_2)), (10, (Sl.val (Sl.mk (some t35) 0 0))), (36, (Sl.val before0)), (37, (.int .i64 (before0.n : Int))), (38, (.int .i64 t38_2))] := hs
          refine wp_seq_k fun K15 hK15 => ?_
          refine wp_region_lit ?_
          refine t_pure hs rfl rfl (by decide) (p_lt rfl rfl rfl) ?_
          clear hs a
          intro a hs
          refine hK15 _ _ ?_
          refine wp_seq_k fun K16 hK16 => ?_
          refine c_cond hs rfl (fun hb => ?_) (fun hb => ?_)
          · replace h := h.1 hb
            clear hb
            refine wp_skip ?_
            refine hK16 _ _ ?_
            refine wp_seq_k fun K17 hK17 => ?_
            refine wp_block ?_
            refine wp_seq_k fun K18 hK18 => ?_
            refine wp_region_lit ?_
            obtain ⟨qt40, t40, ha, h0, h1, he, h⟩ := h
            refine t_pure hs rfl rfl (by decide) (Pure.adr he (p_idx rfl rfl rfl sl_43 ha h0 h1)) ?_
            clear hs a ha h0 h1 he
            intro a hs
            obtain ⟨t41, hv, h⟩ := h
            refine t_eff hs rfl rfl (by decide) (e_load rfl rfl ct_33 hv) ?_
            clear hs a hv
            intro a hs
            refine t_pure hs rfl rfl (by decide) (p_assign rfl rfl) ?_
            clear hs a
            intro a hs
            refine hK18 _ _ ?_
            refine wp_seq_k fun K19 hK19 => ?_
            refine wp_seq_k fun K20 hK20 => ?_
            refine wp_region_lit ?_
            refine t_pure hs rfl rfl (by decide) (p_move rfl rfl) ?_
            clear hs a
            intro a hs
            refine t_pure hs rfl rfl (by decide) (p_len rfl rfl sl_33) ?_
            clear hs a
            intro a hs
            refine t_pure hs rfl rfl (by decide) (p_gt rfl rfl rfl) ?_
            clear hs a
            intro a hs
            refine hK20 _ _ ?_
            refine c_cond hs rfl (fun hb => ?_) (fun hb => ?_)
            · replace h := h.1 hb
              clear hb
              refine wp_seq_k fun K21 hK21 => ?_
              refine wp_region_lit ?_
              refine t_pure hs rfl rfl (by decide) (p_assign rfl rfl) ?_
              clear hs a
              intro a hs
              refine hK21 _ _ ?_
              refine wp_ret ?_
              refine f_ret (fn := Try.f4) hs (fun a hs => r_one hs rfl (rfl)) ⟨true, rfl, h⟩
            · replace h := h.2 hb
              clear hb
              refine wp_skip ?_
              refine hK19 _ _ ?_
              refine wp_seq_k fun K22 hK22 => ?_
              refine wp_region_lit ?_
              refine t_pure hs rfl rfl (by decide) (p_move rfl rfl) ?_
              clear hs a
              intro a hs
              refine t_pure hs rfl rfl (by decide) (p_move rfl rfl) ?_
              clear hs a
              intro a hs
              refine t_call hs rfl rfl (by decide) (e_call rfl rfl rfl cb_22) h ?_
              clear hs a h
              intro v a w hk hs
              obtain ⟨t47, rfl, h⟩ := hk
              refine hK22 _ _ ?_
              refine wp_region_lit ?_
              refine t_pure hs rfl rfl (by decide) (p_move rfl rfl) ?_
              clear hs a
              intro a hs
              refine t_pure hs rfl rfl (by decide) (p_move rfl rfl) ?_
              clear hs a
              intro a hs
              obtain ⟨t50, w1, hd, h⟩ := h
              refine t_eff hs rfl rfl (by decide) (e_append rfl rfl rfl rfl hd) ?_
              clear hs a hd
              intro a hs
              refine t_pure hs rfl rfl (by decide) (p_assign rfl rfl) ?_
              clear hs a
              intro a hs
              refine hK17 _ _ ?_
              refine wp_region_lit ?_
              obtain ⟨t51, he, h⟩ := h
              refine t_pure hs rfl rfl (by decide) (Pure.int he (p_add rfl rfl rfl)) ?_
              clear hs a he
              intro a hs
              refine t_pure hs rfl rfl (by decide) (p_move rfl rfl) ?_
              clear hs a
              intro a hs
              rw [← hX2] at h
              exact ⟨(t50, t51), hs.to ⟨rfl, rfl, rfl, rfl, rfl, rfl, rfl, rfl, rfl, trivial⟩, h⟩
          · replace h := h.2 hb
            clear hb
            refine wp_exit ?_
            refine hK13 _ _ ?_
            refine wp_seq_k fun K23 hK23 => ?_
            refine wp_region_lit ?_
            refine t_pure hs rfl rfl (by decide) (p_move rfl rfl) ?_
            clear hs a
            intro a hs
            refine t_call hs rfl rfl (by decide) (e_call rfl rfl rfl cb_23) h ?_
            clear hs a h
            intro v a w hk hs
            obtain ⟨t53, rfl, h⟩ := hk
            refine hK23 _ _ ?_
            refine wp_seq_k fun K24 hK24 => ?_
            refine wp_region_lit ?_
            refine t_pure hs rfl rfl (by decide) (p_move rfl rfl) ?_
            clear hs a
            intro a hs
            refine t_pure hs rfl rfl (by decide) (p_move rfl rfl) ?_
            clear hs a
            intro a hs
            obtain ⟨t56, w1, hd, h⟩ := h
            refine t_eff hs rfl rfl (by decide) (e_append rfl rfl rfl rfl hd) ?_
            clear hs a hd
            intro a hs
            refine t_pure hs rfl rfl (by decide) (p_assign rfl rfl) ?_
            clear hs a
            intro a hs
            refine hK24 _ _ ?_
            refine wp_seq_k fun K25 hK25 => ?_
            refine wp_seq_k fun K26 hK26 => ?_
            refine wp_region_lit ?_
            refine t_pure hs rfl rfl (by decide) (p_move rfl rfl) ?_
            clear hs a
            intro a hs
            refine t_pure hs rfl rfl (by decide) (p_len rfl rfl sl_43) ?_
            clear hs a
            intro a hs
            refine t_pure hs rfl rfl (by decide) (p_move rfl rfl) ?_
            clear hs a
            intro a hs
            refine hK26 _ _ ?_
            refine wp_block ?_
            obtain ⟨I3, μ3, h0, hr⟩ := h
            refine c_loop (α := Sl × Int) I3 μ3 (fun x a => Slots a 126 [(0, (Sl.val before0)), (1, (Sl.val behind1)), (2, (Sl.val keeps2)), (7, (.pointer t29x0)), (9, (Sl.val sure9_2)), (10, (Sl.val x.1)), (57, (Sl.val behind1)), (58, (.int .i64 (behind1.n : Int))), (59, (.int .i64 x.2))]) (t56, 0) h0 (hs.to ⟨rfl, rfl, rfl, rfl, rfl, rfl, rfl, rfl, rfl, trivial⟩) ?_
            clear h0 hs a
            rintro ⟨all10_3, t59_3⟩ a w hI hs
            have h : law03_DiskLasts.b3 Q X2 (fun all10_3n t59_3n w' => I3 (all10_3n, t59_3n) w' ∧ μ3 (all10_3n, t59_3n) w' < μ3 (all10_3, t59_3) w) before0 behind1 keeps2 t29x0 sure9_2 behind1 (behind1.n : Int) all10_3 t59_3 w := hr (all10_3, t59_3) w hI
            clear hr hI
            generalize hX3 : (fun all10_3n t59_3n w' => I3 (all10_3n, t59_3n) w' ∧ μ3 (all10_3n, t59_3n) w' < μ3 (all10_3, t59_3) w) = X3 at h
            unfold law03_DiskLasts.b3 at h
            replace hs : Slots a 126 [(0, (Sl.val before0)), (1, (Sl.val behind1)), (2, (Sl.val keeps2)), (7, (.pointer t29x0)), (9, (Sl.val sure9_2)), (10, (Sl.val all10_3)), (57, (Sl.val behind1)), (58, (.int .i64 (behind1.n : Int))), (59, (.int .i64 t59_3))] := hs
            refine wp_seq_k fun K27 hK27 => ?_
            refine wp_region_lit ?_
            refine t_pure hs rfl rfl (by decide) (p_lt rfl rfl rfl) ?_
            clear hs a
            intro a hs
            refine hK27 _ _ ?_
            refine wp_seq_k fun K28 hK28 => ?_
            refine c_cond hs rfl (fun hb => ?_) (fun hb => ?_)
            · replace h := h.1 hb
              clear hb
              refine wp_skip ?_
              refine hK28 _ _ ?_
              refine wp_seq_k fun K29 hK29 => ?_
              refine wp_block ?_
              refine wp_seq_k fun K30 hK30 => ?_
              refine wp_region_lit ?_
              obtain ⟨qt61, t61, ha, h0, h1, he, h⟩ := h
              refine t_pure hs rfl rfl (by decide) (Pure.adr he (p_idx rfl rfl rfl sl_43 ha h0 h1)) ?_
              clear hs a ha h0 h1 he
              intro a hs
              obtain ⟨t62, hv, h⟩ := h
              refine t_eff hs rfl rfl (by decide) (e_load rfl rfl ct_33 hv) ?_
              clear hs a hv
              intro a hs
              refine t_pure hs rfl rfl (by decide) (p_assign rfl rfl) ?_
              clear hs a
              intro a hs
              refine hK30 _ _ ?_
              refine wp_seq_k fun K31 hK31 => ?_
              refine wp_seq_k fun K32 hK32 => ?_
              refine wp_region_lit ?_
              refine t_pure hs rfl rfl (by decide) (p_move rfl rfl) ?_
              clear hs a
              intro a hs
              refine t_pure hs rfl rfl (by decide) (p_len rfl rfl sl_33) ?_
              clear hs a
              intro a hs
              refine t_pure hs rfl rfl (by decide) (p_gt rfl rfl rfl) ?_
              clear hs a
              intro a hs
              refine hK32 _ _ ?_
              refine c_cond hs rfl (fun hb => ?_) (fun hb => ?_)
              · replace h := h.1 hb
                clear hb
                refine wp_seq_k fun K33 hK33 => ?_
                refine wp_region_lit ?_
                refine t_pure hs rfl rfl (by decide) (p_assign rfl rfl) ?_
                clear hs a
                intro a hs
                refine hK33 _ _ ?_
                refine wp_ret ?_
                refine f_ret (fn := Try.f4) hs (fun a hs => r_one hs rfl (rfl)) ⟨true, rfl, h⟩
              · replace h := h.2 hb
                clear hb
                refine wp_skip ?_
                refine hK31 _ _ ?_
                refine wp_seq_k fun K34 hK34 => ?_
                refine wp_region_lit ?_
                refine t_pure hs rfl rfl (by decide) (p_move rfl rfl) ?_
                clear hs a
                intro a hs
                refine t_pure hs rfl rfl (by decide) (p_move rfl rfl) ?_
                clear hs a
                intro a hs
                refine t_call hs rfl rfl (by decide) (e_call rfl rfl rfl cb_22) h ?_
                clear hs a h
                intro v a w hk hs
                obtain ⟨t68, rfl, h⟩ := hk
                refine hK34 _ _ ?_
                refine wp_region_lit ?_
                refine t_pure hs rfl rfl (by decide) (p_move rfl rfl) ?_
                clear hs a
                intro a hs
                refine t_pure hs rfl rfl (by decide) (p_move rfl rfl) ?_
                clear hs a
                intro a hs
                obtain ⟨t71, w1, hd, h⟩ := h
                refine t_eff hs rfl rfl (by decide) (e_append rfl rfl rfl rfl hd) ?_
                clear hs a hd
                intro a hs
                refine t_pure hs rfl rfl (by decide) (p_assign rfl rfl) ?_
                clear hs a
                intro a hs
                refine hK29 _ _ ?_
                refine wp_region_lit ?_
                obtain ⟨t72, he, h⟩ := h
                refine t_pure hs rfl rfl (by decide) (Pure.int he (p_add rfl rfl rfl)) ?_
                clear hs a he
                intro a hs
                refine t_pure hs rfl rfl (by decide) (p_move rfl rfl) ?_
                clear hs a
                intro a hs
                rw [← hX3] at h
                exact ⟨(t71, t72), hs.to ⟨rfl, rfl, rfl, rfl, rfl, rfl, rfl, rfl, rfl, trivial⟩, h⟩
            · replace h := h.2 hb
              clear hb
              refine wp_exit ?_
              refine hK25 _ _ ?_
              refine wp_seq_k fun K35 hK35 => ?_
              refine wp_region_lit ?_
              refine t_pure hs rfl rfl (by decide) (p_move rfl rfl) ?_
              clear hs a
              intro a hs
              refine t_pure hs rfl rfl (by decide) (p_move rfl rfl) ?_
              clear hs a
              intro a hs
              refine t_call hs rfl rfl (by decide) (e_call rfl rfl rfl cb_24) h ?_
              clear hs a h
              intro v a w hk hs
              obtain ⟨t75, rfl, h⟩ := hk
              refine t_pure hs rfl rfl (by decide) (p_assign rfl rfl) ?_
              clear hs a
              intro a hs
              refine hK35 _ _ ?_
              refine wp_seq_k fun K36 hK36 => ?_
              refine wp_seq_k fun K37 hK37 => ?_
              refine wp_region_lit ?_
              refine t_pure hs rfl rfl (by decide) (p_move rfl rfl) ?_
              clear hs a
              intro a hs
              refine t_pure hs rfl rfl (by decide) (p_eq_nil rfl rfl rfl Try.underlying45) ?_
              clear hs a
              intro a hs
              refine hK37 _ _ ?_
              refine c_cond hs rfl (fun hb => ?_) (fun hb => ?_)
              · replace h := h.1 hb
                clear hb
                refine wp_seq_k fun K38 hK38 => ?_
                refine wp_region_lit ?_
                refine t_pure hs rfl rfl (by decide) (p_assign rfl rfl) ?_
                clear hs a
                intro a hs
                refine hK38 _ _ ?_
                refine wp_ret ?_
                refine f_ret (fn := Try.f4) hs (fun a hs => r_one hs rfl (rfl)) ⟨false, rfl, h⟩
              · replace h := h.2 hb
                clear hb
                refine wp_skip ?_
                refine hK36 _ _ ?_
                refine wp_seq_k fun K39 hK39 => ?_
                refine wp_region_lit ?_
                refine t_pure hs rfl rfl (by decide) (p_move rfl rfl) ?_
                clear hs a
                intro a hs
                refine t_call hs rfl rfl (by decide) (e_call rfl rfl rfl cb_25) h ?_
                clear hs a h
                intro v a w hk hs
                obtain ⟨t80x0, t80x1, rfl, h⟩ := hk
                refine t_pure hs rfl rfl (by decide) (p_move rfl rfl) ?_
                clear hs a
                intro a hs
                refine t_pure hs rfl rfl (by decide) (p_extract rfl rfl rfl) ?_
                clear hs a
                intro a hs
                refine t_pure hs rfl rfl (by decide) (p_extract rfl rfl rfl) ?_
                clear hs a
                intro a hs
                refine t_pure hs rfl rfl (by decide) (p_assign rfl rfl) ?_
                clear hs a
                intro a hs
                refine t_pure hs rfl rfl (by decide) (p_assign rfl rfl) ?_
                clear hs a
                intro a hs
                refine hK39 _ _ ?_
                refine wp_seq_k fun K40 hK40 => ?_
                refine wp_seq_k fun K41 hK41 => ?_
                refine wp_region_lit ?_
                refine t_pure hs rfl rfl (by decide) (p_move rfl rfl) ?_
                clear hs a
                intro a hs
                refine t_pure hs rfl rfl (by decide) (p_len rfl rfl sl_43) ?_
                clear hs a
                intro a hs
                refine t_pure hs rfl rfl (by decide) (p_move rfl rfl) ?_
                clear hs a
                intro a hs
                refine t_pure hs rfl rfl (by decide) (p_len rfl rfl sl_43) ?_
                clear hs a
                intro a hs
                obtain ⟨t87, he, h⟩ := h
                refine t_pure hs rfl rfl (by decide) (Pure.int he (p_add rfl rfl rfl)) ?_
                clear hs a he
                intro a hs
                refine t_pure hs rfl rfl (by decide) (p_eq rfl rfl rfl) ?_
                clear hs a
                intro a hs
                refine hK41 _ _ ?_
                refine c_cond hs rfl (fun hb => ?_) (fun hb => ?_)
                · replace h := h.1 hb
                  clear hb
                  refine wp_seq_k fun K42 hK42 => ?_
                  refine wp_region_lit ?_
                  refine t_pure hs rfl rfl (by decide) (p_move rfl rfl) ?_
                  clear hs a
                  intro a hs
                  refine t_pure hs rfl rfl (by decide) (p_eq rfl rfl rfl) ?_
                  clear hs a
                  intro a hs
                  refine t_pure hs rfl rfl (by decide) (p_assign rfl rfl) ?_
                  clear hs a
                  intro a hs
                  refine hK42 _ _ ?_
                  refine wp_ret ?_
                  refine f_ret (fn := Try.f4) hs (fun a hs => r_one hs rfl (rfl)) ⟨(decide (t80x1 = 60)), rfl, h⟩
                · replace h := h.2 hb
                  clear hb
                  refine wp_skip ?_
                  refine hK40 _ _ ?_
                  refine wp_seq_k fun K43 hK43 => ?_
                  refine wp_seq_k fun K44 hK44 => ?_
                  have J4 : ∀ (t99_4 : Bool) (a : Act) (w : World), Slots a 126 [(0, (Sl.val before0)), (9, (Sl.val sure9_2)), (10, (Sl.val all10_3)), (16, (Sl.val t80x0)), (99, (.bool t99_4))] → law03_DiskLasts.s4 Q X2 X3 before0 sure9_2 all10_3 t80x0 t99_4 w → K44 a w := by
                    clear h hs
                    intro t99_4 a w hs h
                    refine hK44 _ _ ?_
                    unfold law03_DiskLasts.s4 at h
                    refine c_cond hs rfl (fun hb => ?_) (fun hb => ?_)
                    · replace h := h.1 hb
                      clear hb
                      refine wp_seq_k fun K45 hK45 => ?_
                      refine wp_region_lit ?_
                      refine t_pure hs rfl rfl (by decide) (p_assign rfl rfl) ?_
                      clear hs a
                      intro a hs
                      refine hK45 _ _ ?_
                      refine wp_ret ?_
                      refine f_ret (fn := Try.f4) hs (fun a hs => r_one hs rfl (rfl)) ⟨false, rfl, h⟩
                    · replace h := h.2 hb
                      clear hb
                      refine wp_skip ?_
                      refine hK43 _ _ ?_
                      refine wp_seq_k fun K46 hK46 => ?_
                      refine wp_seq_k fun K47 hK47 => ?_
                      refine wp_region_lit ?_
                      refine t_pure hs rfl rfl (by decide) (p_move rfl rfl) ?_
                      clear hs a
                      intro a hs
                      refine t_pure hs rfl rfl (by decide) (p_len rfl rfl sl_43) ?_
                      clear hs a
                      intro a hs
                      refine t_pure hs rfl rfl (by decide) (p_eq rfl rfl rfl) ?_
                      clear hs a
                      intro a hs
                      refine hK47 _ _ ?_
                      refine c_cond hs rfl (fun hb => ?_) (fun hb => ?_)
                      · replace h := h.1 hb
                        clear hb
                        refine wp_seq_k fun K48 hK48 => ?_
                        obtain ⟨w1, hw1, h⟩ := h
                        refine s_start mixed (by kernel_rfl) hw1 ?_
                        clear hw1
                        refine s_pure hs rfl rfl (by decide) (p_move rfl rfl) ?_
                        clear hs a
                        intro a hs
                        obtain ⟨t104, hd, h⟩ := h
                        refine s_eff hs rfl rfl (by decide) (e_convert rfl rfl hd) ?_
                        clear hs a hd
                        intro a hs
                        refine s_pure hs rfl rfl (by decide) (p_move rfl rfl) ?_
                        clear hs a
                        intro a hs
                        refine s_pure hs rfl rfl (by decide) (p_move rfl rfl) ?_
                        clear hs a
                        intro a hs
                        refine s_pure hs rfl rfl (by decide) (p_len rfl rfl sl_33) ?_
                        clear hs a
                        intro a hs
                        obtain ⟨t108, h0, h1, h2, h3, he, h⟩ := h
                        refine s_pure hs rfl rfl (by decide) (Pure.sl he (p_slc rfl rfl sl_33 rfl ⟨_, rfl⟩ rfl (by decide) h0 h1 h2 h3)) ?_
                        clear hs a h0 h1 h2 h3 he
                        intro a hs
                        obtain ⟨t109, hd, h⟩ := h
                        refine s_eff hs rfl rfl (by decide) (e_convert rfl rfl hd) ?_
                        clear hs a hd
                        intro a hs
                        refine s_pure hs rfl rfl (by decide) (p_eqs rfl rfl rfl) ?_
                        clear hs a
                        intro a hs
                        replace hs := hs.to (τ := [(110, (.bool (t104.toList == t109.toList)))]) ⟨rfl, trivial⟩
                        refine s_pure hs rfl rfl (by decide) (p_assign rfl rfl) ?_
                        clear hs a
                        intro a hs
                        refine hK48 _ _ ?_
                        refine wp_ret ?_
                        refine f_ret (fn := Try.f4) hs (fun a hs => r_one hs rfl (rfl)) ⟨(t104.toList == t109.toList), rfl, h⟩
                      · replace h := h.2 hb
                        clear hb
                        refine wp_skip ?_
                        refine hK46 _ _ ?_
                        refine wp_seq_k fun K49 hK49 => ?_
                        have J5 : ∀ (t6_5 : Bool) (a : Act) (w : World), Slots a 126 [(6, (.bool t6_5))] → law03_DiskLasts.s5 Q X2 X3 t6_5 w → K49 a w := by
                          clear h hs
                          intro t6_5 a w hs h
                          refine hK49 _ _ ?_
                          unfold law03_DiskLasts.s5 at h
                          refine wp_ret ?_
                          refine f_ret (fn := Try.f4) hs (fun a hs => r_one hs rfl (rfl)) ⟨t6_5, rfl, h⟩
                        clear hK49
                        obtain ⟨w1, hw1, h⟩ := h
                        refine s_start mixed (by kernel_rfl) hw1 ?_
                        clear hw1
                        refine s_pure hs rfl rfl (by decide) (p_move rfl rfl) ?_
                        clear hs a
                        intro a hs
                        refine s_pure hs rfl rfl (by decide) (p_len rfl rfl sl_33) ?_
                        clear hs a
                        intro a hs
                        refine s_pure hs rfl rfl (by decide) (p_move rfl rfl) ?_
                        clear hs a
                        intro a hs
                        refine s_pure hs rfl rfl (by decide) (p_len rfl rfl sl_33) ?_
                        clear hs a
                        intro a hs
                        refine s_pure hs rfl rfl (by decide) (p_ge rfl rfl rfl) ?_
                        clear hs a
                        intro a hs
                        refine s_pure hs rfl rfl (by decide) (p_move rfl rfl) ?_
                        clear hs a
                        intro a hs
                        refine split_bool (decide ((sure9_2.n : Int) ≤ (t80x0.n : Int))) (fun hb => ?_) (fun hb => ?_)
                        · replace h := h.1 hb
                          rw [hb] at hs
                          clear hb
                          refine s_yes hs rfl ?_
                          refine s_pure hs rfl rfl (by decide) (p_move rfl rfl) ?_
                          clear hs a
                          intro a hs
                          refine s_yes hs rfl ?_
                          obtain ⟨t118, hd, h⟩ := h
                          refine s_eff hs rfl rfl (by decide) (e_convert rfl rfl hd) ?_
                          clear hs a hd
                          intro a hs
                          replace hs := hs.to (τ := [(10, (Sl.val all10_3)), (16, (Sl.val t80x0)), (116, (.bool true)), (118, (.string t118))]) ⟨rfl, rfl, rfl, rfl, trivial⟩
                          refine s_yes hs rfl ?_
                          refine s_pure hs rfl rfl (by decide) (p_move rfl rfl) ?_
                          clear hs a
                          intro a hs
                          refine s_yes hs rfl ?_
                          refine s_pure hs rfl rfl (by decide) (p_move rfl rfl) ?_
                          clear hs a
                          intro a hs
                          refine s_yes hs rfl ?_
                          refine s_pure hs rfl rfl (by decide) (p_len rfl rfl sl_33) ?_
                          clear hs a
                          intro a hs
                          refine s_yes hs rfl ?_
                          obtain ⟨t122, h0, h1, h2, h3, he, h⟩ := h
                          refine s_pure hs rfl rfl (by decide) (Pure.sl he (p_slc rfl rfl sl_33 rfl ⟨_, rfl⟩ rfl (by decide) h0 h1 h2 h3)) ?_
                          clear hs a h0 h1 h2 h3 he
                          intro a hs
                          refine s_yes hs rfl ?_
                          obtain ⟨t123, hd, h⟩ := h
                          refine s_eff hs rfl rfl (by decide) (e_convert rfl rfl hd) ?_
                          clear hs a hd
                          intro a hs
                          refine s_yes hs rfl ?_
                          refine s_pure hs rfl rfl (by decide) (p_eqs rfl rfl rfl) ?_
                          clear hs a
                          intro a hs
                          refine s_pure hs rfl rfl (by decide) (p_pick_t rfl rfl rfl) ?_
                          clear hs a
                          intro a hs
                          refine s_pure hs rfl rfl (by decide) (p_assign rfl rfl) ?_
                          clear hs a
                          intro a hs
                          exact J5 (t118.toList == t123.toList) _ _ (hs.to ⟨rfl, trivial⟩) h
                        · replace h := h.2 hb
                          rw [hb] at hs
                          clear hb
                          refine s_no hs rfl rfl (by decide) ?_
                          clear hs a
                          intro a hs
                          refine s_no hs rfl rfl (by decide) ?_
                          clear hs a
                          intro a hs
                          replace hs := hs.to (τ := [(10, (Sl.val all10_3)), (16, (Sl.val t80x0)), (116, (.bool false)), (118, undef)]) ⟨rfl, rfl, rfl, rfl, trivial⟩
                          refine s_no hs rfl rfl (by decide) ?_
                          clear hs a
                          intro a hs
                          refine s_no hs rfl rfl (by decide) ?_
                          clear hs a
                          intro a hs
                          refine s_no hs rfl rfl (by decide) ?_
                          clear hs a
                          intro a hs
                          refine s_no hs rfl rfl (by decide) ?_
                          clear hs a
                          intro a hs
                          refine s_no hs rfl rfl (by decide) ?_
                          clear hs a
                          intro a hs
                          refine s_no hs rfl rfl (by decide) ?_
                          clear hs a
                          intro a hs
                          refine s_pure hs rfl rfl (by decide) (p_pick_f rfl rfl rfl) ?_
                          clear hs a
                          intro a hs
                          refine s_pure hs rfl rfl (by decide) (p_assign rfl rfl) ?_
                          clear hs a
                          intro a hs
                          exact J5 false _ _ (hs.to ⟨rfl, trivial⟩) h
                  clear hK44
                  refine wp_region_lit ?_
                  refine t_pure hs rfl rfl (by decide) (p_move rfl rfl) ?_
                  clear hs a
                  intro a hs
                  refine t_pure hs rfl rfl (by decide) (p_len rfl rfl sl_33) ?_
                  clear hs a
                  intro a hs
                  refine t_pure hs rfl rfl (by decide) (p_move rfl rfl) ?_
                  clear hs a
                  intro a hs
                  refine t_pure hs rfl rfl (by decide) (p_len rfl rfl sl_33) ?_
                  clear hs a
                  intro a hs
                  refine t_pure hs rfl rfl (by decide) (p_gt rfl rfl rfl) ?_
                  clear hs a
                  intro a hs
                  refine t_pure hs rfl rfl (by decide) (p_move rfl rfl) ?_
                  clear hs a
                  intro a hs
                  refine split_bool (decide ((all10_3.n : Int) < (t80x0.n : Int))) (fun hb => ?_) (fun hb => ?_)
                  · replace h := h.1 hb
                    rw [hb] at hs
                    clear hb
                    refine t_no hs rfl rfl (by decide) ?_
                    clear hs a
                    intro a hs
                    refine t_no hs rfl rfl (by decide) ?_
                    clear hs a
                    intro a hs
                    replace hs := hs.to (τ := [(0, (Sl.val before0)), (9, (Sl.val sure9_2)), (10, (Sl.val all10_3)), (16, (Sl.val t80x0)), (96, (.bool true)), (98, undef)]) ⟨rfl, rfl, rfl, rfl, rfl, rfl, trivial⟩
                    refine t_pure hs rfl rfl (by decide) (p_pick_t rfl rfl rfl) ?_
                    clear hs a
                    intro a hs
                    exact J4 true _ _ (hs.to ⟨rfl, rfl, rfl, rfl, rfl, trivial⟩) h
                  · replace h := h.2 hb
                    rw [hb] at hs
                    clear hb
                    refine t_yes hs rfl ?_
                    refine t_pure hs rfl rfl (by decide) (p_move rfl rfl) ?_
                    clear hs a
                    intro a hs
                    refine t_yes hs rfl ?_
                    refine t_pure hs rfl rfl (by decide) (p_ne rfl rfl rfl) ?_
                    clear hs a
                    intro a hs
                    replace hs := hs.to (τ := [(0, (Sl.val before0)), (9, (Sl.val sure9_2)), (10, (Sl.val all10_3)), (16, (Sl.val t80x0)), (96, (.bool false)), (98, (.bool (decide (t80x1 ≠ 0))))]) ⟨rfl, rfl, rfl, rfl, rfl, rfl, trivial⟩
                    refine t_pure hs rfl rfl (by decide) (p_pick_f rfl rfl rfl) ?_
                    clear hs a
                    intro a hs
                    exact J4 (decide (t80x1 ≠ 0)) _ _ (hs.to ⟨rfl, rfl, rfl, rfl, rfl, trivial⟩) h
    clear hK6
    refine wp_region_lit ?_
    refine t_pure hs rfl rfl (by decide) (p_move rfl rfl) ?_
    clear hs a
    intro a hs
    refine t_pure hs rfl rfl (by decide) (p_len rfl rfl sl_43) ?_
    clear hs a
    intro a hs
    refine t_pure hs rfl rfl (by decide) (p_gt rfl rfl rfl) ?_
    clear hs a
    intro a hs
    refine t_pure hs rfl rfl (by decide) (p_move rfl rfl) ?_
    clear hs a
    intro a hs
    refine split_bool (decide ((50 : Int) < (before0.n : Int))) (fun hb => ?_) (fun hb => ?_)
    · replace h := h.1 hb
      rw [hb] at hs
      clear hb
      refine t_no hs rfl rfl (by decide) ?_
      clear hs a
      intro a hs
      refine t_no hs rfl rfl (by decide) ?_
      clear hs a
      intro a hs
      refine t_no hs rfl rfl (by decide) ?_
      clear hs a
      intro a hs
      refine t_pure hs rfl rfl (by decide) (p_pick_t rfl rfl rfl) ?_
      clear hs a
      intro a hs
      exact J1 true _ _ (hs.to ⟨rfl, rfl, rfl, rfl, trivial⟩) h
    · replace h := h.2 hb
      rw [hb] at hs
      clear hb
      refine t_yes hs rfl ?_
      refine t_pure hs rfl rfl (by decide) (p_move rfl rfl) ?_
      clear hs a
      intro a hs
      refine t_yes hs rfl ?_
      refine t_pure hs rfl rfl (by decide) (p_len rfl rfl sl_43) ?_
      clear hs a
      intro a hs
      refine t_yes hs rfl ?_
      refine t_pure hs rfl rfl (by decide) (p_gt rfl rfl rfl) ?_
      clear hs a
      intro a hs
      refine t_pure hs rfl rfl (by decide) (p_pick_f rfl rfl rfl) ?_
      clear hs a
      intro a hs
      exact J1 (decide ((50 : Int) < (behind1.n : Int))) _ _ (hs.to ⟨rfl, rfl, rfl, rfl, trivial⟩) h
def law03_DiskRoom.s3 (Q : Bool → K) (X1 : Int → K) (room0_3 : Int) (d5_3 : (Option Addr)) (t25_3 : Sl) (t26_3 : Int) (t27_3 : Int) (t82_3 : Bool) : K :=
  Ite t82_3
    (Q false)
    (Ar (IntKind.wrap .i64 (t27_3 + 1)) fun t83 =>
    X1 t83)
def law03_DiskRoom.s2 (Q : Bool → K) (X1 : Int → K) (room0_2 : Int) (d5_2 : (Option Addr)) (t25_2 : Sl) (t26_2 : Int) (t27_2 : Int) (t70_2 : Bool) : K :=
  Ite t70_2
    (Q false)
    (disk_Disk_Used.call d5_2 fun t72 =>
    Ar (bitsOf .and .i64 room0_2 255) fun t74 =>
    Ar (IntKind.wrap .i64 (1 + t74)) fun t75 =>
    Ite (decide (t75 < t72))
      (law03_DiskRoom.s3 Q X1 room0_2 d5_2 t25_2 t26_2 t27_2 true)
      (disk_Disk_Names.call d5_2 fun t79 =>
      law03_DiskRoom.s3 Q X1 room0_2 d5_2 t25_2 t26_2 t27_2 (decide ((32 : Int) < (t79.n : Int)))))
def law03_DiskRoom.b1 (Q : Bool → K)  (X1 : Int → K) (room0_1 : Int) (d5_1 : (Option Addr)) (t25_1 : Sl) (t26_1 : Int) (t27_1 : Int) : K :=
  Ite (decide (t27_1 < t26_1))
    (Idx t25_1 t27_1 6 fun t29 =>
    LdN t29 6 fun t30 =>
    New 57 #[(.int .i64 0), (.int .i64 0), (.string ⟨#[]⟩), (.string ⟨#[]⟩), (Sl.val ⟨none, 0, 0⟩), (Sl.val ⟨none, 0, 0⟩)] fun o8 =>
    StN o8 6 t30 <|
    disk_Disk_Used.call d5_1 fun t32 =>
    disk_Disk_Names.call d5_1 fun t34 =>
    Ld (o8.add 2) Value.string fun t38 =>
    Ld (o8.add 4) Sl.val fun t40 =>
    disk_Disk_Append.call d5_1 t38 t40 fun t41 =>
    Dr <| WithS fun S =>
    Ite (decide (t41 ≠ 0))
      (disk_Disk_Used.call d5_1 fun t46 =>
      Sv S <|
      Ite (decide (t46 ≠ t32))
        (law03_DiskRoom.s2 Q X1 room0_1 d5_1 t25_1 t26_1 t27_1 true)
        (disk_Disk_Names.call d5_1 fun t51 =>
        Sv S <|
        Ite (decide ((t51.n : Int) ≠ (t34.n : Int)))
          (law03_DiskRoom.s2 Q X1 room0_1 d5_1 t25_1 t26_1 t27_1 true)
          (Ite (decide (t41 = 0))
            (LdS S (o8.add 4) Sl.val fun t65 =>
            Ar (IntKind.wrap .i64 (t32 + (t65.n : Int))) fun t67 =>
            disk_Disk_Used.call d5_1 fun t62 =>
            Sv S <|
            law03_DiskRoom.s2 Q X1 room0_1 d5_1 t25_1 t26_1 t27_1 (decide (t62 ≠ t67)))
            (law03_DiskRoom.s2 Q X1 room0_1 d5_1 t25_1 t26_1 t27_1 false))))
      (Ite (decide (t41 = 0))
        (LdS S (o8.add 4) Sl.val fun t65 =>
        Ar (IntKind.wrap .i64 (t32 + (t65.n : Int))) fun t67 =>
        disk_Disk_Used.call d5_1 fun t62 =>
        Sv S <|
        law03_DiskRoom.s2 Q X1 room0_1 d5_1 t25_1 t26_1 t27_1 (decide (t62 ≠ t67)))
        (law03_DiskRoom.s2 Q X1 room0_1 d5_1 t25_1 t26_1 t27_1 false)))
    (Q true)
def law03_DiskRoom (room0 : Int) (script1 : Sl) (Q : Bool → K) : K :=
  law03_speaks.call  fun t12 =>
  Ite (!t12)
    (Q false)
    (law03_great.call script1 fun t15 =>
    Ite t15
      (Q true)
      (Ar (bitsOf .and .i64 room0 255) fun t18 =>
      Ar (IntKind.wrap .i64 (1 + t18)) fun t19 =>
      disk_New.call t19 fun t20x0 t20x1 =>
      Ite ((t20x0).isNone)
        (Q false)
        (LoopK (α := Int) (fun X x => law03_DiskRoom.b1 Q X room0 t20x0 script1 (script1.n : Int) x) 0)))
theorem law03_DiskRoom_ok (room0 : Int) (script1 : Sl) (Q : Bool → K) (w : World) (h : law03_DiskRoom room0 script1 Q w) : law03_DiskRoom.call room0 script1 Q w := by
  unfold law03_DiskRoom.call CallF
  refine f_start (args := [(.int .i64 room0), (Sl.val script1)]) Try.func5 rfl (Nat.le_of_ble_eq_true rfl) ?_
  intro a hs
  unfold law03_DiskRoom at h
  refine wp_seq_k fun K1 hK1 => ?_
  refine wp_region_lit ?_
  refine t_pure hs rfl rfl (by decide) (p_assign rfl rfl) ?_
  clear hs a
  intro a hs
  refine hK1 _ _ ?_
  refine wp_seq_k fun K2 hK2 => ?_
  refine wp_seq_k fun K3 hK3 => ?_
  refine wp_region_lit ?_
  refine t_call hs rfl rfl (by decide) (e_call rfl rfl rfl cb_20) h ?_
  clear hs a h
  intro v a w hk hs
  obtain ⟨t12, rfl, h⟩ := hk
  refine t_pure hs rfl rfl (by decide) (p_not rfl rfl) ?_
  clear hs a
  intro a hs
  refine hK3 _ _ ?_
  refine c_cond hs rfl (fun hb => ?_) (fun hb => ?_)
  · replace h := h.1 hb
    clear hb
    refine wp_seq_k fun K4 hK4 => ?_
    refine wp_region_lit ?_
    refine t_pure hs rfl rfl (by decide) (p_assign rfl rfl) ?_
    clear hs a
    intro a hs
    refine hK4 _ _ ?_
    refine wp_ret ?_
    refine f_ret (fn := Try.f5) hs (fun a hs => r_one hs rfl (rfl)) ⟨false, rfl, h⟩
  · replace h := h.2 hb
    clear hb
    refine wp_skip ?_
    refine hK2 _ _ ?_
    refine wp_seq_k fun K5 hK5 => ?_
    refine wp_seq_k fun K6 hK6 => ?_
    refine wp_region_lit ?_
    refine t_pure hs rfl rfl (by decide) (p_move rfl rfl) ?_
    clear hs a
    intro a hs
    refine t_call hs rfl rfl (by decide) (e_call rfl rfl rfl cb_26) h ?_
    clear hs a h
    intro v a w hk hs
    obtain ⟨t15, rfl, h⟩ := hk
    refine hK6 _ _ ?_
    refine c_cond hs rfl (fun hb => ?_) (fun hb => ?_)
    · replace h := h.1 hb
      clear hb
      refine wp_seq_k fun K7 hK7 => ?_
      refine wp_region_lit ?_
      refine t_pure hs rfl rfl (by decide) (p_assign rfl rfl) ?_
      clear hs a
      intro a hs
      refine hK7 _ _ ?_
      refine wp_ret ?_
      refine f_ret (fn := Try.f5) hs (fun a hs => r_one hs rfl (rfl)) ⟨true, rfl, h⟩
    · replace h := h.2 hb
      clear hb
      refine wp_skip ?_
      refine hK5 _ _ ?_
      refine wp_seq_k fun K8 hK8 => ?_
      refine wp_region_lit ?_
      refine t_pure hs rfl rfl (by decide) (p_move rfl rfl) ?_
      clear hs a
      intro a hs
      obtain ⟨t18, he, h⟩ := h
      refine t_pure hs rfl rfl (by decide) (Pure.int he (p_and rfl rfl rfl)) ?_
      clear hs a he
      intro a hs
      obtain ⟨t19, he, h⟩ := h
      refine t_pure hs rfl rfl (by decide) (Pure.int he (p_add rfl rfl rfl)) ?_
      clear hs a he
      intro a hs
      refine t_call hs rfl rfl (by decide) (e_call rfl rfl rfl cb_21) h ?_
      clear hs a h
      intro v a w hk hs
      obtain ⟨t20x0, t20x1, rfl, h⟩ := hk
      refine t_pure hs rfl rfl (by decide) (p_move rfl rfl) ?_
      clear hs a
      intro a hs
      refine t_pure hs rfl rfl (by decide) (p_extract rfl rfl rfl) ?_
      clear hs a
      intro a hs
      refine t_pure hs rfl rfl (by decide) (p_extract rfl rfl rfl) ?_
      clear hs a
      intro a hs
      refine t_pure hs rfl rfl (by decide) (p_assign rfl rfl) ?_
      clear hs a
      intro a hs
      replace hs := hs.to (τ := [(0, (.int .i64 room0)), (1, (Sl.val script1)), (5, (.pointer t20x0)), (22, (.int .i64 t20x1))]) ⟨rfl, rfl, rfl, rfl, trivial⟩
      refine t_pure hs rfl rfl (by decide) (p_assign rfl rfl) ?_
      clear hs a
      intro a hs
      refine hK8 _ _ ?_
      refine wp_seq_k fun K9 hK9 => ?_
      refine wp_seq_k fun K10 hK10 => ?_
      refine wp_region_lit ?_
      refine t_pure hs rfl rfl (by decide) (p_move rfl rfl) ?_
      clear hs a
      intro a hs
      refine t_pure hs rfl rfl (by decide) (p_eq_nil rfl rfl rfl Try.underlying45) ?_
      clear hs a
      intro a hs
      refine hK10 _ _ ?_
      refine c_cond hs rfl (fun hb => ?_) (fun hb => ?_)
      · replace h := h.1 hb
        clear hb
        refine wp_seq_k fun K11 hK11 => ?_
        refine wp_region_lit ?_
        refine t_pure hs rfl rfl (by decide) (p_assign rfl rfl) ?_
        clear hs a
        intro a hs
        refine hK11 _ _ ?_
        refine wp_ret ?_
        refine f_ret (fn := Try.f5) hs (fun a hs => r_one hs rfl (rfl)) ⟨false, rfl, h⟩
      · replace h := h.2 hb
        clear hb
        refine wp_skip ?_
        refine hK9 _ _ ?_
        refine wp_seq_k fun K12 hK12 => ?_
        refine wp_seq_k fun K13 hK13 => ?_
        refine wp_region_lit ?_
        refine t_pure hs rfl rfl (by decide) (p_move rfl rfl) ?_
        clear hs a
        intro a hs
        refine t_pure hs rfl rfl (by decide) (p_len rfl rfl sl_54) ?_
        clear hs a
        intro a hs
        refine t_pure hs rfl rfl (by decide) (p_move rfl rfl) ?_
        clear hs a
        intro a hs
        refine hK13 _ _ ?_
        refine wp_block ?_
        obtain ⟨I1, μ1, h0, hr⟩ := h
        refine c_loop (α := Int) I1 μ1 (fun x a => Slots a 84 [(0, (.int .i64 room0)), (5, (.pointer t20x0)), (25, (Sl.val script1)), (26, (.int .i64 (script1.n : Int))), (27, (.int .i64 x))]) 0 h0 (hs.to ⟨rfl, rfl, rfl, rfl, rfl, trivial⟩) ?_
        clear h0 hs a
        intro t27_1 a w hI hs
        have h : law03_DiskRoom.b1 Q (fun t27_1n w' => I1 t27_1n w' ∧ μ1 t27_1n w' < μ1 t27_1 w) room0 t20x0 script1 (script1.n : Int) t27_1 w := hr t27_1 w hI
        clear hr hI
        generalize hX1 : (fun t27_1n w' => I1 t27_1n w' ∧ μ1 t27_1n w' < μ1 t27_1 w) = X1 at h
        unfold law03_DiskRoom.b1 at h
        replace hs : Slots a 84 [(0, (.int .i64 room0)), (5, (.pointer t20x0)), (25, (Sl.val script1)), (26, (.int .i64 (script1.n : Int))), (27, (.int .i64 t27_1))] := hs
        refine wp_seq_k fun K14 hK14 => ?_
        refine wp_region_lit ?_
        refine t_pure hs rfl rfl (by decide) (p_lt rfl rfl rfl) ?_
        clear hs a
        intro a hs
        refine hK14 _ _ ?_
        refine wp_seq_k fun K15 hK15 => ?_
        refine c_cond hs rfl (fun hb => ?_) (fun hb => ?_)
        · replace h := h.1 hb
          clear hb
          refine wp_skip ?_
          refine hK15 _ _ ?_
          refine wp_seq_k fun K16 hK16 => ?_
          refine wp_block ?_
          refine wp_seq_k fun K17 hK17 => ?_
          refine wp_region_lit ?_
          obtain ⟨qt29, t29, ha, h0, h1, he, h⟩ := h
          refine t_pure hs rfl rfl (by decide) (Pure.adr he (p_idx rfl rfl rfl sl_54 ha h0 h1)) ?_
          clear hs a ha h0 h1 he
          intro a hs
          obtain ⟨t30, hn, hv, h⟩ := h
          refine t_eff hs rfl rfl (by decide) (e_loadN rfl rfl at_57 hn hv) ?_
          clear hs a hn hv
          intro a hs
          obtain ⟨o8, w1, ha, hw, h⟩ := h
          refine t_eff hs rfl rfl (by decide) (e_alloc rfl zt_57 rfl ha hw) ?_
          clear hs a ha hw
          intro a hs
          obtain ⟨w1, hw, hn, hc, hv, h⟩ := h
          refine t_skip hs rfl rfl (e_storeN rfl rfl rfl sz_57 hw hn hc hv) ?_
          clear hs a hw hn hc hv
          intro a hs
          refine hK17 _ _ ?_
          refine wp_seq_k fun K18 hK18 => ?_
          refine wp_region_lit ?_
          refine t_pure hs rfl rfl (by decide) (p_move rfl rfl) ?_
          clear hs a
          intro a hs
          refine t_call hs rfl rfl (by decide) (e_call rfl rfl rfl cb_27) h ?_
          clear hs a h
          intro v a w hk hs
          obtain ⟨t32, rfl, h⟩ := hk
          refine t_pure hs rfl rfl (by decide) (p_move rfl rfl) ?_
          clear hs a
          intro a hs
          refine t_call hs rfl rfl (by decide) (e_call rfl rfl rfl cb_28) h ?_
          clear hs a h
          intro v a w hk hs
          obtain ⟨t34, rfl, h⟩ := hk
          refine t_pure hs rfl rfl (by decide) (p_len rfl rfl sl_59) ?_
          clear hs a
          intro a hs
          refine t_pure hs rfl rfl (by decide) (p_assign rfl rfl) ?_
          clear hs a
          intro a hs
          refine t_pure hs rfl rfl (by decide) (p_assign rfl rfl) ?_
          clear hs a
          intro a hs
          refine hK18 _ _ ?_
          refine wp_seq_k fun K19 hK19 => ?_
          refine wp_region_lit ?_
          refine t_pure hs rfl rfl (by decide) (p_move rfl rfl) ?_
          clear hs a
          intro a hs
          refine t_pure hs rfl rfl (by decide) (p_fieldAddr rfl rfl ft_57_2) ?_
          clear hs a
          intro a hs
          obtain ⟨t38, hv, h⟩ := h
          refine t_eff hs rfl rfl (by decide) (e_load rfl rfl ct_9 hv) ?_
          clear hs a hv
          intro a hs
          refine t_pure hs rfl rfl (by decide) (p_fieldAddr rfl rfl ft_57_4) ?_
          clear hs a
          intro a hs
          obtain ⟨t40, hv, h⟩ := h
          refine t_eff hs rfl rfl (by decide) (e_load rfl rfl ct_33 hv) ?_
          clear hs a hv
          intro a hs
          refine t_call hs rfl rfl (by decide) (e_call rfl rfl rfl cb_22) h ?_
          clear hs a h
          intro v a w hk hs
          obtain ⟨t41, rfl, h⟩ := hk
          refine t_pure hs rfl rfl (by decide) (p_assign rfl rfl) ?_
          clear hs a
          intro a hs
          refine hK19 _ _ ?_
          refine wp_seq_k fun K20 hK20 => ?_
          refine wp_seq_k fun K21 hK21 => ?_
          have J2 : ∀ (t70_2 : Bool) (a : Act) (w : World), Slots a 84 [(0, (.int .i64 room0)), (5, (.pointer t20x0)), (25, (Sl.val script1)), (26, (.int .i64 (script1.n : Int))), (27, (.int .i64 t27_1)), (70, (.bool t70_2))] → law03_DiskRoom.s2 Q X1 room0 t20x0 script1 (script1.n : Int) t27_1 t70_2 w → K21 a w := by
            clear h hs
            intro t70_2 a w hs h
            refine hK21 _ _ ?_
            unfold law03_DiskRoom.s2 at h
            refine c_cond hs rfl (fun hb => ?_) (fun hb => ?_)
            · replace h := h.1 hb
              clear hb
              refine wp_seq_k fun K22 hK22 => ?_
              refine wp_region_lit ?_
              refine t_pure hs rfl rfl (by decide) (p_assign rfl rfl) ?_
              clear hs a
              intro a hs
              refine hK22 _ _ ?_
              refine wp_ret ?_
              refine f_ret (fn := Try.f5) hs (fun a hs => r_one hs rfl (rfl)) ⟨false, rfl, h⟩
            · replace h := h.2 hb
              clear hb
              refine wp_skip ?_
              refine hK20 _ _ ?_
              refine wp_seq_k fun K23 hK23 => ?_
              have J3 : ∀ (t82_3 : Bool) (a : Act) (w : World), Slots a 84 [(0, (.int .i64 room0)), (5, (.pointer t20x0)), (25, (Sl.val script1)), (26, (.int .i64 (script1.n : Int))), (27, (.int .i64 t27_1)), (82, (.bool t82_3))] → law03_DiskRoom.s3 Q X1 room0 t20x0 script1 (script1.n : Int) t27_1 t82_3 w → K23 a w := by
                clear h hs
                intro t82_3 a w hs h
                refine hK23 _ _ ?_
                unfold law03_DiskRoom.s3 at h
                refine c_cond hs rfl (fun hb => ?_) (fun hb => ?_)
                · replace h := h.1 hb
                  clear hb
                  refine wp_seq_k fun K24 hK24 => ?_
                  refine wp_region_lit ?_
                  refine t_pure hs rfl rfl (by decide) (p_assign rfl rfl) ?_
                  clear hs a
                  intro a hs
                  refine hK24 _ _ ?_
                  refine wp_ret ?_
                  refine f_ret (fn := Try.f5) hs (fun a hs => r_one hs rfl (rfl)) ⟨false, rfl, h⟩
                · replace h := h.2 hb
                  clear hb
                  refine wp_skip ?_
                  refine hK16 _ _ ?_
                  refine wp_region_lit ?_
                  obtain ⟨t83, he, h⟩ := h
                  refine t_pure hs rfl rfl (by decide) (Pure.int he (p_add rfl rfl rfl)) ?_
                  clear hs a he
                  intro a hs
                  refine t_pure hs rfl rfl (by decide) (p_move rfl rfl) ?_
                  clear hs a
                  intro a hs
                  rw [← hX1] at h
                  exact ⟨t83, hs.to ⟨rfl, rfl, rfl, rfl, rfl, trivial⟩, h⟩
              clear hK23
              refine wp_region_lit ?_
              refine t_pure hs rfl rfl (by decide) (p_move rfl rfl) ?_
              clear hs a
              intro a hs
              refine t_call hs rfl rfl (by decide) (e_call rfl rfl rfl cb_27) h ?_
              clear hs a h
              intro v a w hk hs
              obtain ⟨t72, rfl, h⟩ := hk
              refine t_pure hs rfl rfl (by decide) (p_move rfl rfl) ?_
              clear hs a
              intro a hs
              obtain ⟨t74, he, h⟩ := h
              refine t_pure hs rfl rfl (by decide) (Pure.int he (p_and rfl rfl rfl)) ?_
              clear hs a he
              intro a hs
              obtain ⟨t75, he, h⟩ := h
              refine t_pure hs rfl rfl (by decide) (Pure.int he (p_add rfl rfl rfl)) ?_
              clear hs a he
              intro a hs
              refine t_pure hs rfl rfl (by decide) (p_gt rfl rfl rfl) ?_
              clear hs a
              intro a hs
              refine t_pure hs rfl rfl (by decide) (p_move rfl rfl) ?_
              clear hs a
              intro a hs
              refine split_bool (decide (t75 < t72)) (fun hb => ?_) (fun hb => ?_)
              · replace h := h.1 hb
                rw [hb] at hs
                clear hb
                refine t_no hs rfl rfl (by decide) ?_
                clear hs a
                intro a hs
                replace hs := hs.to (τ := [(0, (.int .i64 room0)), (5, (.pointer t20x0)), (25, (Sl.val script1)), (26, (.int .i64 (script1.n : Int))), (27, (.int .i64 t27_1)), (77, (.bool true)), (78, undef)]) ⟨rfl, rfl, rfl, rfl, rfl, rfl, rfl, trivial⟩
                refine t_no hs rfl rfl (by decide) ?_
                clear hs a
                intro a hs
                refine t_no hs rfl rfl (by decide) ?_
                clear hs a
                intro a hs
                refine t_no hs rfl rfl (by decide) ?_
                clear hs a
                intro a hs
                refine t_pure hs rfl rfl (by decide) (p_pick_t rfl rfl rfl) ?_
                clear hs a
                intro a hs
                exact J3 true _ _ (hs.to ⟨rfl, rfl, rfl, rfl, rfl, rfl, trivial⟩) h
              · replace h := h.2 hb
                rw [hb] at hs
                clear hb
                refine t_yes hs rfl ?_
                refine t_pure hs rfl rfl (by decide) (p_move rfl rfl) ?_
                clear hs a
                intro a hs
                replace hs := hs.to (τ := [(0, (.int .i64 room0)), (5, (.pointer t20x0)), (25, (Sl.val script1)), (26, (.int .i64 (script1.n : Int))), (27, (.int .i64 t27_1)), (77, (.bool false)), (78, (.pointer t20x0))]) ⟨rfl, rfl, rfl, rfl, rfl, rfl, rfl, trivial⟩
                refine t_yes hs rfl ?_
                refine t_call hs rfl rfl (by decide) (e_call rfl rfl rfl cb_28) h ?_
                clear hs a h
                intro v a w hk hs
                obtain ⟨t79, rfl, h⟩ := hk
                refine t_yes hs rfl ?_
                refine t_pure hs rfl rfl (by decide) (p_len rfl rfl sl_59) ?_
                clear hs a
                intro a hs
                refine t_yes hs rfl ?_
                refine t_pure hs rfl rfl (by decide) (p_gt rfl rfl rfl) ?_
                clear hs a
                intro a hs
                refine t_pure hs rfl rfl (by decide) (p_pick_f rfl rfl rfl) ?_
                clear hs a
                intro a hs
                exact J3 (decide ((32 : Int) < (t79.n : Int))) _ _ (hs.to ⟨rfl, rfl, rfl, rfl, rfl, rfl, trivial⟩) h
          clear hK21
          obtain ⟨w1, hw1, h⟩ := h
          obtain ⟨S, hS, h⟩ := h
          subst hw1
          refine d_start (S := S) (ds := []) #[false, false, false, false, false, false, false, false, false, false, false, false, false, false, false, false, false, false, false, false, false, false, false, false, false, false, false, false, false] mixed rfl rfl ?_
          refine d_pure hs #[true, false, false, false, false, false, false, false, false, false, false, false, false, false, false, false, false, false, false, false, false, false, false, false, false, false, false, false, false] (i := 0) rfl rfl rfl (by decide) (by kernel_rfl) (tight_body (P := Try.prog) (fn := Try.f5)) (p_move rfl rfl) ?_
          clear hs a
          intro a hs
          refine d_pure hs #[true, true, false, false, false, false, false, false, false, false, false, false, false, false, false, false, false, false, false, false, false, false, false, false, false, false, false, false, false] (i := 1) rfl rfl rfl (by decide) (by kernel_rfl) (tight_body (P := Try.prog) (fn := Try.f5)) (p_ne rfl rfl rfl) ?_
          clear hs a
          intro a hs
          refine d_pure hs #[true, true, true, false, false, false, false, false, false, false, false, false, false, false, false, false, false, false, false, false, false, false, false, false, false, false, false, false, false] (i := 2) rfl rfl rfl (by decide) (by kernel_rfl) (tight_body (P := Try.prog) (fn := Try.f5)) (p_move rfl rfl) ?_
          clear hs a
          intro a hs
          refine split_bool (decide (t41 ≠ 0)) (fun hb => ?_) (fun hb => ?_)
          · replace h := h.1 hb
            rw [hb] at hs
            clear hb
            refine d_pure hs #[true, true, true, true, false, false, false, false, false, false, false, false, false, false, false, false, false, false, false, false, false, false, false, false, false, false, false, false, false] (i := 3) rfl rfl rfl (by decide) (by kernel_rfl) (tight_body (P := Try.prog) (fn := Try.f5)) (p_move rfl rfl) ?_
            clear hs a
            intro a hs
            refine d_pure hs #[true, true, true, true, false, true, false, false, false, false, false, false, false, false, false, false, false, false, false, false, false, false, false, false, false, false, false, false, false] (i := 5) rfl rfl rfl (by decide) (by kernel_rfl) (tight_body (P := Try.prog) (fn := Try.f5)) (p_move rfl rfl) ?_
            clear hs a
            intro a hs
            refine d_all [4] (by kernel_rfl) (by decide) ?_
            refine AllS.cons ?_ AllS.nil
            refine d_call hs #[true, true, true, true, true, true, false, false, false, false, false, false, false, false, false, false, false, false, false, false, false, false, false, false, false, false, false, false, false] (i := 4) rfl rfl rfl (by decide) rfl (e_call rfl rfl rfl cb_27) h (fun v w'' hk => by obtain ⟨t46, _, hS, _⟩ := hk; exact fun _ _ => hS) ?_
            clear hs a h
            intro v a w hk hs
            obtain ⟨t46, rfl, h⟩ := hk
            obtain ⟨hS, h⟩ := h
            refine d_pure hs #[true, true, true, true, true, true, true, false, false, false, false, false, false, false, false, false, false, false, false, false, false, false, false, false, false, false, false, false, false] (i := 6) rfl rfl rfl (by decide) (by kernel_rfl) (tight_body (P := Try.prog) (fn := Try.f5)) (p_ne rfl rfl rfl) ?_
            clear hs a
            intro a hs
            refine d_pure hs #[true, true, true, true, true, true, true, true, false, false, false, false, false, false, false, false, false, false, false, false, false, false, false, false, false, false, false, false, false] (i := 7) rfl rfl rfl (by decide) (by kernel_rfl) (tight_body (P := Try.prog) (fn := Try.f5)) (p_move rfl rfl) ?_
            clear hs a
            intro a hs
            replace hs := hs.to (τ := [(0, (.int .i64 room0)), (5, (.pointer t20x0)), (8, (.pointer (some o8))), (9, (.int .i64 t32)), (10, (.int .i64 (t34.n : Int))), (11, (.int .i64 t41)), (25, (Sl.val script1)), (26, (.int .i64 (script1.n : Int))), (27, (.int .i64 t27_1)), (44, (.bool true)), (49, (.bool (decide (t46 ≠ t32))))]) ⟨rfl, rfl, rfl, rfl, rfl, rfl, rfl, rfl, rfl, rfl, rfl, trivial⟩
            refine split_bool (decide (t46 ≠ t32)) (fun hb => ?_) (fun hb => ?_)
            · replace h := h.1 hb
              rw [hb] at hs
              clear hb
              refine d_no hs #[true, true, true, true, true, true, true, true, true, false, false, false, false, false, false, false, false, false, false, false, false, false, false, false, false, false, false, false, false] (i := 8) rfl rfl rfl (by decide) (by kernel_rfl) (tight_body (P := Try.prog) (fn := Try.f5)) ?_
              clear hs a
              intro a hs
              refine d_no hs #[true, true, true, true, true, true, true, true, true, true, false, false, false, false, false, false, false, false, false, false, false, false, false, false, false, false, false, false, false] (i := 9) rfl rfl rfl (by decide) (by kernel_rfl) (tight_body (P := Try.prog) (fn := Try.f5)) ?_
              clear hs a
              intro a hs
              refine d_no hs #[true, true, true, true, true, true, true, true, true, true, true, false, false, false, false, false, false, false, false, false, false, false, false, false, false, false, false, false, false] (i := 10) rfl rfl rfl (by decide) (by kernel_rfl) (tight_body (P := Try.prog) (fn := Try.f5)) ?_
              clear hs a
              intro a hs
              refine d_no hs #[true, true, true, true, true, true, true, true, true, true, true, true, false, false, false, false, false, false, false, false, false, false, false, false, false, false, false, false, false] (i := 11) rfl rfl rfl (by decide) (by kernel_rfl) (tight_body (P := Try.prog) (fn := Try.f5)) ?_
              clear hs a
              intro a hs
              refine d_no hs #[true, true, true, true, true, true, true, true, true, true, true, true, true, false, false, false, false, false, false, false, false, false, false, false, false, false, false, false, false] (i := 12) rfl rfl rfl (by decide) (by kernel_rfl) (tight_body (P := Try.prog) (fn := Try.f5)) ?_
              clear hs a
              intro a hs
              refine d_pure hs #[true, true, true, true, true, true, true, true, true, true, true, true, true, true, false, false, false, false, false, false, false, false, false, false, false, false, false, false, false] (i := 13) rfl rfl rfl (by decide) (by kernel_rfl) (tight_body (P := Try.prog) (fn := Try.f5)) (p_pick_t rfl rfl rfl) ?_
              clear hs a
              intro a hs
              refine d_pure hs #[true, true, true, true, true, true, true, true, true, true, true, true, true, true, true, false, false, false, false, false, false, false, false, false, false, false, false, false, false] (i := 14) rfl rfl rfl (by decide) (by kernel_rfl) (tight_body (P := Try.prog) (fn := Try.f5)) (p_pick_t rfl rfl rfl) ?_
              clear hs a
              intro a hs
              refine d_pure hs #[true, true, true, true, true, true, true, true, true, true, true, true, true, true, true, true, false, false, false, false, false, false, false, false, false, false, false, false, false] (i := 15) rfl rfl rfl (by decide) (by kernel_rfl) (tight_body (P := Try.prog) (fn := Try.f5)) (p_move rfl rfl) ?_
              clear hs a
              intro a hs
              replace hs := hs.to (τ := [(0, (.int .i64 room0)), (5, (.pointer t20x0)), (8, (.pointer (some o8))), (9, (.int .i64 t32)), (11, (.int .i64 t41)), (25, (Sl.val script1)), (26, (.int .i64 (script1.n : Int))), (27, (.int .i64 t27_1)), (57, (.bool true))]) ⟨rfl, rfl, rfl, rfl, rfl, rfl, rfl, rfl, rfl, trivial⟩
              refine d_no hs #[true, true, true, true, true, true, true, true, true, true, true, true, true, true, true, true, true, false, false, false, false, false, false, false, false, false, false, false, false] (i := 16) rfl rfl rfl (by decide) (by kernel_rfl) (tight_body (P := Try.prog) (fn := Try.f5)) ?_
              clear hs a
              intro a hs
              refine d_no hs #[true, true, true, true, true, true, true, true, true, true, true, true, true, true, true, true, true, true, false, false, false, false, false, false, false, false, false, false, false] (i := 17) rfl rfl rfl (by decide) (by kernel_rfl) (tight_body (P := Try.prog) (fn := Try.f5)) ?_
              clear hs a
              intro a hs
              refine d_no hs #[true, true, true, true, true, true, true, true, true, true, true, true, true, true, true, true, true, true, true, false, false, false, false, false, false, false, false, false, false] (i := 18) rfl rfl rfl (by decide) (by kernel_rfl) (tight_body (P := Try.prog) (fn := Try.f5)) ?_
              clear hs a
              intro a hs
              refine d_no hs #[true, true, true, true, true, true, true, true, true, true, true, true, true, true, true, true, true, true, true, true, false, false, false, false, false, false, false, false, false] (i := 19) rfl rfl rfl (by decide) (by kernel_rfl) (tight_body (P := Try.prog) (fn := Try.f5)) ?_
              clear hs a
              intro a hs
              refine d_no hs #[true, true, true, true, true, true, true, true, true, true, true, true, true, true, true, true, true, true, true, true, true, false, false, false, false, false, false, false, false] (i := 20) rfl rfl rfl (by decide) (by kernel_rfl) (tight_body (P := Try.prog) (fn := Try.f5)) ?_
              clear hs a
              intro a hs
              refine d_no hs #[true, true, true, true, true, true, true, true, true, true, true, true, true, true, true, true, true, true, true, true, true, true, false, false, false, false, false, false, false] (i := 21) rfl rfl rfl (by decide) (by kernel_rfl) (tight_body (P := Try.prog) (fn := Try.f5)) ?_
              clear hs a
              intro a hs
              refine d_no hs #[true, true, true, true, true, true, true, true, true, true, true, true, true, true, true, true, true, true, true, true, true, true, true, false, false, false, false, false, false] (i := 22) rfl rfl rfl (by decide) (by kernel_rfl) (tight_body (P := Try.prog) (fn := Try.f5)) ?_
              clear hs a
              intro a hs
              refine d_no hs #[true, true, true, true, true, true, true, true, true, true, true, true, true, true, true, true, true, true, true, true, true, true, true, true, false, false, false, false, false] (i := 23) rfl rfl rfl (by decide) (by kernel_rfl) (tight_body (P := Try.prog) (fn := Try.f5)) ?_
              clear hs a
              intro a hs
              replace hs := hs.to (τ := [(0, (.int .i64 room0)), (5, (.pointer t20x0)), (25, (Sl.val script1)), (26, (.int .i64 (script1.n : Int))), (27, (.int .i64 t27_1)), (57, (.bool true)), (60, undef), (62, undef), (63, undef), (65, undef)]) ⟨rfl, rfl, rfl, rfl, rfl, rfl, rfl, rfl, rfl, rfl, trivial⟩
              refine d_no hs #[true, true, true, true, true, true, true, true, true, true, true, true, true, true, true, true, true, true, true, true, true, true, true, true, true, false, false, false, false] (i := 24) rfl rfl rfl (by decide) (by kernel_rfl) (tight_body (P := Try.prog) (fn := Try.f5)) ?_
              clear hs a
              intro a hs
              refine d_no hs #[true, true, true, true, true, true, true, true, true, true, true, true, true, true, true, true, true, true, true, true, true, true, true, true, true, true, false, false, false] (i := 25) rfl rfl rfl (by decide) (by kernel_rfl) (tight_body (P := Try.prog) (fn := Try.f5)) ?_
              clear hs a
              intro a hs
              refine d_no hs #[true, true, true, true, true, true, true, true, true, true, true, true, true, true, true, true, true, true, true, true, true, true, true, true, true, true, true, false, false] (i := 26) rfl rfl rfl (by decide) (by kernel_rfl) (tight_body (P := Try.prog) (fn := Try.f5)) ?_
              clear hs a
              intro a hs
              refine d_no hs #[true, true, true, true, true, true, true, true, true, true, true, true, true, true, true, true, true, true, true, true, true, true, true, true, true, true, true, true, false] (i := 27) rfl rfl rfl (by decide) (by kernel_rfl) (tight_body (P := Try.prog) (fn := Try.f5)) ?_
              clear hs a
              intro a hs
              refine d_pure hs #[true, true, true, true, true, true, true, true, true, true, true, true, true, true, true, true, true, true, true, true, true, true, true, true, true, true, true, true, true] (i := 28) rfl rfl rfl (by decide) (by kernel_rfl) (tight_body (P := Try.prog) (fn := Try.f5)) (p_pick_t rfl rfl rfl) ?_
              clear hs a
              intro a hs
              refine d_done (by kernel_rfl) ?_ _
              clear hS
              exact J2 true _ _ (hs.to ⟨rfl, rfl, rfl, rfl, rfl, rfl, trivial⟩) h
            · replace h := h.2 hb
              rw [hb] at hs
              clear hb
              refine d_pure hs #[true, true, true, true, true, true, true, true, true, false, false, false, false, false, false, false, false, false, false, false, false, false, false, false, false, false, false, false, false] (i := 8) rfl rfl rfl (by decide) (by kernel_rfl) (tight_body (P := Try.prog) (fn := Try.f5)) (p_move rfl rfl) ?_
              clear hs a
              intro a hs
              refine d_pure hs #[true, true, true, true, true, true, true, true, true, false, false, true, false, false, false, false, false, false, false, false, false, false, false, false, false, false, false, false, false] (i := 11) rfl rfl rfl (by decide) (by kernel_rfl) (tight_body (P := Try.prog) (fn := Try.f5)) (p_move rfl rfl) ?_
              clear hs a
              intro a hs
              refine d_all [9] (by kernel_rfl) (by decide) ?_
              refine AllS.cons ?_ AllS.nil
              refine d_call hs #[true, true, true, true, true, true, true, true, true, true, false, true, false, false, false, false, false, false, false, false, false, false, false, false, false, false, false, false, false] (i := 9) rfl rfl rfl (by decide) rfl (e_call rfl rfl rfl cb_28) h (fun v w'' hk => by obtain ⟨t51, _, hS, _⟩ := hk; exact fun _ _ => hS) ?_
              clear hs a h
              intro v a w hk hs
              obtain ⟨t51, rfl, h⟩ := hk
              obtain ⟨hS, h⟩ := h
              refine d_pure hs #[true, true, true, true, true, true, true, true, true, true, true, true, false, false, false, false, false, false, false, false, false, false, false, false, false, false, false, false, false] (i := 10) rfl rfl rfl (by decide) (by kernel_rfl) (tight_body (P := Try.prog) (fn := Try.f5)) (p_len rfl rfl sl_59) ?_
              clear hs a
              intro a hs
              refine d_pure hs #[true, true, true, true, true, true, true, true, true, true, true, true, true, false, false, false, false, false, false, false, false, false, false, false, false, false, false, false, false] (i := 12) rfl rfl rfl (by decide) (by kernel_rfl) (tight_body (P := Try.prog) (fn := Try.f5)) (p_ne rfl rfl rfl) ?_
              clear hs a
              intro a hs
              refine d_pure hs #[true, true, true, true, true, true, true, true, true, true, true, true, true, true, false, false, false, false, false, false, false, false, false, false, false, false, false, false, false] (i := 13) rfl rfl rfl (by decide) (by kernel_rfl) (tight_body (P := Try.prog) (fn := Try.f5)) (p_pick_f rfl rfl rfl) ?_
              clear hs a
              intro a hs
              refine d_pure hs #[true, true, true, true, true, true, true, true, true, true, true, true, true, true, true, false, false, false, false, false, false, false, false, false, false, false, false, false, false] (i := 14) rfl rfl rfl (by decide) (by kernel_rfl) (tight_body (P := Try.prog) (fn := Try.f5)) (p_pick_t rfl rfl rfl) ?_
              clear hs a
              intro a hs
              refine d_pure hs #[true, true, true, true, true, true, true, true, true, true, true, true, true, true, true, true, false, false, false, false, false, false, false, false, false, false, false, false, false] (i := 15) rfl rfl rfl (by decide) (by kernel_rfl) (tight_body (P := Try.prog) (fn := Try.f5)) (p_move rfl rfl) ?_
              clear hs a
              intro a hs
              replace hs := hs.to (τ := [(0, (.int .i64 room0)), (5, (.pointer t20x0)), (8, (.pointer (some o8))), (9, (.int .i64 t32)), (11, (.int .i64 t41)), (25, (Sl.val script1)), (26, (.int .i64 (script1.n : Int))), (27, (.int .i64 t27_1)), (57, (.bool (decide ((t51.n : Int) ≠ (t34.n : Int)))))]) ⟨rfl, rfl, rfl, rfl, rfl, rfl, rfl, rfl, rfl, trivial⟩
              refine split_bool (decide ((t51.n : Int) ≠ (t34.n : Int))) (fun hb => ?_) (fun hb => ?_)
              · replace h := h.1 hb
                rw [hb] at hs
                clear hb
                refine d_no hs #[true, true, true, true, true, true, true, true, true, true, true, true, true, true, true, true, true, false, false, false, false, false, false, false, false, false, false, false, false] (i := 16) rfl rfl rfl (by decide) (by kernel_rfl) (tight_body (P := Try.prog) (fn := Try.f5)) ?_
                clear hs a
                intro a hs
                refine d_no hs #[true, true, true, true, true, true, true, true, true, true, true, true, true, true, true, true, true, true, false, false, false, false, false, false, false, false, false, false, false] (i := 17) rfl rfl rfl (by decide) (by kernel_rfl) (tight_body (P := Try.prog) (fn := Try.f5)) ?_
                clear hs a
                intro a hs
                refine d_no hs #[true, true, true, true, true, true, true, true, true, true, true, true, true, true, true, true, true, true, true, false, false, false, false, false, false, false, false, false, false] (i := 18) rfl rfl rfl (by decide) (by kernel_rfl) (tight_body (P := Try.prog) (fn := Try.f5)) ?_
                clear hs a
                intro a hs
                refine d_no hs #[true, true, true, true, true, true, true, true, true, true, true, true, true, true, true, true, true, true, true, true, false, false, false, false, false, false, false, false, false] (i := 19) rfl rfl rfl (by decide) (by kernel_rfl) (tight_body (P := Try.prog) (fn := Try.f5)) ?_
                clear hs a
                intro a hs
                refine d_no hs #[true, true, true, true, true, true, true, true, true, true, true, true, true, true, true, true, true, true, true, true, true, false, false, false, false, false, false, false, false] (i := 20) rfl rfl rfl (by decide) (by kernel_rfl) (tight_body (P := Try.prog) (fn := Try.f5)) ?_
                clear hs a
                intro a hs
                refine d_no hs #[true, true, true, true, true, true, true, true, true, true, true, true, true, true, true, true, true, true, true, true, true, true, false, false, false, false, false, false, false] (i := 21) rfl rfl rfl (by decide) (by kernel_rfl) (tight_body (P := Try.prog) (fn := Try.f5)) ?_
                clear hs a
                intro a hs
                refine d_no hs #[true, true, true, true, true, true, true, true, true, true, true, true, true, true, true, true, true, true, true, true, true, true, true, false, false, false, false, false, false] (i := 22) rfl rfl rfl (by decide) (by kernel_rfl) (tight_body (P := Try.prog) (fn := Try.f5)) ?_
                clear hs a
                intro a hs
                refine d_no hs #[true, true, true, true, true, true, true, true, true, true, true, true, true, true, true, true, true, true, true, true, true, true, true, true, false, false, false, false, false] (i := 23) rfl rfl rfl (by decide) (by kernel_rfl) (tight_body (P := Try.prog) (fn := Try.f5)) ?_
                clear hs a
                intro a hs
                replace hs := hs.to (τ := [(0, (.int .i64 room0)), (5, (.pointer t20x0)), (25, (Sl.val script1)), (26, (.int .i64 (script1.n : Int))), (27, (.int .i64 t27_1)), (57, (.bool true)), (60, undef), (62, undef), (63, undef), (65, undef)]) ⟨rfl, rfl, rfl, rfl, rfl, rfl, rfl, rfl, rfl, rfl, trivial⟩
                refine d_no hs #[true, true, true, true, true, true, true, true, true, true, true, true, true, true, true, true, true, true, true, true, true, true, true, true, true, false, false, false, false] (i := 24) rfl rfl rfl (by decide) (by kernel_rfl) (tight_body (P := Try.prog) (fn := Try.f5)) ?_
                clear hs a
                intro a hs
                refine d_no hs #[true, true, true, true, true, true, true, true, true, true, true, true, true, true, true, true, true, true, true, true, true, true, true, true, true, true, false, false, false] (i := 25) rfl rfl rfl (by decide) (by kernel_rfl) (tight_body (P := Try.prog) (fn := Try.f5)) ?_
                clear hs a
                intro a hs
                refine d_no hs #[true, true, true, true, true, true, true, true, true, true, true, true, true, true, true, true, true, true, true, true, true, true, true, true, true, true, true, false, false] (i := 26) rfl rfl rfl (by decide) (by kernel_rfl) (tight_body (P := Try.prog) (fn := Try.f5)) ?_
                clear hs a
                intro a hs
                refine d_no hs #[true, true, true, true, true, true, true, true, true, true, true, true, true, true, true, true, true, true, true, true, true, true, true, true, true, true, true, true, false] (i := 27) rfl rfl rfl (by decide) (by kernel_rfl) (tight_body (P := Try.prog) (fn := Try.f5)) ?_
                clear hs a
                intro a hs
                refine d_pure hs #[true, true, true, true, true, true, true, true, true, true, true, true, true, true, true, true, true, true, true, true, true, true, true, true, true, true, true, true, true] (i := 28) rfl rfl rfl (by decide) (by kernel_rfl) (tight_body (P := Try.prog) (fn := Try.f5)) (p_pick_t rfl rfl rfl) ?_
                clear hs a
                intro a hs
                refine d_done (by kernel_rfl) ?_ _
                clear hS
                exact J2 true _ _ (hs.to ⟨rfl, rfl, rfl, rfl, rfl, rfl, trivial⟩) h
              · replace h := h.2 hb
                rw [hb] at hs
                clear hb
                refine d_pure hs #[true, true, true, true, true, true, true, true, true, true, true, true, true, true, true, true, true, false, false, false, false, false, false, false, false, false, false, false, false] (i := 16) rfl rfl rfl (by decide) (by kernel_rfl) (tight_body (P := Try.prog) (fn := Try.f5)) (p_move rfl rfl) ?_
                clear hs a
                intro a hs
                refine d_pure hs #[true, true, true, true, true, true, true, true, true, true, true, true, true, true, true, true, true, true, false, false, false, false, false, false, false, false, false, false, false] (i := 17) rfl rfl rfl (by decide) (by kernel_rfl) (tight_body (P := Try.prog) (fn := Try.f5)) (p_eq rfl rfl rfl) ?_
                clear hs a
                intro a hs
                refine d_pure hs #[true, true, true, true, true, true, true, true, true, true, true, true, true, true, true, true, true, true, true, false, false, false, false, false, false, false, false, false, false] (i := 18) rfl rfl rfl (by decide) (by kernel_rfl) (tight_body (P := Try.prog) (fn := Try.f5)) (p_move rfl rfl) ?_
                clear hs a
                intro a hs
                refine split_bool (decide (t41 = 0)) (fun hb => ?_) (fun hb => ?_)
                · replace h := h.1 hb
                  rw [hb] at hs
                  clear hb
                  refine d_pure hs #[true, true, true, true, true, true, true, true, true, true, true, true, true, true, true, true, true, true, true, true, false, false, false, false, false, false, false, false, false] (i := 19) rfl rfl rfl (by decide) (by kernel_rfl) (tight_body (P := Try.prog) (fn := Try.f5)) (p_move rfl rfl) ?_
                  clear hs a
                  intro a hs
                  refine d_pure hs #[true, true, true, true, true, true, true, true, true, true, true, true, true, true, true, true, true, true, true, true, false, true, false, false, false, false, false, false, false] (i := 21) rfl rfl rfl (by decide) (by kernel_rfl) (tight_body (P := Try.prog) (fn := Try.f5)) (p_move rfl rfl) ?_
                  clear hs a
                  intro a hs
                  refine d_pure hs #[true, true, true, true, true, true, true, true, true, true, true, true, true, true, true, true, true, true, true, true, false, true, true, false, false, false, false, false, false] (i := 22) rfl rfl rfl (by decide) (by kernel_rfl) (tight_body (P := Try.prog) (fn := Try.f5)) (p_fieldAddr rfl rfl ft_57_4) ?_
                  clear hs a
                  intro a hs
                  obtain ⟨t65, hv, h⟩ := h
                  refine d_read hs #[true, true, true, true, true, true, true, true, true, true, true, true, true, true, true, true, true, true, true, true, false, true, true, true, false, false, false, false, false] (i := 23) rfl rfl rfl (by decide) (by kernel_rfl) (by kernel_rfl) (tight_body (P := Try.prog) (fn := Try.f5)) hS (fun w h' => e_load rfl rfl ct_33 (hv w h')) ?_
                  clear hs a hv
                  intro a hs
                  refine d_pure hs #[true, true, true, true, true, true, true, true, true, true, true, true, true, true, true, true, true, true, true, true, false, true, true, true, true, false, false, false, false] (i := 24) rfl rfl rfl (by decide) (by kernel_rfl) (tight_body (P := Try.prog) (fn := Try.f5)) (p_len rfl rfl sl_33) ?_
                  clear hs a
                  intro a hs
                  replace hs := hs.to (τ := [(0, (.int .i64 room0)), (5, (.pointer t20x0)), (25, (Sl.val script1)), (26, (.int .i64 (script1.n : Int))), (27, (.int .i64 t27_1)), (57, (.bool false)), (60, (.bool true)), (61, (.pointer t20x0)), (63, (.int .i64 t32)), (66, (.int .i64 (t65.n : Int)))]) ⟨rfl, rfl, rfl, rfl, rfl, rfl, rfl, rfl, rfl, rfl, trivial⟩
                  obtain ⟨t67, he, h⟩ := h
                  refine d_pure hs #[true, true, true, true, true, true, true, true, true, true, true, true, true, true, true, true, true, true, true, true, false, true, true, true, true, true, false, false, false] (i := 25) rfl rfl rfl (by decide) (by kernel_rfl) (tight_body (P := Try.prog) (fn := Try.f5)) (Pure.int he (p_add rfl rfl rfl)) ?_
                  clear hs a he
                  intro a hs
                  refine d_all [20] (by kernel_rfl) (by decide) ?_
                  refine AllS.cons ?_ AllS.nil
                  refine d_call hs #[true, true, true, true, true, true, true, true, true, true, true, true, true, true, true, true, true, true, true, true, true, true, true, true, true, true, false, false, false] (i := 20) rfl rfl rfl (by decide) rfl (e_call rfl rfl rfl cb_27) h (fun v w'' hk => by obtain ⟨t62, _, hS, _⟩ := hk; exact fun _ _ => hS) ?_
                  clear hs a h
                  intro v a w hk hs
                  obtain ⟨t62, rfl, h⟩ := hk
                  obtain ⟨hS, h⟩ := h
                  refine d_pure hs #[true, true, true, true, true, true, true, true, true, true, true, true, true, true, true, true, true, true, true, true, true, true, true, true, true, true, true, false, false] (i := 26) rfl rfl rfl (by decide) (by kernel_rfl) (tight_body (P := Try.prog) (fn := Try.f5)) (p_ne rfl rfl rfl) ?_
                  clear hs a
                  intro a hs
                  refine d_pure hs #[true, true, true, true, true, true, true, true, true, true, true, true, true, true, true, true, true, true, true, true, true, true, true, true, true, true, true, true, false] (i := 27) rfl rfl rfl (by decide) (by kernel_rfl) (tight_body (P := Try.prog) (fn := Try.f5)) (p_pick_t rfl rfl rfl) ?_
                  clear hs a
                  intro a hs
                  refine d_pure hs #[true, true, true, true, true, true, true, true, true, true, true, true, true, true, true, true, true, true, true, true, true, true, true, true, true, true, true, true, true] (i := 28) rfl rfl rfl (by decide) (by kernel_rfl) (tight_body (P := Try.prog) (fn := Try.f5)) (p_pick_f rfl rfl rfl) ?_
                  clear hs a
                  intro a hs
                  refine d_done (by kernel_rfl) ?_ _
                  clear hS
                  exact J2 (decide (t62 ≠ t67)) _ _ (hs.to ⟨rfl, rfl, rfl, rfl, rfl, rfl, trivial⟩) h
                · replace h := h.2 hb
                  rw [hb] at hs
                  clear hb
                  refine d_no hs #[true, true, true, true, true, true, true, true, true, true, true, true, true, true, true, true, true, true, true, true, false, false, false, false, false, false, false, false, false] (i := 19) rfl rfl rfl (by decide) (by kernel_rfl) (tight_body (P := Try.prog) (fn := Try.f5)) ?_
                  clear hs a
                  intro a hs
                  refine d_no hs #[true, true, true, true, true, true, true, true, true, true, true, true, true, true, true, true, true, true, true, true, true, false, false, false, false, false, false, false, false] (i := 20) rfl rfl rfl (by decide) (by kernel_rfl) (tight_body (P := Try.prog) (fn := Try.f5)) ?_
                  clear hs a
                  intro a hs
                  refine d_no hs #[true, true, true, true, true, true, true, true, true, true, true, true, true, true, true, true, true, true, true, true, true, true, false, false, false, false, false, false, false] (i := 21) rfl rfl rfl (by decide) (by kernel_rfl) (tight_body (P := Try.prog) (fn := Try.f5)) ?_
                  clear hs a
                  intro a hs
                  refine d_no hs #[true, true, true, true, true, true, true, true, true, true, true, true, true, true, true, true, true, true, true, true, true, true, true, false, false, false, false, false, false] (i := 22) rfl rfl rfl (by decide) (by kernel_rfl) (tight_body (P := Try.prog) (fn := Try.f5)) ?_
                  clear hs a
                  intro a hs
                  refine d_no hs #[true, true, true, true, true, true, true, true, true, true, true, true, true, true, true, true, true, true, true, true, true, true, true, true, false, false, false, false, false] (i := 23) rfl rfl rfl (by decide) (by kernel_rfl) (tight_body (P := Try.prog) (fn := Try.f5)) ?_
                  clear hs a
                  intro a hs
                  replace hs := hs.to (τ := [(0, (.int .i64 room0)), (5, (.pointer t20x0)), (25, (Sl.val script1)), (26, (.int .i64 (script1.n : Int))), (27, (.int .i64 t27_1)), (57, (.bool false)), (60, (.bool false)), (62, undef), (63, undef), (65, undef)]) ⟨rfl, rfl, rfl, rfl, rfl, rfl, rfl, rfl, rfl, rfl, trivial⟩
                  refine d_no hs #[true, true, true, true, true, true, true, true, true, true, true, true, true, true, true, true, true, true, true, true, true, true, true, true, true, false, false, false, false] (i := 24) rfl rfl rfl (by decide) (by kernel_rfl) (tight_body (P := Try.prog) (fn := Try.f5)) ?_
                  clear hs a
                  intro a hs
                  refine d_no hs #[true, true, true, true, true, true, true, true, true, true, true, true, true, true, true, true, true, true, true, true, true, true, true, true, true, true, false, false, false] (i := 25) rfl rfl rfl (by decide) (by kernel_rfl) (tight_body (P := Try.prog) (fn := Try.f5)) ?_
                  clear hs a
                  intro a hs
                  refine d_no hs #[true, true, true, true, true, true, true, true, true, true, true, true, true, true, true, true, true, true, true, true, true, true, true, true, true, true, true, false, false] (i := 26) rfl rfl rfl (by decide) (by kernel_rfl) (tight_body (P := Try.prog) (fn := Try.f5)) ?_
                  clear hs a
                  intro a hs
                  refine d_pure hs #[true, true, true, true, true, true, true, true, true, true, true, true, true, true, true, true, true, true, true, true, true, true, true, true, true, true, true, true, false] (i := 27) rfl rfl rfl (by decide) (by kernel_rfl) (tight_body (P := Try.prog) (fn := Try.f5)) (p_pick_f rfl rfl rfl) ?_
                  clear hs a
                  intro a hs
                  refine d_pure hs #[true, true, true, true, true, true, true, true, true, true, true, true, true, true, true, true, true, true, true, true, true, true, true, true, true, true, true, true, true] (i := 28) rfl rfl rfl (by decide) (by kernel_rfl) (tight_body (P := Try.prog) (fn := Try.f5)) (p_pick_f rfl rfl rfl) ?_
                  clear hs a
                  intro a hs
                  refine d_done (by kernel_rfl) ?_ _
                  clear hS
                  exact J2 false _ _ (hs.to ⟨rfl, rfl, rfl, rfl, rfl, rfl, trivial⟩) h
          · replace h := h.2 hb
            rw [hb] at hs
            clear hb
            refine d_no hs #[true, true, true, true, false, false, false, false, false, false, false, false, false, false, false, false, false, false, false, false, false, false, false, false, false, false, false, false, false] (i := 3) rfl rfl rfl (by decide) (by kernel_rfl) (tight_body (P := Try.prog) (fn := Try.f5)) ?_
            clear hs a
            intro a hs
            refine d_no hs #[true, true, true, true, true, false, false, false, false, false, false, false, false, false, false, false, false, false, false, false, false, false, false, false, false, false, false, false, false] (i := 4) rfl rfl rfl (by decide) (by kernel_rfl) (tight_body (P := Try.prog) (fn := Try.f5)) ?_
            clear hs a
            intro a hs
            refine d_no hs #[true, true, true, true, true, true, false, false, false, false, false, false, false, false, false, false, false, false, false, false, false, false, false, false, false, false, false, false, false] (i := 5) rfl rfl rfl (by decide) (by kernel_rfl) (tight_body (P := Try.prog) (fn := Try.f5)) ?_
            clear hs a
            intro a hs
            refine d_no hs #[true, true, true, true, true, true, true, false, false, false, false, false, false, false, false, false, false, false, false, false, false, false, false, false, false, false, false, false, false] (i := 6) rfl rfl rfl (by decide) (by kernel_rfl) (tight_body (P := Try.prog) (fn := Try.f5)) ?_
            clear hs a
            intro a hs
            refine d_no hs #[true, true, true, true, true, true, true, true, false, false, false, false, false, false, false, false, false, false, false, false, false, false, false, false, false, false, false, false, false] (i := 7) rfl rfl rfl (by decide) (by kernel_rfl) (tight_body (P := Try.prog) (fn := Try.f5)) ?_
            clear hs a
            intro a hs
            replace hs := hs.to (τ := [(0, (.int .i64 room0)), (5, (.pointer t20x0)), (8, (.pointer (some o8))), (9, (.int .i64 t32)), (10, (.int .i64 (t34.n : Int))), (11, (.int .i64 t41)), (25, (Sl.val script1)), (26, (.int .i64 (script1.n : Int))), (27, (.int .i64 t27_1)), (44, (.bool false)), (49, undef)]) ⟨rfl, rfl, rfl, rfl, rfl, rfl, rfl, rfl, rfl, rfl, rfl, trivial⟩
            refine d_no hs #[true, true, true, true, true, true, true, true, true, false, false, false, false, false, false, false, false, false, false, false, false, false, false, false, false, false, false, false, false] (i := 8) rfl rfl rfl (by decide) (by kernel_rfl) (tight_body (P := Try.prog) (fn := Try.f5)) ?_
            clear hs a
            intro a hs
            refine d_no hs #[true, true, true, true, true, true, true, true, true, true, false, false, false, false, false, false, false, false, false, false, false, false, false, false, false, false, false, false, false] (i := 9) rfl rfl rfl (by decide) (by kernel_rfl) (tight_body (P := Try.prog) (fn := Try.f5)) ?_
            clear hs a
            intro a hs
            refine d_no hs #[true, true, true, true, true, true, true, true, true, true, true, false, false, false, false, false, false, false, false, false, false, false, false, false, false, false, false, false, false] (i := 10) rfl rfl rfl (by decide) (by kernel_rfl) (tight_body (P := Try.prog) (fn := Try.f5)) ?_
            clear hs a
            intro a hs
            refine d_no hs #[true, true, true, true, true, true, true, true, true, true, true, true, false, false, false, false, false, false, false, false, false, false, false, false, false, false, false, false, false] (i := 11) rfl rfl rfl (by decide) (by kernel_rfl) (tight_body (P := Try.prog) (fn := Try.f5)) ?_
            clear hs a
            intro a hs
            refine d_no hs #[true, true, true, true, true, true, true, true, true, true, true, true, true, false, false, false, false, false, false, false, false, false, false, false, false, false, false, false, false] (i := 12) rfl rfl rfl (by decide) (by kernel_rfl) (tight_body (P := Try.prog) (fn := Try.f5)) ?_
            clear hs a
            intro a hs
            refine d_no hs #[true, true, true, true, true, true, true, true, true, true, true, true, true, true, false, false, false, false, false, false, false, false, false, false, false, false, false, false, false] (i := 13) rfl rfl rfl (by decide) (by kernel_rfl) (tight_body (P := Try.prog) (fn := Try.f5)) ?_
            clear hs a
            intro a hs
            refine d_pure hs #[true, true, true, true, true, true, true, true, true, true, true, true, true, true, true, false, false, false, false, false, false, false, false, false, false, false, false, false, false] (i := 14) rfl rfl rfl (by decide) (by kernel_rfl) (tight_body (P := Try.prog) (fn := Try.f5)) (p_pick_f rfl rfl rfl) ?_
            clear hs a
            intro a hs
            refine d_pure hs #[true, true, true, true, true, true, true, true, true, true, true, true, true, true, true, true, false, false, false, false, false, false, false, false, false, false, false, false, false] (i := 15) rfl rfl rfl (by decide) (by kernel_rfl) (tight_body (P := Try.prog) (fn := Try.f5)) (p_move rfl rfl) ?_
            clear hs a
            intro a hs
            replace hs := hs.to (τ := [(0, (.int .i64 room0)), (5, (.pointer t20x0)), (8, (.pointer (some o8))), (9, (.int .i64 t32)), (11, (.int .i64 t41)), (25, (Sl.val script1)), (26, (.int .i64 (script1.n : Int))), (27, (.int .i64 t27_1)), (57, (.bool false))]) ⟨rfl, rfl, rfl, rfl, rfl, rfl, rfl, rfl, rfl, trivial⟩
            refine d_pure hs #[true, true, true, true, true, true, true, true, true, true, true, true, true, true, true, true, true, false, false, false, false, false, false, false, false, false, false, false, false] (i := 16) rfl rfl rfl (by decide) (by kernel_rfl) (tight_body (P := Try.prog) (fn := Try.f5)) (p_move rfl rfl) ?_
            clear hs a
            intro a hs
            refine d_pure hs #[true, true, true, true, true, true, true, true, true, true, true, true, true, true, true, true, true, true, false, false, false, false, false, false, false, false, false, false, false] (i := 17) rfl rfl rfl (by decide) (by kernel_rfl) (tight_body (P := Try.prog) (fn := Try.f5)) (p_eq rfl rfl rfl) ?_
            clear hs a
            intro a hs
            refine d_pure hs #[true, true, true, true, true, true, true, true, true, true, true, true, true, true, true, true, true, true, true, false, false, false, false, false, false, false, false, false, false] (i := 18) rfl rfl rfl (by decide) (by kernel_rfl) (tight_body (P := Try.prog) (fn := Try.f5)) (p_move rfl rfl) ?_
            clear hs a
            intro a hs
            refine split_bool (decide (t41 = 0)) (fun hb => ?_) (fun hb => ?_)
            · replace h := h.1 hb
              rw [hb] at hs
              clear hb
              refine d_pure hs #[true, true, true, true, true, true, true, true, true, true, true, true, true, true, true, true, true, true, true, true, false, false, false, false, false, false, false, false, false] (i := 19) rfl rfl rfl (by decide) (by kernel_rfl) (tight_body (P := Try.prog) (fn := Try.f5)) (p_move rfl rfl) ?_
              clear hs a
              intro a hs
              refine d_pure hs #[true, true, true, true, true, true, true, true, true, true, true, true, true, true, true, true, true, true, true, true, false, true, false, false, false, false, false, false, false] (i := 21) rfl rfl rfl (by decide) (by kernel_rfl) (tight_body (P := Try.prog) (fn := Try.f5)) (p_move rfl rfl) ?_
              clear hs a
              intro a hs
              refine d_pure hs #[true, true, true, true, true, true, true, true, true, true, true, true, true, true, true, true, true, true, true, true, false, true, true, false, false, false, false, false, false] (i := 22) rfl rfl rfl (by decide) (by kernel_rfl) (tight_body (P := Try.prog) (fn := Try.f5)) (p_fieldAddr rfl rfl ft_57_4) ?_
              clear hs a
              intro a hs
              obtain ⟨t65, hv, h⟩ := h
              refine d_read hs #[true, true, true, true, true, true, true, true, true, true, true, true, true, true, true, true, true, true, true, true, false, true, true, true, false, false, false, false, false] (i := 23) rfl rfl rfl (by decide) (by kernel_rfl) (by kernel_rfl) (tight_body (P := Try.prog) (fn := Try.f5)) hS (fun w h' => e_load rfl rfl ct_33 (hv w h')) ?_
              clear hs a hv
              intro a hs
              refine d_pure hs #[true, true, true, true, true, true, true, true, true, true, true, true, true, true, true, true, true, true, true, true, false, true, true, true, true, false, false, false, false] (i := 24) rfl rfl rfl (by decide) (by kernel_rfl) (tight_body (P := Try.prog) (fn := Try.f5)) (p_len rfl rfl sl_33) ?_
              clear hs a
              intro a hs
              replace hs := hs.to (τ := [(0, (.int .i64 room0)), (5, (.pointer t20x0)), (25, (Sl.val script1)), (26, (.int .i64 (script1.n : Int))), (27, (.int .i64 t27_1)), (57, (.bool false)), (60, (.bool true)), (61, (.pointer t20x0)), (63, (.int .i64 t32)), (66, (.int .i64 (t65.n : Int)))]) ⟨rfl, rfl, rfl, rfl, rfl, rfl, rfl, rfl, rfl, rfl, trivial⟩
              obtain ⟨t67, he, h⟩ := h
              refine d_pure hs #[true, true, true, true, true, true, true, true, true, true, true, true, true, true, true, true, true, true, true, true, false, true, true, true, true, true, false, false, false] (i := 25) rfl rfl rfl (by decide) (by kernel_rfl) (tight_body (P := Try.prog) (fn := Try.f5)) (Pure.int he (p_add rfl rfl rfl)) ?_
              clear hs a he
              intro a hs
              refine d_all [20] (by kernel_rfl) (by decide) ?_
              refine AllS.cons ?_ AllS.nil
              refine d_call hs #[true, true, true, true, true, true, true, true, true, true, true, true, true, true, true, true, true, true, true, true, true, true, true, true, true, true, false, false, false] (i := 20) rfl rfl rfl (by decide) rfl (e_call rfl rfl rfl cb_27) h (fun v w'' hk => by obtain ⟨t62, _, hS, _⟩ := hk; exact fun _ _ => hS) ?_
              clear hs a h
              intro v a w hk hs
              obtain ⟨t62, rfl, h⟩ := hk
              obtain ⟨hS, h⟩ := h
              refine d_pure hs #[true, true, true, true, true, true, true, true, true, true, true, true, true, true, true, true, true, true, true, true, true, true, true, true, true, true, true, false, false] (i := 26) rfl rfl rfl (by decide) (by kernel_rfl) (tight_body (P := Try.prog) (fn := Try.f5)) (p_ne rfl rfl rfl) ?_
              clear hs a
              intro a hs
              refine d_pure hs #[true, true, true, true, true, true, true, true, true, true, true, true, true, true, true, true, true, true, true, true, true, true, true, true, true, true, true, true, false] (i := 27) rfl rfl rfl (by decide) (by kernel_rfl) (tight_body (P := Try.prog) (fn := Try.f5)) (p_pick_t rfl rfl rfl) ?_
              clear hs a
              intro a hs
              refine d_pure hs #[true, true, true, true, true, true, true, true, true, true, true, true, true, true, true, true, true, true, true, true, true, true, true, true, true, true, true, true, true] (i := 28) rfl rfl rfl (by decide) (by kernel_rfl) (tight_body (P := Try.prog) (fn := Try.f5)) (p_pick_f rfl rfl rfl) ?_
              clear hs a
              intro a hs
              refine d_done (by kernel_rfl) ?_ _
              clear hS
              exact J2 (decide (t62 ≠ t67)) _ _ (hs.to ⟨rfl, rfl, rfl, rfl, rfl, rfl, trivial⟩) h
            · replace h := h.2 hb
              rw [hb] at hs
              clear hb
              refine d_no hs #[true, true, true, true, true, true, true, true, true, true, true, true, true, true, true, true, true, true, true, true, false, false, false, false, false, false, false, false, false] (i := 19) rfl rfl rfl (by decide) (by kernel_rfl) (tight_body (P := Try.prog) (fn := Try.f5)) ?_
              clear hs a
              intro a hs
              refine d_no hs #[true, true, true, true, true, true, true, true, true, true, true, true, true, true, true, true, true, true, true, true, true, false, false, false, false, false, false, false, false] (i := 20) rfl rfl rfl (by decide) (by kernel_rfl) (tight_body (P := Try.prog) (fn := Try.f5)) ?_
              clear hs a
              intro a hs
              refine d_no hs #[true, true, true, true, true, true, true, true, true, true, true, true, true, true, true, true, true, true, true, true, true, true, false, false, false, false, false, false, false] (i := 21) rfl rfl rfl (by decide) (by kernel_rfl) (tight_body (P := Try.prog) (fn := Try.f5)) ?_
              clear hs a
              intro a hs
              refine d_no hs #[true, true, true, true, true, true, true, true, true, true, true, true, true, true, true, true, true, true, true, true, true, true, true, false, false, false, false, false, false] (i := 22) rfl rfl rfl (by decide) (by kernel_rfl) (tight_body (P := Try.prog) (fn := Try.f5)) ?_
              clear hs a
              intro a hs
              refine d_no hs #[true, true, true, true, true, true, true, true, true, true, true, true, true, true, true, true, true, true, true, true, true, true, true, true, false, false, false, false, false] (i := 23) rfl rfl rfl (by decide) (by kernel_rfl) (tight_body (P := Try.prog) (fn := Try.f5)) ?_
              clear hs a
              intro a hs
              replace hs := hs.to (τ := [(0, (.int .i64 room0)), (5, (.pointer t20x0)), (25, (Sl.val script1)), (26, (.int .i64 (script1.n : Int))), (27, (.int .i64 t27_1)), (57, (.bool false)), (60, (.bool false)), (62, undef), (63, undef), (65, undef)]) ⟨rfl, rfl, rfl, rfl, rfl, rfl, rfl, rfl, rfl, rfl, trivial⟩
              refine d_no hs #[true, true, true, true, true, true, true, true, true, true, true, true, true, true, true, true, true, true, true, true, true, true, true, true, true, false, false, false, false] (i := 24) rfl rfl rfl (by decide) (by kernel_rfl) (tight_body (P := Try.prog) (fn := Try.f5)) ?_
              clear hs a
              intro a hs
              refine d_no hs #[true, true, true, true, true, true, true, true, true, true, true, true, true, true, true, true, true, true, true, true, true, true, true, true, true, true, false, false, false] (i := 25) rfl rfl rfl (by decide) (by kernel_rfl) (tight_body (P := Try.prog) (fn := Try.f5)) ?_
              clear hs a
              intro a hs
              refine d_no hs #[true, true, true, true, true, true, true, true, true, true, true, true, true, true, true, true, true, true, true, true, true, true, true, true, true, true, true, false, false] (i := 26) rfl rfl rfl (by decide) (by kernel_rfl) (tight_body (P := Try.prog) (fn := Try.f5)) ?_
              clear hs a
              intro a hs
              refine d_pure hs #[true, true, true, true, true, true, true, true, true, true, true, true, true, true, true, true, true, true, true, true, true, true, true, true, true, true, true, true, false] (i := 27) rfl rfl rfl (by decide) (by kernel_rfl) (tight_body (P := Try.prog) (fn := Try.f5)) (p_pick_f rfl rfl rfl) ?_
              clear hs a
              intro a hs
              refine d_pure hs #[true, true, true, true, true, true, true, true, true, true, true, true, true, true, true, true, true, true, true, true, true, true, true, true, true, true, true, true, true] (i := 28) rfl rfl rfl (by decide) (by kernel_rfl) (tight_body (P := Try.prog) (fn := Try.f5)) (p_pick_f rfl rfl rfl) ?_
              clear hs a
              intro a hs
              refine d_done (by kernel_rfl) ?_ _
              clear hS
              exact J2 false _ _ (hs.to ⟨rfl, rfl, rfl, rfl, rfl, rfl, trivial⟩) h
        · replace h := h.2 hb
          clear hb
          refine wp_exit ?_
          refine hK12 _ _ ?_
          refine wp_seq_k fun K25 hK25 => ?_
          refine wp_region_lit ?_
          refine t_pure hs rfl rfl (by decide) (p_assign rfl rfl) ?_
          clear hs a
          intro a hs
          refine hK25 _ _ ?_
          refine wp_ret ?_
          refine f_ret (fn := Try.f5) hs (fun a hs => r_one hs rfl (rfl)) ⟨true, rfl, h⟩
end Go.Proofs.Ytgnkminakongkaa
