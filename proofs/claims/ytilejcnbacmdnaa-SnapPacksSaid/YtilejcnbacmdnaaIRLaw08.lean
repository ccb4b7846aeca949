/- Plain forms of functions, and that their code comes to them (package law08). -/
import Derived.Test.YtilejcnbacmdnaaCalls
namespace Go.Proofs.Ytilejcnbacmdnaa
open Go Go.Sep
set_option linter.unusedVariables false
set_option linter.unusedSimpArgs false
set_option maxRecDepth 100000
set_option maxHeartbeats 4000000
def law08_SnapPacks.s2 (Q : Bool → K)  (t4_2 : Bool) : K :=
  Q t4_2
def law08_SnapPacks.s1 (Q : Bool → K)  (body0_1 : Sl) (raw1_1 : Sl) (t23_1 : Bool) : K :=
  Ite t23_1
    (Q true)
    (New 5 #[] fun t24 =>
    Do Try.prog (Builtin.append_ #[22, 22] 22 #[(Sl.val (Sl.mk (some t24) 0 0)), (Sl.val body0_1)]) Sl.val fun t26 =>
    New 5 #[] fun t27 =>
    Do Try.prog (Builtin.append_ #[22, 22] 22 #[(Sl.val (Sl.mk (some t27) 0 0)), (Sl.val raw1_1)]) Sl.val fun t29 =>
    snap_Pack.call t26 fun t31 =>
    snap_Unpack.call t31 fun t34x0 t34x1 =>
    snap_Unpack.call t29 fun t39x0 t39x1 =>
    ref08_Unpack.call raw1_1 fun t44x0 t44x1 =>
    Dr <| WithS fun S =>
    RdS Try.prog S (convert 22 9 (Sl.val t31)) Value.string fun t48 =>
    ref08_Pack.call body0_1 fun t50 =>
    Sv S <|
    Rd Try.prog (convert 22 9 (Sl.val t50)) Value.string fun t51 =>
    Ite (t48.toList == t51.toList)
      (Ite (decide (t34x1 = 0))
        (RdS Try.prog S (convert 22 9 (Sl.val t34x0)) Value.string fun t59 =>
        RdS Try.prog S (convert 22 9 (Sl.val body0_1)) Value.string fun t61 =>
        Ite (t59.toList == t61.toList)
          (Ite (decide (t39x1 = t44x1))
            (RdS Try.prog S (convert 22 9 (Sl.val t39x0)) Value.string fun t71 =>
            RdS Try.prog S (convert 22 9 (Sl.val t44x0)) Value.string fun t73 =>
            Ite (t71.toList == t73.toList)
              (RdS Try.prog S (convert 22 9 (Sl.val t26)) Value.string fun t78 =>
              RdS Try.prog S (convert 22 9 (Sl.val body0_1)) Value.string fun t80 =>
              Ite (t78.toList == t80.toList)
                (RdS Try.prog S (convert 22 9 (Sl.val t29)) Value.string fun t85 =>
                RdS Try.prog S (convert 22 9 (Sl.val raw1_1)) Value.string fun t87 =>
                law08_SnapPacks.s2 Q (t85.toList == t87.toList))
                (law08_SnapPacks.s2 Q false))
              (law08_SnapPacks.s2 Q false))
            (law08_SnapPacks.s2 Q false))
          (law08_SnapPacks.s2 Q false))
        (law08_SnapPacks.s2 Q false))
      (law08_SnapPacks.s2 Q false))
def law08_SnapPacks (body0 : Sl) (raw1 : Sl) (Q : Bool → K) : K :=
  law08_speaks.call  fun t14 =>
  Ite (!t14)
    (Q false)
    (Ite (decide ((5000 : Int) < (body0.n : Int)))
      (law08_SnapPacks.s1 Q body0 raw1 true)
      (law08_SnapPacks.s1 Q body0 raw1 (decide ((5000 : Int) < (raw1.n : Int)))))
theorem law08_SnapPacks_ok (body0 : Sl) (raw1 : Sl) (Q : Bool → K) (w : World) (h : law08_SnapPacks body0 raw1 Q w) : law08_SnapPacks.call body0 raw1 Q w := by
  unfold law08_SnapPacks.call CallF
  refine f_start (args := [(Sl.val body0), (Sl.val raw1)]) Try.func12 rfl (Nat.le_of_ble_eq_true rfl) ?_
  intro a hs
  unfold law08_SnapPacks at h
  refine wp_seq_k fun K1 hK1 => ?_
  refine wp_region_lit ?_
  refine t_pure hs rfl rfl (by decide) (p_assign rfl rfl) ?_
  clear hs a
  intro a hs
  refine hK1 _ _ ?_
  refine wp_seq_k fun K2 hK2 => ?_
  refine wp_seq_k fun K3 hK3 => ?_
  refine wp_region_lit ?_
  refine t_call hs rfl rfl (by decide) (e_call rfl rfl rfl cb_45) h ?_
  clear hs a h
  intro v a w hk hs
  obtain ⟨t14, rfl, h⟩ := hk
  refine t_pure hs rfl rfl (by decide) (p_not rfl rfl) ?_
  clear hs a
  intro a hs
  refine hK3 _ _ ?_
  refine c_cond hs rfl (fun hb => ?_) (fun hb => ?_)
  · replace h := h.1 hb
    clear hb
    refine wp_seq_k fun K4 hK4 => ?_
    refine wp_region_lit ?_
    refine t_pure hs rfl rfl (by decide) (p_assign rfl rfl) ?_
    clear hs a
    intro a hs
    refine hK4 _ _ ?_
    refine wp_ret ?_
    refine f_ret (fn := Try.f12) hs (fun a hs => r_one hs rfl (rfl)) ⟨false, rfl, h⟩
  · replace h := h.2 hb
    clear hb
    refine wp_skip ?_
    refine hK2 _ _ ?_
    refine wp_seq_k fun K5 hK5 => ?_
    refine wp_seq_k fun K6 hK6 => ?_
    have J1 : ∀ (t23_1 : Bool) (a : Act) (w : World), Slots a 90 [(0, (Sl.val body0)), (1, (Sl.val raw1)), (23, (.bool t23_1))] → law08_SnapPacks.s1 Q body0 raw1 t23_1 w → K6 a w := by
      clear h hs
      intro t23_1 a w hs h
      refine hK6 _ _ ?_
      unfold law08_SnapPacks.s1 at h
      refine c_cond hs rfl (fun hb => ?_) (fun hb => ?_)
      · replace h := h.1 hb
        clear hb
        refine wp_seq_k fun K7 hK7 => ?_
        refine wp_region_lit ?_
        refine t_pure hs rfl rfl (by decide) (p_assign rfl rfl) ?_
        clear hs a
        intro a hs
        refine hK7 _ _ ?_
        refine wp_ret ?_
        refine f_ret (fn := Try.f12) hs (fun a hs => r_one hs rfl (rfl)) ⟨true, rfl, h⟩
      · replace h := h.2 hb
        clear hb
        refine wp_skip ?_
        refine hK5 _ _ ?_
        refine wp_seq_k fun K8 hK8 => ?_
        refine wp_region_lit ?_
        obtain ⟨t24, w1, ha, hw, h⟩ := h
        refine t_eff hs rfl rfl (by decide) (e_buildSlice (z := #[]) (cs := #[]) rfl sl_22 zt_5 (by decide) rfl rz_5_0 (by rfl) ha hw) ?_
        clear hs a ha hw
        intro a hs
        refine t_pure hs rfl rfl (by decide) (p_move rfl rfl) ?_
        clear hs a
        intro a hs
        obtain ⟨t26, w1, hd, h⟩ := h
        refine t_eff hs rfl rfl (by decide) (e_append rfl rfl rfl rfl hd) ?_
        clear hs a hd
        intro a hs
        obtain ⟨t27, w1, ha, hw, h⟩ := h
        refine t_eff hs rfl rfl (by decide) (e_buildSlice (z := #[]) (cs := #[]) rfl sl_22 zt_5 (by decide) rfl rz_5_0 (by rfl) ha hw) ?_
        clear hs a ha hw
        intro a hs
        refine t_pure hs rfl rfl (by decide) (p_move rfl rfl) ?_
        clear hs a
        intro a hs
        obtain ⟨t29, w1, hd, h⟩ := h
        refine t_eff hs rfl rfl (by decide) (e_append rfl rfl rfl rfl hd) ?_
        clear hs a hd
        intro a hs
        refine t_pure hs rfl rfl (by decide) (p_assign rfl rfl) ?_
        clear hs a
        intro a hs
        refine t_pure hs rfl rfl (by decide) (p_assign rfl rfl) ?_
        clear hs a
        intro a hs
        refine hK8 _ _ ?_
        refine wp_seq_k fun K9 hK9 => ?_
        refine wp_region_lit ?_
        refine t_pure hs rfl rfl (by decide) (p_move rfl rfl) ?_
        clear hs a
        intro a hs
        refine t_call hs rfl rfl (by decide) (e_call rfl rfl rfl cb_46) h ?_
        clear hs a h
        intro v a w hk hs
        obtain ⟨t31, rfl, h⟩ := hk
        refine t_pure hs rfl rfl (by decide) (p_assign rfl rfl) ?_
        clear hs a
        intro a hs
        refine hK9 _ _ ?_
        refine wp_seq_k fun K10 hK10 => ?_
        refine wp_region_lit ?_
        refine t_pure hs rfl rfl (by decide) (p_move rfl rfl) ?_
        clear hs a
        intro a hs
        refine t_call hs rfl rfl (by decide) (e_call rfl rfl rfl cb_47) h ?_
        clear hs a h
        intro v a w hk hs
        obtain ⟨t34x0, t34x1, rfl, h⟩ := hk
        refine t_pure hs rfl rfl (by decide) (p_move rfl rfl) ?_
        clear hs a
        intro a hs
        refine t_pure hs rfl rfl (by decide) (p_extract rfl rfl rfl) ?_
        clear hs a
        intro a hs
        refine t_pure hs rfl rfl (by decide) (p_extract rfl rfl rfl) ?_
        clear hs a
        intro a hs
        refine t_pure hs rfl rfl (by decide) (p_assign rfl rfl) ?_
        clear hs a
        intro a hs
        refine t_pure hs rfl rfl (by decide) (p_assign rfl rfl) ?_
        clear hs a
        intro a hs
        refine hK10 _ _ ?_
        refine wp_seq_k fun K11 hK11 => ?_
        refine wp_region_lit ?_
        refine t_pure hs rfl rfl (by decide) (p_move rfl rfl) ?_
        clear hs a
        intro a hs
        refine t_call hs rfl rfl (by decide) (e_call rfl rfl rfl cb_47) h ?_
        clear hs a h
        intro v a w hk hs
        obtain ⟨t39x0, t39x1, rfl, h⟩ := hk
        refine t_pure hs rfl rfl (by decide) (p_move rfl rfl) ?_
        clear hs a
        intro a hs
        refine t_pure hs rfl rfl (by decide) (p_extract rfl rfl rfl) ?_
        clear hs a
        intro a hs
        refine t_pure hs rfl rfl (by decide) (p_extract rfl rfl rfl) ?_
        clear hs a
        intro a hs
        refine t_pure hs rfl rfl (by decide) (p_assign rfl rfl) ?_
        clear hs a
        intro a hs
        refine t_pure hs rfl rfl (by decide) (p_assign rfl rfl) ?_
        clear hs a
        intro a hs
        refine hK11 _ _ ?_
        refine wp_seq_k fun K12 hK12 => ?_
        refine wp_region_lit ?_
        refine t_pure hs rfl rfl (by decide) (p_move rfl rfl) ?_
        clear hs a
        intro a hs
        refine t_call hs rfl rfl (by decide) (e_call rfl rfl rfl cb_48) h ?_
        clear hs a h
        intro v a w hk hs
        obtain ⟨t44x0, t44x1, rfl, h⟩ := hk
        refine t_pure hs rfl rfl (by decide) (p_move rfl rfl) ?_
        clear hs a
        intro a hs
        refine t_pure hs rfl rfl (by decide) (p_extract rfl rfl rfl) ?_
        clear hs a
        intro a hs
        refine t_pure hs rfl rfl (by decide) (p_extract rfl rfl rfl) ?_
        clear hs a
        intro a hs
        refine t_pure hs rfl rfl (by decide) (p_assign rfl rfl) ?_
        clear hs a
        intro a hs
        refine t_pure hs rfl rfl (by decide) (p_assign rfl rfl) ?_
        clear hs a
        intro a hs
        refine hK12 _ _ ?_
        refine wp_seq_k fun K13 hK13 => ?_
        have J2 : ∀ (t4_2 : Bool) (a : Act) (w : World), Slots a 90 [(4, (.bool t4_2))] → law08_SnapPacks.s2 Q t4_2 w → K13 a w := by
          clear h hs
          intro t4_2 a w hs h
          refine hK13 _ _ ?_
          unfold law08_SnapPacks.s2 at h
          refine wp_ret ?_
          refine f_ret (fn := Try.f12) hs (fun a hs => r_one hs rfl (rfl)) ⟨t4_2, rfl, h⟩
        clear hK13
        obtain ⟨w1, hw1, h⟩ := h
        obtain ⟨S, hS, h⟩ := h
        subst hw1
        refine d_start (S := S) (ds := []) #[false, false, false, false, false, false, false, false, false, false, false, false, false, false, false, false, false, false, false, false, false, false, false, false, false, false, false, false, false, false, false, false, false, false, false, false, false, false, false, false, false, false, false, false] mixed rfl rfl ?_
        refine d_pure hs #[true, false, false, false, false, false, false, false, false, false, false, false, false, false, false, false, false, false, false, false, false, false, false, false, false, false, false, false, false, false, false, false, false, false, false, false, false, false, false, false, false, false, false, false] (i := 0) rfl rfl rfl (by decide) (by kernel_rfl) (tight_body (P := Try.prog) (fn := Try.f12)) (p_move rfl rfl) ?_
        clear hs a
        intro a hs
        refine d_pure hs #[true, false, true, false, false, false, false, false, false, false, false, false, false, false, false, false, false, false, false, false, false, false, false, false, false, false, false, false, false, false, false, false, false, false, false, false, false, false, false, false, false, false, false, false] (i := 2) rfl rfl rfl (by decide) (by kernel_rfl) (tight_body (P := Try.prog) (fn := Try.f12)) (p_move rfl rfl) ?_
        clear hs a
        intro a hs
        obtain ⟨t48, hd, h⟩ := h
        refine d_read hs #[true, true, true, false, false, false, false, false, false, false, false, false, false, false, false, false, false, false, false, false, false, false, false, false, false, false, false, false, false, false, false, false, false, false, false, false, false, false, false, false, false, false, false, false] (i := 1) rfl rfl rfl (by decide) (by kernel_rfl) (by kernel_rfl) (tight_body (P := Try.prog) (fn := Try.f12)) hS (fun w h' => e_convert rfl rfl (hd w h')) ?_
        clear hs a hd
        intro a hs
        refine d_all [3] (by kernel_rfl) (by decide) ?_
        refine AllS.cons ?_ AllS.nil
        refine d_call hs #[true, true, true, true, false, false, false, false, false, false, false, false, false, false, false, false, false, false, false, false, false, false, false, false, false, false, false, false, false, false, false, false, false, false, false, false, false, false, false, false, false, false, false, false] (i := 3) rfl rfl rfl (by decide) rfl (e_call rfl rfl rfl cb_49) h (fun v w'' hk => by obtain ⟨t50, _, hS, _⟩ := hk; exact fun _ _ => hS) ?_
        clear hs a h
        intro v a w hk hs
        obtain ⟨t50, rfl, h⟩ := hk
        obtain ⟨hS, h⟩ := h
        refine d_all [4] (by kernel_rfl) (by decide) ?_
        refine AllS.cons ?_ AllS.nil
        obtain ⟨t51, hd, h⟩ := h
        refine d_eff hs #[true, true, true, true, true, false, false, false, false, false, false, false, false, false, false, false, false, false, false, false, false, false, false, false, false, false, false, false, false, false, false, false, false, false, false, false, false, false, false, false, false, false, false, false] (i := 4) rfl rfl rfl (by decide) rfl (e_convert rfl rfl hd) (fun _ h' => h') ?_
        clear hs a hd
        intro a hs
        refine d_pure hs #[true, true, true, true, true, true, false, false, false, false, false, false, false, false, false, false, false, false, false, false, false, false, false, false, false, false, false, false, false, false, false, false, false, false, false, false, false, false, false, false, false, false, false, false] (i := 5) rfl rfl rfl (by decide) (by kernel_rfl) (tight_body (P := Try.prog) (fn := Try.f12)) (p_eqs rfl rfl rfl) ?_
        clear hs a
        intro a hs
        refine d_pure hs #[true, true, true, true, true, true, true, false, false, false, false, false, false, false, false, false, false, false, false, false, false, false, false, false, false, false, false, false, false, false, false, false, false, false, false, false, false, false, false, false, false, false, false, false] (i := 6) rfl rfl rfl (by decide) (by kernel_rfl) (tight_body (P := Try.prog) (fn := Try.f12)) (p_move rfl rfl) ?_
        clear hs a
        intro a hs
        refine split_bool (t48.toList == t51.toList) (fun hb => ?_) (fun hb => ?_)
        · replace h := h.1 hb
          rw [hb] at hs
          clear hb
          refine d_pure hs #[true, true, true, true, true, true, true, true, false, false, false, false, false, false, false, false, false, false, false, false, false, false, false, false, false, false, false, false, false, false, false, false, false, false, false, false, false, false, false, false, false, false, false, false] (i := 7) rfl rfl rfl (by decide) (by kernel_rfl) (tight_body (P := Try.prog) (fn := Try.f12)) (p_move rfl rfl) ?_
          clear hs a
          intro a hs
          replace hs := hs.to (τ := [(0, (Sl.val body0)), (1, (Sl.val raw1)), (5, (Sl.val t26)), (6, (Sl.val t29)), (8, (Sl.val t34x0)), (10, (Sl.val t39x0)), (11, (.int .i64 t39x1)), (12, (Sl.val t44x0)), (13, (.int .i64 t44x1)), (53, (.bool true)), (54, (.int .i64 t34x1))]) ⟨rfl, rfl, rfl, rfl, rfl, rfl, rfl, rfl, rfl, rfl, rfl, trivial⟩
          refine d_pure hs #[true, true, true, true, true, true, true, true, true, false, false, false, false, false, false, false, false, false, false, false, false, false, false, false, false, false, false, false, false, false, false, false, false, false, false, false, false, false, false, false, false, false, false, false] (i := 8) rfl rfl rfl (by decide) (by kernel_rfl) (tight_body (P := Try.prog) (fn := Try.f12)) (p_eq rfl rfl rfl) ?_
          clear hs a
          intro a hs
          refine d_pure hs #[true, true, true, true, true, true, true, true, true, true, false, false, false, false, false, false, false, false, false, false, false, false, false, false, false, false, false, false, false, false, false, false, false, false, false, false, false, false, false, false, false, false, false, false] (i := 9) rfl rfl rfl (by decide) (by kernel_rfl) (tight_body (P := Try.prog) (fn := Try.f12)) (p_pick_t rfl rfl rfl) ?_
          clear hs a
          intro a hs
          refine d_pure hs #[true, true, true, true, true, true, true, true, true, true, true, false, false, false, false, false, false, false, false, false, false, false, false, false, false, false, false, false, false, false, false, false, false, false, false, false, false, false, false, false, false, false, false, false] (i := 10) rfl rfl rfl (by decide) (by kernel_rfl) (tight_body (P := Try.prog) (fn := Try.f12)) (p_move rfl rfl) ?_
          clear hs a
          intro a hs
          refine split_bool (decide (t34x1 = 0)) (fun hb => ?_) (fun hb => ?_)
          · replace h := h.1 hb
            rw [hb] at hs
            clear hb
            refine d_pure hs #[true, true, true, true, true, true, true, true, true, true, true, true, false, false, false, false, false, false, false, false, false, false, false, false, false, false, false, false, false, false, false, false, false, false, false, false, false, false, false, false, false, false, false, false] (i := 11) rfl rfl rfl (by decide) (by kernel_rfl) (tight_body (P := Try.prog) (fn := Try.f12)) (p_move rfl rfl) ?_
            clear hs a
            intro a hs
            refine d_pure hs #[true, true, true, true, true, true, true, true, true, true, true, true, false, true, false, false, false, false, false, false, false, false, false, false, false, false, false, false, false, false, false, false, false, false, false, false, false, false, false, false, false, false, false, false] (i := 13) rfl rfl rfl (by decide) (by kernel_rfl) (tight_body (P := Try.prog) (fn := Try.f12)) (p_move rfl rfl) ?_
            clear hs a
            intro a hs
            obtain ⟨t59, hd, h⟩ := h
            refine d_read hs #[true, true, true, true, true, true, true, true, true, true, true, true, true, true, false, false, false, false, false, false, false, false, false, false, false, false, false, false, false, false, false, false, false, false, false, false, false, false, false, false, false, false, false, false] (i := 12) rfl rfl rfl (by decide) (by kernel_rfl) (by kernel_rfl) (tight_body (P := Try.prog) (fn := Try.f12)) hS (fun w h' => e_convert rfl rfl (hd w h')) ?_
            clear hs a hd
            intro a hs
            obtain ⟨t61, hd, h⟩ := h
            refine d_read hs #[true, true, true, true, true, true, true, true, true, true, true, true, true, true, true, false, false, false, false, false, false, false, false, false, false, false, false, false, false, false, false, false, false, false, false, false, false, false, false, false, false, false, false, false] (i := 14) rfl rfl rfl (by decide) (by kernel_rfl) (by kernel_rfl) (tight_body (P := Try.prog) (fn := Try.f12)) hS (fun w h' => e_convert rfl rfl (hd w h')) ?_
            clear hs a hd
            intro a hs
            refine d_pure hs #[true, true, true, true, true, true, true, true, true, true, true, true, true, true, true, true, false, false, false, false, false, false, false, false, false, false, false, false, false, false, false, false, false, false, false, false, false, false, false, false, false, false, false, false] (i := 15) rfl rfl rfl (by decide) (by kernel_rfl) (tight_body (P := Try.prog) (fn := Try.f12)) (p_eqs rfl rfl rfl) ?_
            clear hs a
            intro a hs
            replace hs := hs.to (τ := [(0, (Sl.val body0)), (1, (Sl.val raw1)), (5, (Sl.val t26)), (6, (Sl.val t29)), (10, (Sl.val t39x0)), (11, (.int .i64 t39x1)), (12, (Sl.val t44x0)), (13, (.int .i64 t44x1)), (57, (.bool true)), (62, (.bool (t59.toList == t61.toList)))]) ⟨rfl, rfl, rfl, rfl, rfl, rfl, rfl, rfl, rfl, rfl, trivial⟩
            refine d_pure hs #[true, true, true, true, true, true, true, true, true, true, true, true, true, true, true, true, true, false, false, false, false, false, false, false, false, false, false, false, false, false, false, false, false, false, false, false, false, false, false, false, false, false, false, false] (i := 16) rfl rfl rfl (by decide) (by kernel_rfl) (tight_body (P := Try.prog) (fn := Try.f12)) (p_pick_t rfl rfl rfl) ?_
            clear hs a
            intro a hs
            refine d_pure hs #[true, true, true, true, true, true, true, true, true, true, true, true, true, true, true, true, true, true, false, false, false, false, false, false, false, false, false, false, false, false, false, false, false, false, false, false, false, false, false, false, false, false, false, false] (i := 17) rfl rfl rfl (by decide) (by kernel_rfl) (tight_body (P := Try.prog) (fn := Try.f12)) (p_move rfl rfl) ?_
            clear hs a
            intro a hs
            refine split_bool (t59.toList == t61.toList) (fun hb => ?_) (fun hb => ?_)
            · replace h := h.1 hb
              rw [hb] at hs
              clear hb
              refine d_pure hs #[true, true, true, true, true, true, true, true, true, true, true, true, true, true, true, true, true, true, true, false, false, false, false, false, false, false, false, false, false, false, false, false, false, false, false, false, false, false, false, false, false, false, false, false] (i := 18) rfl rfl rfl (by decide) (by kernel_rfl) (tight_body (P := Try.prog) (fn := Try.f12)) (p_move rfl rfl) ?_
              clear hs a
              intro a hs
              refine d_pure hs #[true, true, true, true, true, true, true, true, true, true, true, true, true, true, true, true, true, true, true, true, false, false, false, false, false, false, false, false, false, false, false, false, false, false, false, false, false, false, false, false, false, false, false, false] (i := 19) rfl rfl rfl (by decide) (by kernel_rfl) (tight_body (P := Try.prog) (fn := Try.f12)) (p_move rfl rfl) ?_
              clear hs a
              intro a hs
              refine d_pure hs #[true, true, true, true, true, true, true, true, true, true, true, true, true, true, true, true, true, true, true, true, true, false, false, false, false, false, false, false, false, false, false, false, false, false, false, false, false, false, false, false, false, false, false, false] (i := 20) rfl rfl rfl (by decide) (by kernel_rfl) (tight_body (P := Try.prog) (fn := Try.f12)) (p_eq rfl rfl rfl) ?_
              clear hs a
              intro a hs
              refine d_pure hs #[true, true, true, true, true, true, true, true, true, true, true, true, true, true, true, true, true, true, true, true, true, true, false, false, false, false, false, false, false, false, false, false, false, false, false, false, false, false, false, false, false, false, false, false] (i := 21) rfl rfl rfl (by decide) (by kernel_rfl) (tight_body (P := Try.prog) (fn := Try.f12)) (p_pick_t rfl rfl rfl) ?_
              clear hs a
              intro a hs
              refine d_pure hs #[true, true, true, true, true, true, true, true, true, true, true, true, true, true, true, true, true, true, true, true, true, true, true, false, false, false, false, false, false, false, false, false, false, false, false, false, false, false, false, false, false, false, false, false] (i := 22) rfl rfl rfl (by decide) (by kernel_rfl) (tight_body (P := Try.prog) (fn := Try.f12)) (p_move rfl rfl) ?_
              clear hs a
              intro a hs
              refine split_bool (decide (t39x1 = t44x1)) (fun hb => ?_) (fun hb => ?_)
              · replace h := h.1 hb
                rw [hb] at hs
                clear hb
                refine d_pure hs #[true, true, true, true, true, true, true, true, true, true, true, true, true, true, true, true, true, true, true, true, true, true, true, true, false, false, false, false, false, false, false, false, false, false, false, false, false, false, false, false, false, false, false, false] (i := 23) rfl rfl rfl (by decide) (by kernel_rfl) (tight_body (P := Try.prog) (fn := Try.f12)) (p_move rfl rfl) ?_
                clear hs a
                intro a hs
                replace hs := hs.to (τ := [(0, (Sl.val body0)), (1, (Sl.val raw1)), (5, (Sl.val t26)), (6, (Sl.val t29)), (12, (Sl.val t44x0)), (69, (.bool true)), (70, (Sl.val t39x0))]) ⟨rfl, rfl, rfl, rfl, rfl, rfl, rfl, trivial⟩
                refine d_pure hs #[true, true, true, true, true, true, true, true, true, true, true, true, true, true, true, true, true, true, true, true, true, true, true, true, false, true, false, false, false, false, false, false, false, false, false, false, false, false, false, false, false, false, false, false] (i := 25) rfl rfl rfl (by decide) (by kernel_rfl) (tight_body (P := Try.prog) (fn := Try.f12)) (p_move rfl rfl) ?_
                clear hs a
                intro a hs
                obtain ⟨t71, hd, h⟩ := h
                refine d_read hs #[true, true, true, true, true, true, true, true, true, true, true, true, true, true, true, true, true, true, true, true, true, true, true, true, true, true, false, false, false, false, false, false, false, false, false, false, false, false, false, false, false, false, false, false] (i := 24) rfl rfl rfl (by decide) (by kernel_rfl) (by kernel_rfl) (tight_body (P := Try.prog) (fn := Try.f12)) hS (fun w h' => e_convert rfl rfl (hd w h')) ?_
                clear hs a hd
                intro a hs
                obtain ⟨t73, hd, h⟩ := h
                refine d_read hs #[true, true, true, true, true, true, true, true, true, true, true, true, true, true, true, true, true, true, true, true, true, true, true, true, true, true, true, false, false, false, false, false, false, false, false, false, false, false, false, false, false, false, false, false] (i := 26) rfl rfl rfl (by decide) (by kernel_rfl) (by kernel_rfl) (tight_body (P := Try.prog) (fn := Try.f12)) hS (fun w h' => e_convert rfl rfl (hd w h')) ?_
                clear hs a hd
                intro a hs
                refine d_pure hs #[true, true, true, true, true, true, true, true, true, true, true, true, true, true, true, true, true, true, true, true, true, true, true, true, true, true, true, true, false, false, false, false, false, false, false, false, false, false, false, false, false, false, false, false] (i := 27) rfl rfl rfl (by decide) (by kernel_rfl) (tight_body (P := Try.prog) (fn := Try.f12)) (p_eqs rfl rfl rfl) ?_
                clear hs a
                intro a hs
                refine d_pure hs #[true, true, true, true, true, true, true, true, true, true, true, true, true, true, true, true, true, true, true, true, true, true, true, true, true, true, true, true, true, false, false, false, false, false, false, false, false, false, false, false, false, false, false, false] (i := 28) rfl rfl rfl (by decide) (by kernel_rfl) (tight_body (P := Try.prog) (fn := Try.f12)) (p_pick_t rfl rfl rfl) ?_
                clear hs a
                intro a hs
                refine d_pure hs #[true, true, true, true, true, true, true, true, true, true, true, true, true, true, true, true, true, true, true, true, true, true, true, true, true, true, true, true, true, true, false, false, false, false, false, false, false, false, false, false, false, false, false, false] (i := 29) rfl rfl rfl (by decide) (by kernel_rfl) (tight_body (P := Try.prog) (fn := Try.f12)) (p_move rfl rfl) ?_
                clear hs a
                intro a hs
                refine split_bool (t71.toList == t73.toList) (fun hb => ?_) (fun hb => ?_)
                · replace h := h.1 hb
                  rw [hb] at hs
                  clear hb
                  refine d_pure hs #[true, true, true, true, true, true, true, true, true, true, true, true, true, true, true, true, true, true, true, true, true, true, true, true, true, true, true, true, true, true, true, false, false, false, false, false, false, false, false, false, false, false, false, false] (i := 30) rfl rfl rfl (by decide) (by kernel_rfl) (tight_body (P := Try.prog) (fn := Try.f12)) (p_move rfl rfl) ?_
                  clear hs a
                  intro a hs
                  refine d_pure hs #[true, true, true, true, true, true, true, true, true, true, true, true, true, true, true, true, true, true, true, true, true, true, true, true, true, true, true, true, true, true, true, false, true, false, false, false, false, false, false, false, false, false, false, false] (i := 32) rfl rfl rfl (by decide) (by kernel_rfl) (tight_body (P := Try.prog) (fn := Try.f12)) (p_move rfl rfl) ?_
                  clear hs a
                  intro a hs
                  replace hs := hs.to (τ := [(1, (Sl.val raw1)), (6, (Sl.val t29)), (76, (.bool true)), (77, (Sl.val t26)), (79, (Sl.val body0))]) ⟨rfl, rfl, rfl, rfl, rfl, trivial⟩
                  obtain ⟨t78, hd, h⟩ := h
                  refine d_read hs #[true, true, true, true, true, true, true, true, true, true, true, true, true, true, true, true, true, true, true, true, true, true, true, true, true, true, true, true, true, true, true, true, true, false, false, false, false, false, false, false, false, false, false, false] (i := 31) rfl rfl rfl (by decide) (by kernel_rfl) (by kernel_rfl) (tight_body (P := Try.prog) (fn := Try.f12)) hS (fun w h' => e_convert rfl rfl (hd w h')) ?_
                  clear hs a hd
                  intro a hs
                  obtain ⟨t80, hd, h⟩ := h
                  refine d_read hs #[true, true, true, true, true, true, true, true, true, true, true, true, true, true, true, true, true, true, true, true, true, true, true, true, true, true, true, true, true, true, true, true, true, true, false, false, false, false, false, false, false, false, false, false] (i := 33) rfl rfl rfl (by decide) (by kernel_rfl) (by kernel_rfl) (tight_body (P := Try.prog) (fn := Try.f12)) hS (fun w h' => e_convert rfl rfl (hd w h')) ?_
                  clear hs a hd
                  intro a hs
                  refine d_pure hs #[true, true, true, true, true, true, true, true, true, true, true, true, true, true, true, true, true, true, true, true, true, true, true, true, true, true, true, true, true, true, true, true, true, true, true, false, false, false, false, false, false, false, false, false] (i := 34) rfl rfl rfl (by decide) (by kernel_rfl) (tight_body (P := Try.prog) (fn := Try.f12)) (p_eqs rfl rfl rfl) ?_
                  clear hs a
                  intro a hs
                  refine d_pure hs #[true, true, true, true, true, true, true, true, true, true, true, true, true, true, true, true, true, true, true, true, true, true, true, true, true, true, true, true, true, true, true, true, true, true, true, true, false, false, false, false, false, false, false, false] (i := 35) rfl rfl rfl (by decide) (by kernel_rfl) (tight_body (P := Try.prog) (fn := Try.f12)) (p_pick_t rfl rfl rfl) ?_
                  clear hs a
                  intro a hs
                  refine d_pure hs #[true, true, true, true, true, true, true, true, true, true, true, true, true, true, true, true, true, true, true, true, true, true, true, true, true, true, true, true, true, true, true, true, true, true, true, true, true, false, false, false, false, false, false, false] (i := 36) rfl rfl rfl (by decide) (by kernel_rfl) (tight_body (P := Try.prog) (fn := Try.f12)) (p_move rfl rfl) ?_
                  clear hs a
                  intro a hs
                  refine split_bool (t78.toList == t80.toList) (fun hb => ?_) (fun hb => ?_)
                  · replace h := h.1 hb
                    rw [hb] at hs
                    clear hb
                    refine d_pure hs #[true, true, true, true, true, true, true, true, true, true, true, true, true, true, true, true, true, true, true, true, true, true, true, true, true, true, true, true, true, true, true, true, true, true, true, true, true, true, false, false, false, false, false, false] (i := 37) rfl rfl rfl (by decide) (by kernel_rfl) (tight_body (P := Try.prog) (fn := Try.f12)) (p_move rfl rfl) ?_
                    clear hs a
                    intro a hs
                    refine d_pure hs #[true, true, true, true, true, true, true, true, true, true, true, true, true, true, true, true, true, true, true, true, true, true, true, true, true, true, true, true, true, true, true, true, true, true, true, true, true, true, false, true, false, false, false, false] (i := 39) rfl rfl rfl (by decide) (by kernel_rfl) (tight_body (P := Try.prog) (fn := Try.f12)) (p_move rfl rfl) ?_
                    clear hs a
                    intro a hs
                    obtain ⟨t85, hd, h⟩ := h
                    refine d_read hs #[true, true, true, true, true, true, true, true, true, true, true, true, true, true, true, true, true, true, true, true, true, true, true, true, true, true, true, true, true, true, true, true, true, true, true, true, true, true, true, true, false, false, false, false] (i := 38) rfl rfl rfl (by decide) (by kernel_rfl) (by kernel_rfl) (tight_body (P := Try.prog) (fn := Try.f12)) hS (fun w h' => e_convert rfl rfl (hd w h')) ?_
                    clear hs a hd
                    intro a hs
                    replace hs := hs.to (τ := [(83, (.bool true)), (85, (.string t85)), (86, (Sl.val raw1))]) ⟨rfl, rfl, rfl, trivial⟩
                    obtain ⟨t87, hd, h⟩ := h
                    refine d_read hs #[true, true, true, true, true, true, true, true, true, true, true, true, true, true, true, true, true, true, true, true, true, true, true, true, true, true, true, true, true, true, true, true, true, true, true, true, true, true, true, true, true, false, false, false] (i := 40) rfl rfl rfl (by decide) (by kernel_rfl) (by kernel_rfl) (tight_body (P := Try.prog) (fn := Try.f12)) hS (fun w h' => e_convert rfl rfl (hd w h')) ?_
                    clear hs a hd
                    intro a hs
                    refine d_pure hs #[true, true, true, true, true, true, true, true, true, true, true, true, true, true, true, true, true, true, true, true, true, true, true, true, true, true, true, true, true, true, true, true, true, true, true, true, true, true, true, true, true, true, false, false] (i := 41) rfl rfl rfl (by decide) (by kernel_rfl) (tight_body (P := Try.prog) (fn := Try.f12)) (p_eqs rfl rfl rfl) ?_
                    clear hs a
                    intro a hs
                    refine d_pure hs #[true, true, true, true, true, true, true, true, true, true, true, true, true, true, true, true, true, true, true, true, true, true, true, true, true, true, true, true, true, true, true, true, true, true, true, true, true, true, true, true, true, true, true, false] (i := 42) rfl rfl rfl (by decide) (by kernel_rfl) (tight_body (P := Try.prog) (fn := Try.f12)) (p_pick_t rfl rfl rfl) ?_
                    clear hs a
                    intro a hs
                    refine d_pure hs #[true, true, true, true, true, true, true, true, true, true, true, true, true, true, true, true, true, true, true, true, true, true, true, true, true, true, true, true, true, true, true, true, true, true, true, true, true, true, true, true, true, true, true, true] (i := 43) rfl rfl rfl (by decide) (by kernel_rfl) (tight_body (P := Try.prog) (fn := Try.f12)) (p_assign rfl rfl) ?_
                    clear hs a
                    intro a hs
                    refine d_done (by kernel_rfl) ?_ _
                    clear hS
                    exact J2 (t85.toList == t87.toList) _ _ (hs.to ⟨rfl, trivial⟩) h
                  · replace h := h.2 hb
                    rw [hb] at hs
                    clear hb
                    refine d_no hs #[true, true, true, true, true, true, true, true, true, true, true, true, true, true, true, true, true, true, true, true, true, true, true, true, true, true, true, true, true, true, true, true, true, true, true, true, true, true, false, false, false, false, false, false] (i := 37) rfl rfl rfl (by decide) (by kernel_rfl) (tight_body (P := Try.prog) (fn := Try.f12)) ?_
                    clear hs a
                    intro a hs
                    refine d_no hs #[true, true, true, true, true, true, true, true, true, true, true, true, true, true, true, true, true, true, true, true, true, true, true, true, true, true, true, true, true, true, true, true, true, true, true, true, true, true, true, false, false, false, false, false] (i := 38) rfl rfl rfl (by decide) (by kernel_rfl) (tight_body (P := Try.prog) (fn := Try.f12)) ?_
                    clear hs a
                    intro a hs
                    refine d_no hs #[true, true, true, true, true, true, true, true, true, true, true, true, true, true, true, true, true, true, true, true, true, true, true, true, true, true, true, true, true, true, true, true, true, true, true, true, true, true, true, true, false, false, false, false] (i := 39) rfl rfl rfl (by decide) (by kernel_rfl) (tight_body (P := Try.prog) (fn := Try.f12)) ?_
                    clear hs a
                    intro a hs
                    replace hs := hs.to (τ := [(83, (.bool false)), (85, undef), (86, undef)]) ⟨rfl, rfl, rfl, trivial⟩
                    refine d_no hs #[true, true, true, true, true, true, true, true, true, true, true, true, true, true, true, true, true, true, true, true, true, true, true, true, true, true, true, true, true, true, true, true, true, true, true, true, true, true, true, true, true, false, false, false] (i := 40) rfl rfl rfl (by decide) (by kernel_rfl) (tight_body (P := Try.prog) (fn := Try.f12)) ?_
                    clear hs a
                    intro a hs
                    refine d_no hs #[true, true, true, true, true, true, true, true, true, true, true, true, true, true, true, true, true, true, true, true, true, true, true, true, true, true, true, true, true, true, true, true, true, true, true, true, true, true, true, true, true, true, false, false] (i := 41) rfl rfl rfl (by decide) (by kernel_rfl) (tight_body (P := Try.prog) (fn := Try.f12)) ?_
                    clear hs a
                    intro a hs
                    refine d_pure hs #[true, true, true, true, true, true, true, true, true, true, true, true, true, true, true, true, true, true, true, true, true, true, true, true, true, true, true, true, true, true, true, true, true, true, true, true, true, true, true, true, true, true, true, false] (i := 42) rfl rfl rfl (by decide) (by kernel_rfl) (tight_body (P := Try.prog) (fn := Try.f12)) (p_pick_f rfl rfl rfl) ?_
                    clear hs a
                    intro a hs
                    refine d_pure hs #[true, true, true, true, true, true, true, true, true, true, true, true, true, true, true, true, true, true, true, true, true, true, true, true, true, true, true, true, true, true, true, true, true, true, true, true, true, true, true, true, true, true, true, true] (i := 43) rfl rfl rfl (by decide) (by kernel_rfl) (tight_body (P := Try.prog) (fn := Try.f12)) (p_assign rfl rfl) ?_
                    clear hs a
                    intro a hs
                    refine d_done (by kernel_rfl) ?_ _
                    clear hS
                    exact J2 false _ _ (hs.to ⟨rfl, trivial⟩) h
                · replace h := h.2 hb
                  rw [hb] at hs
                  clear hb
                  refine d_no hs #[true, true, true, true, true, true, true, true, true, true, true, true, true, true, true, true, true, true, true, true, true, true, true, true, true, true, true, true, true, true, true, false, false, false, false, false, false, false, false, false, false, false, false, false] (i := 30) rfl rfl rfl (by decide) (by kernel_rfl) (tight_body (P := Try.prog) (fn := Try.f12)) ?_
                  clear hs a
                  intro a hs
                  refine d_no hs #[true, true, true, true, true, true, true, true, true, true, true, true, true, true, true, true, true, true, true, true, true, true, true, true, true, true, true, true, true, true, true, true, false, false, false, false, false, false, false, false, false, false, false, false] (i := 31) rfl rfl rfl (by decide) (by kernel_rfl) (tight_body (P := Try.prog) (fn := Try.f12)) ?_
                  clear hs a
                  intro a hs
                  replace hs := hs.to (τ := [(0, (Sl.val body0)), (1, (Sl.val raw1)), (6, (Sl.val t29)), (76, (.bool false)), (78, undef)]) ⟨rfl, rfl, rfl, rfl, rfl, trivial⟩
                  refine d_no hs #[true, true, true, true, true, true, true, true, true, true, true, true, true, true, true, true, true, true, true, true, true, true, true, true, true, true, true, true, true, true, true, true, true, false, false, false, false, false, false, false, false, false, false, false] (i := 32) rfl rfl rfl (by decide) (by kernel_rfl) (tight_body (P := Try.prog) (fn := Try.f12)) ?_
                  clear hs a
                  intro a hs
                  refine d_no hs #[true, true, true, true, true, true, true, true, true, true, true, true, true, true, true, true, true, true, true, true, true, true, true, true, true, true, true, true, true, true, true, true, true, true, false, false, false, false, false, false, false, false, false, false] (i := 33) rfl rfl rfl (by decide) (by kernel_rfl) (tight_body (P := Try.prog) (fn := Try.f12)) ?_
                  clear hs a
                  intro a hs
                  refine d_no hs #[true, true, true, true, true, true, true, true, true, true, true, true, true, true, true, true, true, true, true, true, true, true, true, true, true, true, true, true, true, true, true, true, true, true, true, false, false, false, false, false, false, false, false, false] (i := 34) rfl rfl rfl (by decide) (by kernel_rfl) (tight_body (P := Try.prog) (fn := Try.f12)) ?_
                  clear hs a
                  intro a hs
                  refine d_pure hs #[true, true, true, true, true, true, true, true, true, true, true, true, true, true, true, true, true, true, true, true, true, true, true, true, true, true, true, true, true, true, true, true, true, true, true, true, false, false, false, false, false, false, false, false] (i := 35) rfl rfl rfl (by decide) (by kernel_rfl) (tight_body (P := Try.prog) (fn := Try.f12)) (p_pick_f rfl rfl rfl) ?_
                  clear hs a
                  intro a hs
                  refine d_pure hs #[true, true, true, true, true, true, true, true, true, true, true, true, true, true, true, true, true, true, true, true, true, true, true, true, true, true, true, true, true, true, true, true, true, true, true, true, true, false, false, false, false, false, false, false] (i := 36) rfl rfl rfl (by decide) (by kernel_rfl) (tight_body (P := Try.prog) (fn := Try.f12)) (p_move rfl rfl) ?_
                  clear hs a
                  intro a hs
                  refine d_no hs #[true, true, true, true, true, true, true, true, true, true, true, true, true, true, true, true, true, true, true, true, true, true, true, true, true, true, true, true, true, true, true, true, true, true, true, true, true, true, false, false, false, false, false, false] (i := 37) rfl rfl rfl (by decide) (by kernel_rfl) (tight_body (P := Try.prog) (fn := Try.f12)) ?_
                  clear hs a
                  intro a hs
                  refine d_no hs #[true, true, true, true, true, true, true, true, true, true, true, true, true, true, true, true, true, true, true, true, true, true, true, true, true, true, true, true, true, true, true, true, true, true, true, true, true, true, true, false, false, false, false, false] (i := 38) rfl rfl rfl (by decide) (by kernel_rfl) (tight_body (P := Try.prog) (fn := Try.f12)) ?_
                  clear hs a
                  intro a hs
                  refine d_no hs #[true, true, true, true, true, true, true, true, true, true, true, true, true, true, true, true, true, true, true, true, true, true, true, true, true, true, true, true, true, true, true, true, true, true, true, true, true, true, true, true, false, false, false, false] (i := 39) rfl rfl rfl (by decide) (by kernel_rfl) (tight_body (P := Try.prog) (fn := Try.f12)) ?_
                  clear hs a
                  intro a hs
                  replace hs := hs.to (τ := [(83, (.bool false)), (85, undef), (86, undef)]) ⟨rfl, rfl, rfl, trivial⟩
                  refine d_no hs #[true, true, true, true, true, true, true, true, true, true, true, true, true, true, true, true, true, true, true, true, true, true, true, true, true, true, true, true, true, true, true, true, true, true, true, true, true, true, true, true, true, false, false, false] (i := 40) rfl rfl rfl (by decide) (by kernel_rfl) (tight_body (P := Try.prog) (fn := Try.f12)) ?_
                  clear hs a
                  intro a hs
                  refine d_no hs #[true, true, true, true, true, true, true, true, true, true, true, true, true, true, true, true, true, true, true, true, true, true, true, true, true, true, true, true, true, true, true, true, true, true, true, true, true, true, true, true, true, true, false, false] (i := 41) rfl rfl rfl (by decide) (by kernel_rfl) (tight_body (P := Try.prog) (fn := Try.f12)) ?_
                  clear hs a
                  intro a hs
                  refine d_pure hs #[true, true, true, true, true, true, true, true, true, true, true, true, true, true, true, true, true, true, true, true, true, true, true, true, true, true, true, true, true, true, true, true, true, true, true, true, true, true, true, true, true, true, true, false] (i := 42) rfl rfl rfl (by decide) (by kernel_rfl) (tight_body (P := Try.prog) (fn := Try.f12)) (p_pick_f rfl rfl rfl) ?_
                  clear hs a
                  intro a hs
                  refine d_pure hs #[true, true, true, true, true, true, true, true, true, true, true, true, true, true, true, true, true, true, true, true, true, true, true, true, true, true, true, true, true, true, true, true, true, true, true, true, true, true, true, true, true, true, true, true] (i := 43) rfl rfl rfl (by decide) (by kernel_rfl) (tight_body (P := Try.prog) (fn := Try.f12)) (p_assign rfl rfl) ?_
                  clear hs a
                  intro a hs
                  refine d_done (by kernel_rfl) ?_ _
                  clear hS
                  exact J2 false _ _ (hs.to ⟨rfl, trivial⟩) h
              · replace h := h.2 hb
                rw [hb] at hs
                clear hb
                refine d_no hs #[true, true, true, true, true, true, true, true, true, true, true, true, true, true, true, true, true, true, true, true, true, true, true, true, false, false, false, false, false, false, false, false, false, false, false, false, false, false, false, false, false, false, false, false] (i := 23) rfl rfl rfl (by decide) (by kernel_rfl) (tight_body (P := Try.prog) (fn := Try.f12)) ?_
                clear hs a
                intro a hs
                replace hs := hs.to (τ := [(0, (Sl.val body0)), (1, (Sl.val raw1)), (5, (Sl.val t26)), (6, (Sl.val t29)), (12, (Sl.val t44x0)), (69, (.bool false)), (70, undef)]) ⟨rfl, rfl, rfl, rfl, rfl, rfl, rfl, trivial⟩
                refine d_no hs #[true, true, true, true, true, true, true, true, true, true, true, true, true, true, true, true, true, true, true, true, true, true, true, true, true, false, false, false, false, false, false, false, false, false, false, false, false, false, false, false, false, false, false, false] (i := 24) rfl rfl rfl (by decide) (by kernel_rfl) (tight_body (P := Try.prog) (fn := Try.f12)) ?_
                clear hs a
                intro a hs
                refine d_no hs #[true, true, true, true, true, true, true, true, true, true, true, true, true, true, true, true, true, true, true, true, true, true, true, true, true, true, false, false, false, false, false, false, false, false, false, false, false, false, false, false, false, false, false, false] (i := 25) rfl rfl rfl (by decide) (by kernel_rfl) (tight_body (P := Try.prog) (fn := Try.f12)) ?_
                clear hs a
                intro a hs
                refine d_no hs #[true, true, true, true, true, true, true, true, true, true, true, true, true, true, true, true, true, true, true, true, true, true, true, true, true, true, true, false, false, false, false, false, false, false, false, false, false, false, false, false, false, false, false, false] (i := 26) rfl rfl rfl (by decide) (by kernel_rfl) (tight_body (P := Try.prog) (fn := Try.f12)) ?_
                clear hs a
                intro a hs
                refine d_no hs #[true, true, true, true, true, true, true, true, true, true, true, true, true, true, true, true, true, true, true, true, true, true, true, true, true, true, true, true, false, false, false, false, false, false, false, false, false, false, false, false, false, false, false, false] (i := 27) rfl rfl rfl (by decide) (by kernel_rfl) (tight_body (P := Try.prog) (fn := Try.f12)) ?_
                clear hs a
                intro a hs
                refine d_pure hs #[true, true, true, true, true, true, true, true, true, true, true, true, true, true, true, true, true, true, true, true, true, true, true, true, true, true, true, true, true, false, false, false, false, false, false, false, false, false, false, false, false, false, false, false] (i := 28) rfl rfl rfl (by decide) (by kernel_rfl) (tight_body (P := Try.prog) (fn := Try.f12)) (p_pick_f rfl rfl rfl) ?_
                clear hs a
                intro a hs
                refine d_pure hs #[true, true, true, true, true, true, true, true, true, true, true, true, true, true, true, true, true, true, true, true, true, true, true, true, true, true, true, true, true, true, false, false, false, false, false, false, false, false, false, false, false, false, false, false] (i := 29) rfl rfl rfl (by decide) (by kernel_rfl) (tight_body (P := Try.prog) (fn := Try.f12)) (p_move rfl rfl) ?_
                clear hs a
                intro a hs
                refine d_no hs #[true, true, true, true, true, true, true, true, true, true, true, true, true, true, true, true, true, true, true, true, true, true, true, true, true, true, true, true, true, true, true, false, false, false, false, false, false, false, false, false, false, false, false, false] (i := 30) rfl rfl rfl (by decide) (by kernel_rfl) (tight_body (P := Try.prog) (fn := Try.f12)) ?_
                clear hs a
                intro a hs
                refine d_no hs #[true, true, true, true, true, true, true, true, true, true, true, true, true, true, true, true, true, true, true, true, true, true, true, true, true, true, true, true, true, true, true, true, false, false, false, false, false, false, false, false, false, false, false, false] (i := 31) rfl rfl rfl (by decide) (by kernel_rfl) (tight_body (P := Try.prog) (fn := Try.f12)) ?_
                clear hs a
                intro a hs
                replace hs := hs.to (τ := [(0, (Sl.val body0)), (1, (Sl.val raw1)), (6, (Sl.val t29)), (76, (.bool false)), (78, undef)]) ⟨rfl, rfl, rfl, rfl, rfl, trivial⟩
                refine d_no hs #[true, true, true, true, true, true, true, true, true, true, true, true, true, true, true, true, true, true, true, true, true, true, true, true, true, true, true, true, true, true, true, true, true, false, false, false, false, false, false, false, false, false, false, false] (i := 32) rfl rfl rfl (by decide) (by kernel_rfl) (tight_body (P := Try.prog) (fn := Try.f12)) ?_
                clear hs a
                intro a hs
                refine d_no hs #[true, true, true, true, true, true, true, true, true, true, true, true, true, true, true, true, true, true, true, true, true, true, true, true, true, true, true, true, true, true, true, true, true, true, false, false, false, false, false, false, false, false, false, false] (i := 33) rfl rfl rfl (by decide) (by kernel_rfl) (tight_body (P := Try.prog) (fn := Try.f12)) ?_
                clear hs a
                intro a hs
                refine d_no hs #[true, true, true, true, true, true, true, true, true, true, true, true, true, true, true, true, true, true, true, true, true, true, true, true, true, true, true, true, true, true, true, true, true, true, true, false, false, false, false, false, false, false, false, false] (i := 34) rfl rfl rfl (by decide) (by kernel_rfl) (tight_body (P := Try.prog) (fn := Try.f12)) ?_
                clear hs a
                intro a hs
                refine d_pure hs #[true, true, true, true, true, true, true, true, true, true, true, true, true, true, true, true, true, true, true, true, true, true, true, true, true, true, true, true, true, true, true, true, true, true, true, true, false, false, false, false, false, false, false, false] (i := 35) rfl rfl rfl (by decide) (by kernel_rfl) (tight_body (P := Try.prog) (fn := Try.f12)) (p_pick_f rfl rfl rfl) ?_
                clear hs a
                intro a hs
                refine d_pure hs #[true, true, true, true, true, true, true, true, true, true, true, true, true, true, true, true, true, true, true, true, true, true, true, true, true, true, true, true, true, true, true, true, true, true, true, true, true, false, false, false, false, false, false, false] (i := 36) rfl rfl rfl (by decide) (by kernel_rfl) (tight_body (P := Try.prog) (fn := Try.f12)) (p_move rfl rfl) ?_
                clear hs a
                intro a hs
                refine d_no hs #[true, true, true, true, true, true, true, true, true, true, true, true, true, true, true, true, true, true, true, true, true, true, true, true, true, true, true, true, true, true, true, true, true, true, true, true, true, true, false, false, false, false, false, false] (i := 37) rfl rfl rfl (by decide) (by kernel_rfl) (tight_body (P := Try.prog) (fn := Try.f12)) ?_
                clear hs a
                intro a hs
                refine d_no hs #[true, true, true, true, true, true, true, true, true, true, true, true, true, true, true, true, true, true, true, true, true, true, true, true, true, true, true, true, true, true, true, true, true, true, true, true, true, true, true, false, false, false, false, false] (i := 38) rfl rfl rfl (by decide) (by kernel_rfl) (tight_body (P := Try.prog) (fn := Try.f12)) ?_
                clear hs a
                intro a hs
                refine d_no hs #[true, true, true, true, true, true, true, true, true, true, true, true, true, true, true, true, true, true, true, true, true, true, true, true, true, true, true, true, true, true, true, true, true, true, true, true, true, true, true, true, false, false, false, false] (i := 39) rfl rfl rfl (by decide) (by kernel_rfl) (tight_body (P := Try.prog) (fn := Try.f12)) ?_
                clear hs a
                intro a hs
                replace hs := hs.to (τ := [(83, (.bool false)), (85, undef), (86, undef)]) ⟨rfl, rfl, rfl, trivial⟩
                refine d_no hs #[true, true, true, true, true, true, true, true, true, true, true, true, true, true, true, true, true, true, true, true, true, true, true, true, true, true, true, true, true, true, true, true, true, true, true, true, true, true, true, true, true, false, false, false] (i := 40) rfl rfl rfl (by decide) (by kernel_rfl) (tight_body (P := Try.prog) (fn := Try.f12)) ?_
                clear hs a
                intro a hs
                refine d_no hs #[true, true, true, true, true, true, true, true, true, true, true, true, true, true, true, true, true, true, true, true, true, true, true, true, true, true, true, true, true, true, true, true, true, true, true, true, true, true, true, true, true, true, false, false] (i := 41) rfl rfl rfl (by decide) (by kernel_rfl) (tight_body (P := Try.prog) (fn := Try.f12)) ?_
                clear hs a
                intro a hs
                refine d_pure hs #[true, true, true, true, true, true, true, true, true, true, true, true, true, true, true, true, true, true, true, true, true, true, true, true, true, true, true, true, true, true, true, true, true, true, true, true, true, true, true, true, true, true, true, false] (i := 42) rfl rfl rfl (by decide) (by kernel_rfl) (tight_body (P := Try.prog) (fn := Try.f12)) (p_pick_f rfl rfl rfl) ?_
                clear hs a
                intro a hs
                refine d_pure hs #[true, true, true, true, true, true, true, true, true, true, true, true, true, true, true, true, true, true, true, true, true, true, true, true, true, true, true, true, true, true, true, true, true, true, true, true, true, true, true, true, true, true, true, true] (i := 43) rfl rfl rfl (by decide) (by kernel_rfl) (tight_body (P := Try.prog) (fn := Try.f12)) (p_assign rfl rfl) ?_
                clear hs a
                intro a hs
                refine d_done (by kernel_rfl) ?_ _
                clear hS
                exact J2 false _ _ (hs.to ⟨rfl, trivial⟩) h
            · replace h := h.2 hb
              rw [hb] at hs
              clear hb
              refine d_no hs #[true, true, true, true, true, true, true, true, true, true, true, true, true, true, true, true, true, true, true, false, false, false, false, false, false, false, false, false, false, false, false, false, false, false, false, false, false, false, false, false, false, false, false, false] (i := 18) rfl rfl rfl (by decide) (by kernel_rfl) (tight_body (P := Try.prog) (fn := Try.f12)) ?_
              clear hs a
              intro a hs
              refine d_no hs #[true, true, true, true, true, true, true, true, true, true, true, true, true, true, true, true, true, true, true, true, false, false, false, false, false, false, false, false, false, false, false, false, false, false, false, false, false, false, false, false, false, false, false, false] (i := 19) rfl rfl rfl (by decide) (by kernel_rfl) (tight_body (P := Try.prog) (fn := Try.f12)) ?_
              clear hs a
              intro a hs
              refine d_no hs #[true, true, true, true, true, true, true, true, true, true, true, true, true, true, true, true, true, true, true, true, true, false, false, false, false, false, false, false, false, false, false, false, false, false, false, false, false, false, false, false, false, false, false, false] (i := 20) rfl rfl rfl (by decide) (by kernel_rfl) (tight_body (P := Try.prog) (fn := Try.f12)) ?_
              clear hs a
              intro a hs
              refine d_pure hs #[true, true, true, true, true, true, true, true, true, true, true, true, true, true, true, true, true, true, true, true, true, true, false, false, false, false, false, false, false, false, false, false, false, false, false, false, false, false, false, false, false, false, false, false] (i := 21) rfl rfl rfl (by decide) (by kernel_rfl) (tight_body (P := Try.prog) (fn := Try.f12)) (p_pick_f rfl rfl rfl) ?_
              clear hs a
              intro a hs
              refine d_pure hs #[true, true, true, true, true, true, true, true, true, true, true, true, true, true, true, true, true, true, true, true, true, true, true, false, false, false, false, false, false, false, false, false, false, false, false, false, false, false, false, false, false, false, false, false] (i := 22) rfl rfl rfl (by decide) (by kernel_rfl) (tight_body (P := Try.prog) (fn := Try.f12)) (p_move rfl rfl) ?_
              clear hs a
              intro a hs
              refine d_no hs #[true, true, true, true, true, true, true, true, true, true, true, true, true, true, true, true, true, true, true, true, true, true, true, true, false, false, false, false, false, false, false, false, false, false, false, false, false, false, false, false, false, false, false, false] (i := 23) rfl rfl rfl (by decide) (by kernel_rfl) (tight_body (P := Try.prog) (fn := Try.f12)) ?_
              clear hs a
              intro a hs
              replace hs := hs.to (τ := [(0, (Sl.val body0)), (1, (Sl.val raw1)), (5, (Sl.val t26)), (6, (Sl.val t29)), (12, (Sl.val t44x0)), (69, (.bool false)), (70, undef)]) ⟨rfl, rfl, rfl, rfl, rfl, rfl, rfl, trivial⟩
              refine d_no hs #[true, true, true, true, true, true, true, true, true, true, true, true, true, true, true, true, true, true, true, true, true, true, true, true, true, false, false, false, false, false, false, false, false, false, false, false, false, false, false, false, false, false, false, false] (i := 24) rfl rfl rfl (by decide) (by kernel_rfl) (tight_body (P := Try.prog) (fn := Try.f12)) ?_
              clear hs a
              intro a hs
              refine d_no hs #[true, true, true, true, true, true, true, true, true, true, true, true, true, true, true, true, true, true, true, true, true, true, true, true, true, true, false, false, false, false, false, false, false, false, false, false, false, false, false, false, false, false, false, false] (i := 25) rfl rfl rfl (by decide) (by kernel_rfl) (tight_body (P := Try.prog) (fn := Try.f12)) ?_
              clear hs a
              intro a hs
              refine d_no hs #[true, true, true, true, true, true, true, true, true, true, true, true, true, true, true, true, true, true, true, true, true, true, true, true, true, true, true, false, false, false, false, false, false, false, false, false, false, false, false, false, false, false, false, false] (i := 26) rfl rfl rfl (by decide) (by kernel_rfl) (tight_body (P := Try.prog) (fn := Try.f12)) ?_
              clear hs a
              intro a hs
              refine d_no hs #[true, true, true, true, true, true, true, true, true, true, true, true, true, true, true, true, true, true, true, true, true, true, true, true, true, true, true, true, false, false, false, false, false, false, false, false, false, false, false, false, false, false, false, false] (i := 27) rfl rfl rfl (by decide) (by kernel_rfl) (tight_body (P := Try.prog) (fn := Try.f12)) ?_
              clear hs a
              intro a hs
              refine d_pure hs #[true, true, true, true, true, true, true, true, true, true, true, true, true, true, true, true, true, true, true, true, true, true, true, true, true, true, true, true, true, false, false, false, false, false, false, false, false, false, false, false, false, false, false, false] (i := 28) rfl rfl rfl (by decide) (by kernel_rfl) (tight_body (P := Try.prog) (fn := Try.f12)) (p_pick_f rfl rfl rfl) ?_
              clear hs a
              intro a hs
              refine d_pure hs #[true, true, true, true, true, true, true, true, true, true, true, true, true, true, true, true, true, true, true, true, true, true, true, true, true, true, true, true, true, true, false, false, false, false, false, false, false, false, false, false, false, false, false, false] (i := 29) rfl rfl rfl (by decide) (by kernel_rfl) (tight_body (P := Try.prog) (fn := Try.f12)) (p_move rfl rfl) ?_
              clear hs a
              intro a hs
              refine d_no hs #[true, true, true, true, true, true, true, true, true, true, true, true, true, true, true, true, true, true, true, true, true, true, true, true, true, true, true, true, true, true, true, false, false, false, false, false, false, false, false, false, false, false, false, false] (i := 30) rfl rfl rfl (by decide) (by kernel_rfl) (tight_body (P := Try.prog) (fn := Try.f12)) ?_
              clear hs a
              intro a hs
              refine d_no hs #[true, true, true, true, true, true, true, true, true, true, true, true, true, true, true, true, true, true, true, true, true, true, true, true, true, true, true, true, true, true, true, true, false, false, false, false, false, false, false, false, false, false, false, false] (i := 31) rfl rfl rfl (by decide) (by kernel_rfl) (tight_body (P := Try.prog) (fn := Try.f12)) ?_
              clear hs a
              intro a hs
              replace hs := hs.to (τ := [(0, (Sl.val body0)), (1, (Sl.val raw1)), (6, (Sl.val t29)), (76, (.bool false)), (78, undef)]) ⟨rfl, rfl, rfl, rfl, rfl, trivial⟩
              refine d_no hs #[true, true, true, true, true, true, true, true, true, true, true, true, true, true, true, true, true, true, true, true, true, true, true, true, true, true, true, true, true, true, true, true, true, false, false, false, false, false, false, false, false, false, false, false] (i := 32) rfl rfl rfl (by decide) (by kernel_rfl) (tight_body (P := Try.prog) (fn := Try.f12)) ?_
              clear hs a
              intro a hs
              refine d_no hs #[true, true, true, true, true, true, true, true, true, true, true, true, true, true, true, true, true, true, true, true, true, true, true, true, true, true, true, true, true, true, true, true, true, true, false, false, false, false, false, false, false, false, false, false] (i := 33) rfl rfl rfl (by decide) (by kernel_rfl) (tight_body (P := Try.prog) (fn := Try.f12)) ?_
              clear hs a
              intro a hs
              refine d_no hs #[true, true, true, true, true, true, true, true, true, true, true, true, true, true, true, true, true, true, true, true, true, true, true, true, true, true, true, true, true, true, true, true, true, true, true, false, false, false, false, false, false, false, false, false] (i := 34) rfl rfl rfl (by decide) (by kernel_rfl) (tight_body (P := Try.prog) (fn := Try.f12)) ?_
              clear hs a
              intro a hs
              refine d_pure hs #[true, true, true, true, true, true, true, true, true, true, true, true, true, true, true, true, true, true, true, true, true, true, true, true, true, true, true, true, true, true, true, true, true, true, true, true, false, false, false, false, false, false, false, false] (i := 35) rfl rfl rfl (by decide) (by kernel_rfl) (tight_body (P := Try.prog) (fn := Try.f12)) (p_pick_f rfl rfl rfl) ?_
              clear hs a
              intro a hs
              refine d_pure hs #[true, true, true, true, true, true, true, true, true, true, true, true, true, true, true, true, true, true, true, true, true, true, true, true, true, true, true, true, true, true, true, true, true, true, true, true, true, false, false, false, false, false, false, false] (i := 36) rfl rfl rfl (by decide) (by kernel_rfl) (tight_body (P := Try.prog) (fn := Try.f12)) (p_move rfl rfl) ?_
              clear hs a
              intro a hs
              refine d_no hs #[true, true, true, true, true, true, true, true, true, true, true, true, true, true, true, true, true, true, true, true, true, true, true, true, true, true, true, true, true, true, true, true, true, true, true, true, true, true, false, false, false, false, false, false] (i := 37) rfl rfl rfl (by decide) (by kernel_rfl) (tight_body (P := Try.prog) (fn := Try.f12)) ?_
              clear hs a
              intro a hs
              refine d_no hs #[true, true, true, true, true, true, true, true, true, true, true, true, true, true, true, true, true, true, true, true, true, true, true, true, true, true, true, true, true, true, true, true, true, true, true, true, true, true, true, false, false, false, false, false] (i := 38) rfl rfl rfl (by decide) (by kernel_rfl) (tight_body (P := Try.prog) (fn := Try.f12)) ?_
              clear hs a
              intro a hs
              refine d_no hs #[true, true, true, true, true, true, true, true, true, true, true, true, true, true, true, true, true, true, true, true, true, true, true, true, true, true, true, true, true, true, true, true, true, true, true, true, true, true, true, true, false, false, false, false] (i := 39) rfl rfl rfl (by decide) (by kernel_rfl) (tight_body (P := Try.prog) (fn := Try.f12)) ?_
              clear hs a
              intro a hs
              replace hs := hs.to (τ := [(83, (.bool false)), (85, undef), (86, undef)]) ⟨rfl, rfl, rfl, trivial⟩
              refine d_no hs #[true, true, true, true, true, true, true, true, true, true, true, true, true, true, true, true, true, true, true, true, true, true, true, true, true, true, true, true, true, true, true, true, true, true, true, true, true, true, true, true, true, false, false, false] (i := 40) rfl rfl rfl (by decide) (by kernel_rfl) (tight_body (P := Try.prog) (fn := Try.f12)) ?_
              clear hs a
              intro a hs
              refine d_no hs #[true, true, true, true, true, true, true, true, true, true, true, true, true, true, true, true, true, true, true, true, true, true, true, true, true, true, true, true, true, true, true, true, true, true, true, true, true, true, true, true, true, true, false, false] (i := 41) rfl rfl rfl (by decide) (by kernel_rfl) (tight_body (P := Try.prog) (fn := Try.f12)) ?_
              clear hs a
              intro a hs
              refine d_pure hs #[true, true, true, true, true, true, true, true, true, true, true, true, true, true, true, true, true, true, true, true, true, true, true, true, true, true, true, true, true, true, true, true, true, true, true, true, true, true, true, true, true, true, true, false] (i := 42) rfl rfl rfl (by decide) (by kernel_rfl) (tight_body (P := Try.prog) (fn := Try.f12)) (p_pick_f rfl rfl rfl) ?_
              clear hs a
              intro a hs
              refine d_pure hs #[true, true, true, true, true, true, true, true, true, true, true, true, true, true, true, true, true, true, true, true, true, true, true, true, true, true, true, true, true, true, true, true, true, true, true, true, true, true, true, true, true, true, true, true] (i := 43) rfl rfl rfl (by decide) (by kernel_rfl) (tight_body (P := Try.prog) (fn := Try.f12)) (p_assign rfl rfl) ?_
              clear hs a
              intro a hs
              refine d_done (by kernel_rfl) ?_ _
              clear hS
              exact J2 false _ _ (hs.to ⟨rfl, trivial⟩) h
          · replace h := h.2 hb
            rw [hb] at hs
            clear hb
            refine d_no hs #[true, true, true, true, true, true, true, true, true, true, true, true, false, false, false, false, false, false, false, false, false, false, false, false, false, false, false, false, false, false, false, false, false, false, false, false, false, false, false, false, false, false, false, false] (i := 11) rfl rfl rfl (by decide) (by kernel_rfl) (tight_body (P := Try.prog) (fn := Try.f12)) ?_
            clear hs a
            intro a hs
            refine d_no hs #[true, true, true, true, true, true, true, true, true, true, true, true, true, false, false, false, false, false, false, false, false, false, false, false, false, false, false, false, false, false, false, false, false, false, false, false, false, false, false, false, false, false, false, false] (i := 12) rfl rfl rfl (by decide) (by kernel_rfl) (tight_body (P := Try.prog) (fn := Try.f12)) ?_
            clear hs a
            intro a hs
            refine d_no hs #[true, true, true, true, true, true, true, true, true, true, true, true, true, true, false, false, false, false, false, false, false, false, false, false, false, false, false, false, false, false, false, false, false, false, false, false, false, false, false, false, false, false, false, false] (i := 13) rfl rfl rfl (by decide) (by kernel_rfl) (tight_body (P := Try.prog) (fn := Try.f12)) ?_
            clear hs a
            intro a hs
            refine d_no hs #[true, true, true, true, true, true, true, true, true, true, true, true, true, true, true, false, false, false, false, false, false, false, false, false, false, false, false, false, false, false, false, false, false, false, false, false, false, false, false, false, false, false, false, false] (i := 14) rfl rfl rfl (by decide) (by kernel_rfl) (tight_body (P := Try.prog) (fn := Try.f12)) ?_
            clear hs a
            intro a hs
            refine d_no hs #[true, true, true, true, true, true, true, true, true, true, true, true, true, true, true, true, false, false, false, false, false, false, false, false, false, false, false, false, false, false, false, false, false, false, false, false, false, false, false, false, false, false, false, false] (i := 15) rfl rfl rfl (by decide) (by kernel_rfl) (tight_body (P := Try.prog) (fn := Try.f12)) ?_
            clear hs a
            intro a hs
            replace hs := hs.to (τ := [(0, (Sl.val body0)), (1, (Sl.val raw1)), (5, (Sl.val t26)), (6, (Sl.val t29)), (10, (Sl.val t39x0)), (11, (.int .i64 t39x1)), (12, (Sl.val t44x0)), (13, (.int .i64 t44x1)), (57, (.bool false)), (62, undef)]) ⟨rfl, rfl, rfl, rfl, rfl, rfl, rfl, rfl, rfl, rfl, trivial⟩
            refine d_pure hs #[true, true, true, true, true, true, true, true, true, true, true, true, true, true, true, true, true, false, false, false, false, false, false, false, false, false, false, false, false, false, false, false, false, false, false, false, false, false, false, false, false, false, false, false] (i := 16) rfl rfl rfl (by decide) (by kernel_rfl) (tight_body (P := Try.prog) (fn := Try.f12)) (p_pick_f rfl rfl rfl) ?_
            clear hs a
            intro a hs
            refine d_pure hs #[true, true, true, true, true, true, true, true, true, true, true, true, true, true, true, true, true, true, false, false, false, false, false, false, false, false, false, false, false, false, false, false, false, false, false, false, false, false, false, false, false, false, false, false] (i := 17) rfl rfl rfl (by decide) (by kernel_rfl) (tight_body (P := Try.prog) (fn := Try.f12)) (p_move rfl rfl) ?_
            clear hs a
            intro a hs
            refine d_no hs #[true, true, true, true, true, true, true, true, true, true, true, true, true, true, true, true, true, true, true, false, false, false, false, false, false, false, false, false, false, false, false, false, false, false, false, false, false, false, false, false, false, false, false, false] (i := 18) rfl rfl rfl (by decide) (by kernel_rfl) (tight_body (P := Try.prog) (fn := Try.f12)) ?_
            clear hs a
            intro a hs
            refine d_no hs #[true, true, true, true, true, true, true, true, true, true, true, true, true, true, true, true, true, true, true, true, false, false, false, false, false, false, false, false, false, false, false, false, false, false, false, false, false, false, false, false, false, false, false, false] (i := 19) rfl rfl rfl (by decide) (by kernel_rfl) (tight_body (P := Try.prog) (fn := Try.f12)) ?_
            clear hs a
            intro a hs
            refine d_no hs #[true, true, true, true, true, true, true, true, true, true, true, true, true, true, true, true, true, true, true, true, true, false, false, false, false, false, false, false, false, false, false, false, false, false, false, false, false, false, false, false, false, false, false, false] (i := 20) rfl rfl rfl (by decide) (by kernel_rfl) (tight_body (P := Try.prog) (fn := Try.f12)) ?_
            clear hs a
            intro a hs
            refine d_pure hs #[true, true, true, true, true, true, true, true, true, true, true, true, true, true, true, true, true, true, true, true, true, true, false, false, false, false, false, false, false, false, false, false, false, false, false, false, false, false, false, false, false, false, false, false] (i := 21) rfl rfl rfl (by decide) (by kernel_rfl) (tight_body (P := Try.prog) (fn := Try.f12)) (p_pick_f rfl rfl rfl) ?_
            clear hs a
            intro a hs
            refine d_pure hs #[true, true, true, true, true, true, true, true, true, true, true, true, true, true, true, true, true, true, true, true, true, true, true, false, false, false, false, false, false, false, false, false, false, false, false, false, false, false, false, false, false, false, false, false] (i := 22) rfl rfl rfl (by decide) (by kernel_rfl) (tight_body (P := Try.prog) (fn := Try.f12)) (p_move rfl rfl) ?_
            clear hs a
            intro a hs
            refine d_no hs #[true, true, true, true, true, true, true, true, true, true, true, true, true, true, true, true, true, true, true, true, true, true, true, true, false, false, false, false, false, false, false, false, false, false, false, false, false, false, false, false, false, false, false, false] (i := 23) rfl rfl rfl (by decide) (by kernel_rfl) (tight_body (P := Try.prog) (fn := Try.f12)) ?_
            clear hs a
            intro a hs
            replace hs := hs.to (τ := [(0, (Sl.val body0)), (1, (Sl.val raw1)), (5, (Sl.val t26)), (6, (Sl.val t29)), (12, (Sl.val t44x0)), (69, (.bool false)), (70, undef)]) ⟨rfl, rfl, rfl, rfl, rfl, rfl, rfl, trivial⟩
            refine d_no hs #[true, true, true, true, true, true, true, true, true, true, true, true, true, true, true, true, true, true, true, true, true, true, true, true, true, false, false, false, false, false, false, false, false, false, false, false, false, false, false, false, false, false, false, false] (i := 24) rfl rfl rfl (by decide) (by kernel_rfl) (tight_body (P := Try.prog) (fn := Try.f12)) ?_
            clear hs a
            intro a hs
            refine d_no hs #[true, true, true, true, true, true, true, true, true, true, true, true, true, true, true, true, true, true, true, true, true, true, true, true, true, true, false, false, false, false, false, false, false, false, false, false, false, false, false, false, false, false, false, false] (i := 25) rfl rfl rfl (by decide) (by kernel_rfl) (tight_body (P := Try.prog) (fn := Try.f12)) ?_
            clear hs a
            intro a hs
            refine d_no hs #[true, true, true, true, true, true, true, true, true, true, true, true, true, true, true, true, true, true, true, true, true, true, true, true, true, true, true, false, false, false, false, false, false, false, false, false, false, false, false, false, false, false, false, false] (i := 26) rfl rfl rfl (by decide) (by kernel_rfl) (tight_body (P := Try.prog) (fn := Try.f12)) ?_
            clear hs a
            intro a hs
            refine d_no hs #[true, true, true, true, true, true, true, true, true, true, true, true, true, true, true, true, true, true, true, true, true, true, true, true, true, true, true, true, false, false, false, false, false, false, false, false, false, false, false, false, false, false, false, false] (i := 27) rfl rfl rfl (by decide) (by kernel_rfl) (tight_body (P := Try.prog) (fn := Try.f12)) ?_
            clear hs a
            intro a hs
            refine d_pure hs #[true, true, true, true, true, true, true, true, true, true, true, true, true, true, true, true, true, true, true, true, true, true, true, true, true, true, true, true, true, false, false, false, false, false, false, false, false, false, false, false, false, false, false, false] (i := 28) rfl rfl rfl (by decide) (by kernel_rfl) (tight_body (P := Try.prog) (fn := Try.f12)) (p_pick_f rfl rfl rfl) ?_
            clear hs a
            intro a hs
            refine d_pure hs #[true, true, true, true, true, true, true, true, true, true, true, true, true, true, true, true, true, true, true, true, true, true, true, true, true, true, true, true, true, true, false, false, false, false, false, false, false, false, false, false, false, false, false, false] (i := 29) rfl rfl rfl (by decide) (by kernel_rfl) (tight_body (P := Try.prog) (fn := Try.f12)) (p_move rfl rfl) ?_
            clear hs a
            intro a hs
            refine d_no hs #[true, true, true, true, true, true, true, true, true, true, true, true, true, true, true, true, true, true, true, true, true, true, true, true, true, true, true, true, true, true, true, false, false, false, false, false, false, false, false, false, false, false, false, false] (i := 30) rfl rfl rfl (by decide) (by kernel_rfl) (tight_body (P := Try.prog) (fn := Try.f12)) ?_
            clear hs a
            intro a hs
            refine d_no hs #[true, true, true, true, true, true, true, true, true, true, true, true, true, true, true, true, true, true, true, true, true, true, true, true, true, true, true, true, true, true, true, true, false, false, false, false, false, false, false, false, false, false, false, false] (i := 31) rfl rfl rfl (by decide) (by kernel_rfl) (tight_body (P := Try.prog) (fn := Try.f12)) ?_
            clear hs a
            intro a hs
            replace hs := hs.to (τ := [(0, (Sl.val body0)), (1, (Sl.val raw1)), (6, (Sl.val t29)), (76, (.bool false)), (78, undef)]) ⟨rfl, rfl, rfl, rfl, rfl, trivial⟩
            refine d_no hs #[true, true, true, true, true, true, true, true, true, true, true, true, true, true, true, true, true, true, true, true, true, true, true, true, true, true, true, true, true, true, true, true, true, false, false, false, false, false, false, false, false, false, false, false] (i := 32) rfl rfl rfl (by decide) (by kernel_rfl) (tight_body (P := Try.prog) (fn := Try.f12)) ?_
            clear hs a
            intro a hs
            refine d_no hs #[true, true, true, true, true, true, true, true, true, true, true, true, true, true, true, true, true, true, true, true, true, true, true, true, true, true, true, true, true, true, true, true, true, true, false, false, false, false, false, false, false, false, false, false] (i := 33) rfl rfl rfl (by decide) (by kernel_rfl) (tight_body (P := Try.prog) (fn := Try.f12)) ?_
            clear hs a
            intro a hs
            refine d_no hs #[true, true, true, true, true, true, true, true, true, true, true, true, true, true, true, true, true, true, true, true, true, true, true, true, true, true, true, true, true, true, true, true, true, true, true, false, false, false, false, false, false, false, false, false] (i := 34) rfl rfl rfl (by decide) (by kernel_rfl) (tight_body (P := Try.prog) (fn := Try.f12)) ?_
            clear hs a
            intro a hs
            refine d_pure hs #[true, true, true, true, true, true, true, true, true, true, true, true, true, true, true, true, true, true, true, true, true, true, true, true, true, true, true, true, true, true, true, true, true, true, true, true, false, false, false, false, false, false, false, false] (i := 35) rfl rfl rfl (by decide) (by kernel_rfl) (tight_body (P := Try.prog) (fn := Try.f12)) (p_pick_f rfl rfl rfl) ?_
            clear hs a
            intro a hs
            refine d_pure hs #[true, true, true, true, true, true, true, true, true, true, true, true, true, true, true, true, true, true, true, true, true, true, true, true, true, true, true, true, true, true, true, true, true, true, true, true, true, false, false, false, false, false, false, false] (i := 36) rfl rfl rfl (by decide) (by kernel_rfl) (tight_body (P := Try.prog) (fn := Try.f12)) (p_move rfl rfl) ?_
            clear hs a
            intro a hs
            refine d_no hs #[true, true, true, true, true, true, true, true, true, true, true, true, true, true, true, true, true, true, true, true, true, true, true, true, true, true, true, true, true, true, true, true, true, true, true, true, true, true, false, false, false, false, false, false] (i := 37) rfl rfl rfl (by decide) (by kernel_rfl) (tight_body (P := Try.prog) (fn := Try.f12)) ?_
            clear hs a
            intro a hs
            refine d_no hs #[true, true, true, true, true, true, true, true, true, true, true, true, true, true, true, true, true, true, true, true, true, true, true, true, true, true, true, true, true, true, true, true, true, true, true, true, true, true, true, false, false, false, false, false] (i := 38) rfl rfl rfl (by decide) (by kernel_rfl) (tight_body (P := Try.prog) (fn := Try.f12)) ?_
            clear hs a
            intro a hs
            refine d_no hs #[true, true, true, true, true, true, true, true, true, true, true, true, true, true, true, true, true, true, true, true, true, true, true, true, true, true, true, true, true, true, true, true, true, true, true, true, true, true, true, true, false, false, false, false] (i := 39) rfl rfl rfl (by decide) (by kernel_rfl) (tight_body (P := Try.prog) (fn := Try.f12)) ?_
            clear hs a
            intro a hs
            replace hs := hs.to (τ := [(83, (.bool false)), (85, undef), (86, undef)]) ⟨rfl, rfl, rfl, trivial⟩
            refine d_no hs #[true, true, true, true, true, true, true, true, true, true, true, true, true, true, true, true, true, true, true, true, true, true, true, true, true, true, true, true, true, true, true, true, true, true, true, true, true, true, true, true, true, false, false, false] (i := 40) rfl rfl rfl (by decide) (by kernel_rfl) (tight_body (P := Try.prog) (fn := Try.f12)) ?_
            clear hs a
            intro a hs
            refine d_no hs #[true, true, true, true, true, true, true, true, true, true, true, true, true, true, true, true, true, true, true, true, true, true, true, true, true, true, true, true, true, true, true, true, true, true, true, true, true, true, true, true, true, true, false, false] (i := 41) rfl rfl rfl (by decide) (by kernel_rfl) (tight_body (P := Try.prog) (fn := Try.f12)) ?_
            clear hs a
            intro a hs
            refine d_pure hs #[true, true, true, true, true, true, true, true, true, true, true, true, true, true, true, true, true, true, true, true, true, true, true, true, true, true, true, true, true, true, true, true, true, true, true, true, true, true, true, true, true, true, true, false] (i := 42) rfl rfl rfl (by decide) (by kernel_rfl) (tight_body (P := Try.prog) (fn := Try.f12)) (p_pick_f rfl rfl rfl) ?_
            clear hs a
            intro a hs
            refine d_pure hs #[true, true, true, true, true, true, true, true, true, true, true, true, true, true, true, true, true, true, true, true, true, true, true, true, true, true, true, true, true, true, true, true, true, true, true, true, true, true, true, true, true, true, true, true] (i := 43) rfl rfl rfl (by decide) (by kernel_rfl) (tight_body (P := Try.prog) (fn := Try.f12)) (p_assign rfl rfl) ?_
            clear hs a
            intro a hs
            refine d_done (by kernel_rfl) ?_ _
            clear hS
            exact J2 false _ _ (hs.to ⟨rfl, trivial⟩) h
        · replace h := h.2 hb
          rw [hb] at hs
          clear hb
          refine d_no hs #[true, true, true, true, true, true, true, true, false, false, false, false, false, false, false, false, false, false, false, false, false, false, false, false, false, false, false, false, false, false, false, false, false, false, false, false, false, false, false, false, false, false, false, false] (i := 7) rfl rfl rfl (by decide) (by kernel_rfl) (tight_body (P := Try.prog) (fn := Try.f12)) ?_
          clear hs a
          intro a hs
          replace hs := hs.to (τ := [(0, (Sl.val body0)), (1, (Sl.val raw1)), (5, (Sl.val t26)), (6, (Sl.val t29)), (8, (Sl.val t34x0)), (10, (Sl.val t39x0)), (11, (.int .i64 t39x1)), (12, (Sl.val t44x0)), (13, (.int .i64 t44x1)), (53, (.bool false)), (54, undef)]) ⟨rfl, rfl, rfl, rfl, rfl, rfl, rfl, rfl, rfl, rfl, rfl, trivial⟩
          refine d_no hs #[true, true, true, true, true, true, true, true, true, false, false, false, false, false, false, false, false, false, false, false, false, false, false, false, false, false, false, false, false, false, false, false, false, false, false, false, false, false, false, false, false, false, false, false] (i := 8) rfl rfl rfl (by decide) (by kernel_rfl) (tight_body (P := Try.prog) (fn := Try.f12)) ?_
          clear hs a
          intro a hs
          refine d_pure hs #[true, true, true, true, true, true, true, true, true, true, false, false, false, false, false, false, false, false, false, false, false, false, false, false, false, false, false, false, false, false, false, false, false, false, false, false, false, false, false, false, false, false, false, false] (i := 9) rfl rfl rfl (by decide) (by kernel_rfl) (tight_body (P := Try.prog) (fn := Try.f12)) (p_pick_f rfl rfl rfl) ?_
          clear hs a
          intro a hs
          refine d_pure hs #[true, true, true, true, true, true, true, true, true, true, true, false, false, false, false, false, false, false, false, false, false, false, false, false, false, false, false, false, false, false, false, false, false, false, false, false, false, false, false, false, false, false, false, false] (i := 10) rfl rfl rfl (by decide) (by kernel_rfl) (tight_body (P := Try.prog) (fn := Try.f12)) (p_move rfl rfl) ?_
          clear hs a
          intro a hs
          refine d_no hs #[true, true, true, true, true, true, true, true, true, true, true, true, false, false, false, false, false, false, false, false, false, false, false, false, false, false, false, false, false, false, false, false, false, false, false, false, false, false, false, false, false, false, false, false] (i := 11) rfl rfl rfl (by decide) (by kernel_rfl) (tight_body (P := Try.prog) (fn := Try.f12)) ?_
          clear hs a
          intro a hs
          refine d_no hs #[true, true, true, true, true, true, true, true, true, true, true, true, true, false, false, false, false, false, false, false, false, false, false, false, false, false, false, false, false, false, false, false, false, false, false, false, false, false, false, false, false, false, false, false] (i := 12) rfl rfl rfl (by decide) (by kernel_rfl) (tight_body (P := Try.prog) (fn := Try.f12)) ?_
          clear hs a
          intro a hs
          refine d_no hs #[true, true, true, true, true, true, true, true, true, true, true, true, true, true, false, false, false, false, false, false, false, false, false, false, false, false, false, false, false, false, false, false, false, false, false, false, false, false, false, false, false, false, false, false] (i := 13) rfl rfl rfl (by decide) (by kernel_rfl) (tight_body (P := Try.prog) (fn := Try.f12)) ?_
          clear hs a
          intro a hs
          refine d_no hs #[true, true, true, true, true, true, true, true, true, true, true, true, true, true, true, false, false, false, false, false, false, false, false, false, false, false, false, false, false, false, false, false, false, false, false, false, false, false, false, false, false, false, false, false] (i := 14) rfl rfl rfl (by decide) (by kernel_rfl) (tight_body (P := Try.prog) (fn := Try.f12)) ?_
          clear hs a
          intro a hs
          refine d_no hs #[true, true, true, true, true, true, true, true, true, true, true, true, true, true, true, true, false, false, false, false, false, false, false, false, false, false, false, false, false, false, false, false, false, false, false, false, false, false, false, false, false, false, false, false] (i := 15) rfl rfl rfl (by decide) (by kernel_rfl) (tight_body (P := Try.prog) (fn := Try.f12)) ?_
          clear hs a
          intro a hs
          replace hs := hs.to (τ := [(0, (Sl.val body0)), (1, (Sl.val raw1)), (5, (Sl.val t26)), (6, (Sl.val t29)), (10, (Sl.val t39x0)), (11, (.int .i64 t39x1)), (12, (Sl.val t44x0)), (13, (.int .i64 t44x1)), (57, (.bool false)), (62, undef)]) ⟨rfl, rfl, rfl, rfl, rfl, rfl, rfl, rfl, rfl, rfl, trivial⟩
          refine d_pure hs #[true, true, true, true, true, true, true, true, true, true, true, true, true, true, true, true, true, false, false, false, false, false, false, false, false, false, false, false, false, false, false, false, false, false, false, false, false, false, false, false, false, false, false, false] (i := 16) rfl rfl rfl (by decide) (by kernel_rfl) (tight_body (P := Try.prog) (fn := Try.f12)) (p_pick_f rfl rfl rfl) ?_
          clear hs a
          intro a hs
          refine d_pure hs #[true, true, true, true, true, true, true, true, true, true, true, true, true, true, true, true, true, true, false, false, false, false, false, false, false, false, false, false, false, false, false, false, false, false, false, false, false, false, false, false, false, false, false, false] (i := 17) rfl rfl rfl (by decide) (by kernel_rfl) (tight_body (P := Try.prog) (fn := Try.f12)) (p_move rfl rfl) ?_
          clear hs a
          intro a hs
          refine d_no hs #[true, true, true, true, true, true, true, true, true, true, true, true, true, true, true, true, true, true, true, false, false, false, false, false, false, false, false, false, false, false, false, false, false, false, false, false, false, false, false, false, false, false, false, false] (i := 18) rfl rfl rfl (by decide) (by kernel_rfl) (tight_body (P := Try.prog) (fn := Try.f12)) ?_
          clear hs a
          intro a hs
          refine d_no hs #[true, true, true, true, true, true, true, true, true, true, true, true, true, true, true, true, true, true, true, true, false, false, false, false, false, false, false, false, false, false, false, false, false, false, false, false, false, false, false, false, false, false, false, false] (i := 19) rfl rfl rfl (by decide) (by kernel_rfl) (tight_body (P := Try.prog) (fn := Try.f12)) ?_
          clear hs a
          intro a hs
          refine d_no hs #[true, true, true, true, true, true, true, true, true, true, true, true, true, true, true, true, true, true, true, true, true, false, false, false, false, false, false, false, false, false, false, false, false, false, false, false, false, false, false, false, false, false, false, false] (i := 20) rfl rfl rfl (by decide) (by kernel_rfl) (tight_body (P := Try.prog) (fn := Try.f12)) ?_
          clear hs a
          intro a hs
          refine d_pure hs #[true, true, true, true, true, true, true, true, true, true, true, true, true, true, true, true, true, true, true, true, true, true, false, false, false, false, false, false, false, false, false, false, false, false, false, false, false, false, false, false, false, false, false, false] (i := 21) rfl rfl rfl (by decide) (by kernel_rfl) (tight_body (P := Try.prog) (fn := Try.f12)) (p_pick_f rfl rfl rfl) ?_
          clear hs a
          intro a hs
          refine d_pure hs #[true, true, true, true, true, true, true, true, true, true, true, true, true, true, true, true, true, true, true, true, true, true, true, false, false, false, false, false, false, false, false, false, false, false, false, false, false, false, false, false, false, false, false, false] (i := 22) rfl rfl rfl (by decide) (by kernel_rfl) (tight_body (P := Try.prog) (fn := Try.f12)) (p_move rfl rfl) ?_
          clear hs a
          intro a hs
          refine d_no hs #[true, true, true, true, true, true, true, true, true, true, true, true, true, true, true, true, true, true, true, true, true, true, true, true, false, false, false, false, false, false, false, false, false, false, false, false, false, false, false, false, false, false, false, false] (i := 23) rfl rfl rfl (by decide) (by kernel_rfl) (tight_body (P := Try.prog) (fn := Try.f12)) ?_
          clear hs a
          intro a hs
          replace hs := hs.to (τ := [(0, (Sl.val body0)), (1, (Sl.val raw1)), (5, (Sl.val t26)), (6, (Sl.val t29)), (12, (Sl.val t44x0)), (69, (.bool false)), (70, undef)]) ⟨rfl, rfl, rfl, rfl, rfl, rfl, rfl, trivial⟩
          refine d_no hs #[true, true, true, true, true, true, true, true, true, true, true, true, true, true, true, true, true, true, true, true, true, true, true, true, true, false, false, false, false, false, false, false, false, false, false, false, false, false, false, false, false, false, false, false] (i := 24) rfl rfl rfl (by decide) (by kernel_rfl) (tight_body (P := Try.prog) (fn := Try.f12)) ?_
          clear hs a
          intro a hs
          refine d_no hs #[true, true, true, true, true, true, true, true, true, true, true, true, true, true, true, true, true, true, true, true, true, true, true, true, true, true, false, false, false, false, false, false, false, false, false, false, false, false, false, false, false, false, false, false] (i := 25) rfl rfl rfl (by decide) (by kernel_rfl) (tight_body (P := Try.prog) (fn := Try.f12)) ?_
          clear hs a
          intro a hs
          refine d_no hs #[true, true, true, true, true, true, true, true, true, true, true, true, true, true, true, true, true, true, true, true, true, true, true, true, true, true, true, false, false, false, false, false, false, false, false, false, false, false, false, false, false, false, false, false] (i := 26) rfl rfl rfl (by decide) (by kernel_rfl) (tight_body (P := Try.prog) (fn := Try.f12)) ?_
          clear hs a
          intro a hs
          refine d_no hs #[true, true, true, true, true, true, true, true, true, true, true, true, true, true, true, true, true, true, true, true, true, true, true, true, true, true, true, true, false, false, false, false, false, false, false, false, false, false, false, false, false, false, false, false] (i := 27) rfl rfl rfl (by decide) (by kernel_rfl) (tight_body (P := Try.prog) (fn := Try.f12)) ?_
          clear hs a
          intro a hs
          refine d_pure hs #[true, true, true, true, true, true, true, true, true, true, true, true, true, true, true, true, true, true, true, true, true, true, true, true, true, true, true, true, true, false, false, false, false, false, false, false, false, false, false, false, false, false, false, false] (i := 28) rfl rfl rfl (by decide) (by kernel_rfl) (tight_body (P := Try.prog) (fn := Try.f12)) (p_pick_f rfl rfl rfl) ?_
          clear hs a
          intro a hs
          refine d_pure hs #[true, true, true, true, true, true, true, true, true, true, true, true, true, true, true, true, true, true, true, true, true, true, true, true, true, true, true, true, true, true, false, false, false, false, false, false, false, false, false, false, false, false, false, false] (i := 29) rfl rfl rfl (by decide) (by kernel_rfl) (tight_body (P := Try.prog) (fn := Try.f12)) (p_move rfl rfl) ?_
          clear hs a
          intro a hs
          refine d_no hs #[true, true, true, true, true, true, true, true, true, true, true, true, true, true, true, true, true, true, true, true, true, true, true, true, true, true, true, true, true, true, true, false, false, false, false, false, false, false, false, false, false, false, false, false] (i := 30) rfl rfl rfl (by decide) (by kernel_rfl) (tight_body (P := Try.prog) (fn := Try.f12)) ?_
          clear hs a
          intro a hs
          refine d_no hs #[true, true, true, true, true, true, true, true, true, true, true, true, true, true, true, true, true, true, true, true, true, true, true, true, true, true, true, true, true, true, true, true, false, false, false, false, false, false, false, false, false, false, false, false] (i := 31) rfl rfl rfl (by decide) (by kernel_rfl) (tight_body (P := Try.prog) (fn := Try.f12)) ?_
          clear hs a
          intro a hs
          replace hs := hs.to (τ := [(0, (Sl.val body0)), (1, (Sl.val raw1)), (6, (Sl.val t29)), (76, (.bool false)), (78, undef)]) ⟨rfl, rfl, rfl, rfl, rfl, trivial⟩
          refine d_no hs #[true, true, true, true, true, true, true, true, true, true, true, true, true, true, true, true, true, true, true, true, true, true, true, true, true, true, true, true, true, true, true, true, true, false, false, false, false, false, false, false, false, false, false, false] (i := 32) rfl rfl rfl (by decide) (by kernel_rfl) (tight_body (P := Try.prog) (fn := Try.f12)) ?_
          clear hs a
          intro a hs
          refine d_no hs #[true, true, true, true, true, true, true, true, true, true, true, true, true, true, true, true, true, true, true, true, true, true, true, true, true, true, true, true, true, true, true, true, true, true, false, false, false, false, false, false, false, false, false, false] (i := 33) rfl rfl rfl (by decide) (by kernel_rfl) (tight_body (P := Try.prog) (fn := Try.f12)) ?_
          clear hs a
          intro a hs
          refine d_no hs #[true, true, true, true, true, true, true, true, true, true, true, true, true, true, true, true, true, true, true, true, true, true, true, true, true, true, true, true, true, true, true, true, true, true, true, false, false, false, false, false, false, false, false, false] (i := 34) rfl rfl rfl (by decide) (by kernel_rfl) (tight_body (P := Try.prog) (fn := Try.f12)) ?_
          clear hs a
          intro a hs
          refine d_pure hs #[true, true, true, true, true, true, true, true, true, true, true, true, true, true, true, true, true, true, true, true, true, true, true, true, true, true, true, true, true, true, true, true, true, true, true, true, false, false, false, false, false, false, false, false] (i := 35) rfl rfl rfl (by decide) (by kernel_rfl) (tight_body (P := Try.prog) (fn := Try.f12)) (p_pick_f rfl rfl rfl) ?_
          clear hs a
          intro a hs
          refine d_pure hs #[true, true, true, true, true, true, true, true, true, true, true, true, true, true, true, true, true, true, true, true, true, true, true, true, true, true, true, true, true, true, true, true, true, true, true, true, true, false, false, false, false, false, false, false] (i := 36) rfl rfl rfl (by decide) (by kernel_rfl) (tight_body (P := Try.prog) (fn := Try.f12)) (p_move rfl rfl) ?_
          clear hs a
          intro a hs
          refine d_no hs #[true, true, true, true, true, true, true, true, true, true, true, true, true, true, true, true, true, true, true, true, true, true, true, true, true, true, true, true, true, true, true, true, true, true, true, true, true, true, false, false, false, false, false, false] (i := 37) rfl rfl rfl (by decide) (by kernel_rfl) (tight_body (P := Try.prog) (fn := Try.f12)) ?_
          clear hs a
          intro a hs
          refine d_no hs #[true, true, true, true, true, true, true, true, true, true, true, true, true, true, true, true, true, true, true, true, true, true, true, true, true, true, true, true, true, true, true, true, true, true, true, true, true, true, true, false, false, false, false, false] (i := 38) rfl rfl rfl (by decide) (by kernel_rfl) (tight_body (P := Try.prog) (fn := Try.f12)) ?_
          clear hs a
          intro a hs
          refine d_no hs #[true, true, true, true, true, true, true, true, true, true, true, true, true, true, true, true, true, true, true, true, true, true, true, true, true, true, true, true, true, true, true, true, true, true, true, true, true, true, true, true, false, false, false, false] (i := 39) rfl rfl rfl (by decide) (by kernel_rfl) (tight_body (P := Try.prog) (fn := Try.f12)) ?_
          clear hs a
          intro a hs
          replace hs := hs.to (τ := [(83, (.bool false)), (85, undef), (86, undef)]) ⟨rfl, rfl, rfl, trivial⟩
          refine d_no hs #[true, true, true, true, true, true, true, true, true, true, true, true, true, true, true, true, true, true, true, true, true, true, true, true, true, true, true, true, true, true, true, true, true, true, true, true, true, true, true, true, true, false, false, false] (i := 40) rfl rfl rfl (by decide) (by kernel_rfl) (tight_body (P := Try.prog) (fn := Try.f12)) ?_
          clear hs a
          intro a hs
          refine d_no hs #[true, true, true, true, true, true, true, true, true, true, true, true, true, true, true, true, true, true, true, true, true, true, true, true, true, true, true, true, true, true, true, true, true, true, true, true, true, true, true, true, true, true, false, false] (i := 41) rfl rfl rfl (by decide) (by kernel_rfl) (tight_body (P := Try.prog) (fn := Try.f12)) ?_
          clear hs a
          intro a hs
          refine d_pure hs #[true, true, true, true, true, true, true, true, true, true, true, true, true, true, true, true, true, true, true, true, true, true, true, true, true, true, true, true, true, true, true, true, true, true, true, true, true, true, true, true, true, true, true, false] (i := 42) rfl rfl rfl (by decide) (by kernel_rfl) (tight_body (P := Try.prog) (fn := Try.f12)) (p_pick_f rfl rfl rfl) ?_
          clear hs a
          intro a hs
          refine d_pure hs #[true, true, true, true, true, true, true, true, true, true, true, true, true, true, true, true, true, true, true, true, true, true, true, true, true, true, true, true, true, true, true, true, true, true, true, true, true, true, true, true, true, true, true, true] (i := 43) rfl rfl rfl (by decide) (by kernel_rfl) (tight_body (P := Try.prog) (fn := Try.f12)) (p_assign rfl rfl) ?_
          clear hs a
          intro a hs
          refine d_done (by kernel_rfl) ?_ _
          clear hS
          exact J2 false _ _ (hs.to ⟨rfl, trivial⟩) h
    clear hK6
    refine wp_region_lit ?_
    refine t_pure hs rfl rfl (by decide) (p_move rfl rfl) ?_
    clear hs a
    intro a hs
    refine t_pure hs rfl rfl (by decide) (p_len rfl rfl sl_22) ?_
    clear hs a
    intro a hs
    refine t_pure hs rfl rfl (by decide) (p_gt rfl rfl rfl) ?_
    clear hs a
    intro a hs
    refine t_pure hs rfl rfl (by decide) (p_move rfl rfl) ?_
    clear hs a
    intro a hs
    refine split_bool (decide ((5000 : Int) < (body0.n : Int))) (fun hb => ?_) (fun hb => ?_)
    · replace h := h.1 hb
      rw [hb] at hs
      clear hb
      refine t_no hs rfl rfl (by decide) ?_
      clear hs a
      intro a hs
      refine t_no hs rfl rfl (by decide) ?_
      clear hs a
      intro a hs
      refine t_no hs rfl rfl (by decide) ?_
      clear hs a
      intro a hs
      refine t_pure hs rfl rfl (by decide) (p_pick_t rfl rfl rfl) ?_
      clear hs a
      intro a hs
      exact J1 true _ _ (hs.to ⟨rfl, rfl, rfl, trivial⟩) h
    · replace h := h.2 hb
      rw [hb] at hs
      clear hb
      refine t_yes hs rfl ?_
      refine t_pure hs rfl rfl (by decide) (p_move rfl rfl) ?_
      clear hs a
      intro a hs
      refine t_yes hs rfl ?_
      refine t_pure hs rfl rfl (by decide) (p_len rfl rfl sl_22) ?_
      clear hs a
      intro a hs
      refine t_yes hs rfl ?_
      refine t_pure hs rfl rfl (by decide) (p_gt rfl rfl rfl) ?_
      clear hs a
      intro a hs
      refine t_pure hs rfl rfl (by decide) (p_pick_f rfl rfl rfl) ?_
      clear hs a
      intro a hs
      exact J1 (decide ((5000 : Int) < (raw1.n : Int))) _ _ (hs.to ⟨rfl, rfl, rfl, trivial⟩) h
def law08_SnapUnlike.s2 (Q : Bool → K)  (t6_2 : Bool) : K :=
  Q t6_2
def law08_SnapUnlike.s1 (Q : Bool → K)  (a0_1 : Sl) (b1_1 : Sl) (k2_1 : Int) (t20_1 : Bool) : K :=
  Ite t20_1
    (Q true)
    (snap_Pack.call a0_1 fun t22 =>
    snap_Pack.call b1_1 fun t24 =>
    Ite (decide ((t22.n : Int) = 0))
      (Q false)
      (Ar (bitsOf .and .i64 k2_1 65535) fun t31 =>
      Cd ((t22.n : Int) ≠ 0) <|
      Ar (Int.tmod t31 (t22.n : Int)) fun t34 =>
      Slc t22 0 t34 (t22.c : Int) 1 fun t35 =>
      snap_Unpack.call t35 fun t36x0 t36x1 =>
      Rd Try.prog (convert 22 9 (Sl.val t22)) Value.string fun t40 =>
      Rd Try.prog (convert 22 9 (Sl.val t24)) Value.string fun t42 =>
      Rd Try.prog (convert 22 9 (Sl.val a0_1)) Value.string fun t45 =>
      Rd Try.prog (convert 22 9 (Sl.val b1_1)) Value.string fun t47 =>
      Ite ((t40.toList == t42.toList) == (t45.toList == t47.toList))
        (law08_SnapUnlike.s2 Q (decide (t36x1 = 61)))
        (law08_SnapUnlike.s2 Q false)))
def law08_SnapUnlike (a0 : Sl) (b1 : Sl) (k2 : Int) (Q : Bool → K) : K :=
  law08_speaks.call  fun t11 =>
  Ite (!t11)
    (Q false)
    (Ite (decide ((5000 : Int) < (a0.n : Int)))
      (law08_SnapUnlike.s1 Q a0 b1 k2 true)
      (law08_SnapUnlike.s1 Q a0 b1 k2 (decide ((5000 : Int) < (b1.n : Int)))))
theorem law08_SnapUnlike_ok (a0 : Sl) (b1 : Sl) (k2 : Int) (Q : Bool → K) (w : World) (h : law08_SnapUnlike a0 b1 k2 Q w) : law08_SnapUnlike.call a0 b1 k2 Q w := by
  unfold law08_SnapUnlike.call CallF
  refine f_start (args := [(Sl.val a0), (Sl.val b1), (.int .i64 k2)]) Try.func13 rfl (Nat.le_of_ble_eq_true rfl) ?_
  intro a hs
  unfold law08_SnapUnlike at h
  refine wp_seq_k fun K1 hK1 => ?_
  refine wp_region_lit ?_
  refine t_pure hs rfl rfl (by decide) (p_assign rfl rfl) ?_
  clear hs a
  intro a hs
  refine hK1 _ _ ?_
  refine wp_seq_k fun K2 hK2 => ?_
  refine wp_seq_k fun K3 hK3 => ?_
  refine wp_region_lit ?_
  refine t_call hs rfl rfl (by decide) (e_call rfl rfl rfl cb_45) h ?_
  clear hs a h
  intro v a w hk hs
  obtain ⟨t11, rfl, h⟩ := hk
  refine t_pure hs rfl rfl (by decide) (p_not rfl rfl) ?_
  clear hs a
  intro a hs
  refine hK3 _ _ ?_
  refine c_cond hs rfl (fun hb => ?_) (fun hb => ?_)
  · replace h := h.1 hb
    clear hb
    refine wp_seq_k fun K4 hK4 => ?_
    refine wp_region_lit ?_
    refine t_pure hs rfl rfl (by decide) (p_assign rfl rfl) ?_
    clear hs a
    intro a hs
    refine hK4 _ _ ?_
    refine wp_ret ?_
    refine f_ret (fn := Try.f13) hs (fun a hs => r_one hs rfl (rfl)) ⟨false, rfl, h⟩
  · replace h := h.2 hb
    clear hb
    refine wp_skip ?_
    refine hK2 _ _ ?_
    refine wp_seq_k fun K5 hK5 => ?_
    refine wp_seq_k fun K6 hK6 => ?_
    have J1 : ∀ (t20_1 : Bool) (a : Act) (w : World), Slots a 54 [(0, (Sl.val a0)), (1, (Sl.val b1)), (2, (.int .i64 k2)), (20, (.bool t20_1))] → law08_SnapUnlike.s1 Q a0 b1 k2 t20_1 w → K6 a w := by
      clear h hs
      intro t20_1 a w hs h
      refine hK6 _ _ ?_
      unfold law08_SnapUnlike.s1 at h
      refine c_cond hs rfl (fun hb => ?_) (fun hb => ?_)
      · replace h := h.1 hb
        clear hb
        refine wp_seq_k fun K7 hK7 => ?_
        refine wp_region_lit ?_
        refine t_pure hs rfl rfl (by decide) (p_assign rfl rfl) ?_
        clear hs a
        intro a hs
        refine hK7 _ _ ?_
        refine wp_ret ?_
        refine f_ret (fn := Try.f13) hs (fun a hs => r_one hs rfl (rfl)) ⟨true, rfl, h⟩
      · replace h := h.2 hb
        clear hb
        refine wp_skip ?_
        refine hK5 _ _ ?_
        refine wp_seq_k fun K8 hK8 => ?_
        refine wp_region_lit ?_
        refine t_pure hs rfl rfl (by decide) (p_move rfl rfl) ?_
        clear hs a
        intro a hs
        refine t_call hs rfl rfl (by decide) (e_call rfl rfl rfl cb_46) h ?_
        clear hs a h
        intro v a w hk hs
        obtain ⟨t22, rfl, h⟩ := hk
        refine t_pure hs rfl rfl (by decide) (p_move rfl rfl) ?_
        clear hs a
        intro a hs
        refine t_call hs rfl rfl (by decide) (e_call rfl rfl rfl cb_46) h ?_
        clear hs a h
        intro v a w hk hs
        obtain ⟨t24, rfl, h⟩ := hk
        refine t_pure hs rfl rfl (by decide) (p_assign rfl rfl) ?_
        clear hs a
        intro a hs
        refine t_pure hs rfl rfl (by decide) (p_assign rfl rfl) ?_
        clear hs a
        intro a hs
        refine hK8 _ _ ?_
        refine wp_seq_k fun K9 hK9 => ?_
        refine wp_seq_k fun K10 hK10 => ?_
        refine wp_region_lit ?_
        refine t_pure hs rfl rfl (by decide) (p_move rfl rfl) ?_
        clear hs a
        intro a hs
        refine t_pure hs rfl rfl (by decide) (p_len rfl rfl sl_22) ?_
        clear hs a
        intro a hs
        refine t_pure hs rfl rfl (by decide) (p_eq rfl rfl rfl) ?_
        clear hs a
        intro a hs
        refine hK10 _ _ ?_
        refine c_cond hs rfl (fun hb => ?_) (fun hb => ?_)
        · replace h := h.1 hb
          clear hb
          refine wp_seq_k fun K11 hK11 => ?_
          refine wp_region_lit ?_
          refine t_pure hs rfl rfl (by decide) (p_assign rfl rfl) ?_
          clear hs a
          intro a hs
          refine hK11 _ _ ?_
          refine wp_ret ?_
          refine f_ret (fn := Try.f13) hs (fun a hs => r_one hs rfl (rfl)) ⟨false, rfl, h⟩
        · replace h := h.2 hb
          clear hb
          refine wp_skip ?_
          refine hK9 _ _ ?_
          refine wp_seq_k fun K12 hK12 => ?_
          refine wp_region_lit ?_
          refine t_pure hs rfl rfl (by decide) (p_move rfl rfl) ?_
          clear hs a
          intro a hs
          refine t_pure hs rfl rfl (by decide) (p_move rfl rfl) ?_
          clear hs a
          intro a hs
          obtain ⟨t31, he, h⟩ := h
          refine t_pure hs rfl rfl (by decide) (Pure.int he (p_and rfl rfl rfl)) ?_
          clear hs a he
          intro a hs
          refine t_pure hs rfl rfl (by decide) (p_move rfl rfl) ?_
          clear hs a
          intro a hs
          refine t_pure hs rfl rfl (by decide) (p_len rfl rfl sl_22) ?_
          clear hs a
          intro a hs
          obtain ⟨h0, t34, he, h⟩ := h
          refine t_pure hs rfl rfl (by decide) (Pure.int he (p_rem rfl rfl rfl h0)) ?_
          clear hs a h0 he
          intro a hs
          obtain ⟨t35, h0, h1, h2, h3, he, h⟩ := h
          refine t_pure hs rfl rfl (by decide) (Pure.sl he (p_slc rfl rfl sl_22 rfl ⟨_, rfl⟩ rfl (by decide) h0 h1 h2 h3)) ?_
          clear hs a h0 h1 h2 h3 he
          intro a hs
          refine t_call hs rfl rfl (by decide) (e_call rfl rfl rfl cb_47) h ?_
          clear hs a h
          intro v a w hk hs
          obtain ⟨t36x0, t36x1, rfl, h⟩ := hk
          replace hs := hs.to (τ := [(0, (Sl.val a0)), (1, (Sl.val b1)), (7, (Sl.val t22)), (8, (Sl.val t24)), (36, (.tuple #[(Sl.val t36x0), (.int .i64 t36x1)]))]) ⟨rfl, rfl, rfl, rfl, rfl, trivial⟩
          refine t_pure hs rfl rfl (by decide) (p_move rfl rfl) ?_
          clear hs a
          intro a hs
          refine t_pure hs rfl rfl (by decide) (p_extract rfl rfl rfl) ?_
          clear hs a
          intro a hs
          refine t_pure hs rfl rfl (by decide) (p_extract rfl rfl rfl) ?_
          clear hs a
          intro a hs
          refine t_pure hs rfl rfl (by decide) (p_assign rfl rfl) ?_
          clear hs a
          intro a hs
          refine t_pure hs rfl rfl (by decide) (p_assign rfl rfl) ?_
          clear hs a
          intro a hs
          refine hK12 _ _ ?_
          refine wp_seq_k fun K13 hK13 => ?_
          have J2 : ∀ (t6_2 : Bool) (a : Act) (w : World), Slots a 54 [(6, (.bool t6_2))] → law08_SnapUnlike.s2 Q t6_2 w → K13 a w := by
            clear h hs
            intro t6_2 a w hs h
            refine hK13 _ _ ?_
            unfold law08_SnapUnlike.s2 at h
            refine wp_ret ?_
            refine f_ret (fn := Try.f13) hs (fun a hs => r_one hs rfl (rfl)) ⟨t6_2, rfl, h⟩
          clear hK13
          refine wp_region_lit ?_
          refine t_pure hs rfl rfl (by decide) (p_move rfl rfl) ?_
          clear hs a
          intro a hs
          obtain ⟨t40, hd, h⟩ := h
          refine t_eff hs rfl rfl (by decide) (e_convert rfl rfl hd) ?_
          clear hs a hd
          intro a hs
          refine t_pure hs rfl rfl (by decide) (p_move rfl rfl) ?_
          clear hs a
          intro a hs
          obtain ⟨t42, hd, h⟩ := h
          refine t_eff hs rfl rfl (by decide) (e_convert rfl rfl hd) ?_
          clear hs a hd
          intro a hs
          refine t_pure hs rfl rfl (by decide) (p_eqs rfl rfl rfl) ?_
          clear hs a
          intro a hs
          refine t_pure hs rfl rfl (by decide) (p_move rfl rfl) ?_
          clear hs a
          intro a hs
          obtain ⟨t45, hd, h⟩ := h
          refine t_eff hs rfl rfl (by decide) (e_convert rfl rfl hd) ?_
          clear hs a hd
          intro a hs
          refine t_pure hs rfl rfl (by decide) (p_move rfl rfl) ?_
          clear hs a
          intro a hs
          replace hs := hs.to (τ := [(10, (.int .i64 t36x1)), (43, (.bool (t40.toList == t42.toList))), (45, (.string t45)), (46, (Sl.val b1))]) ⟨rfl, rfl, rfl, rfl, trivial⟩
          obtain ⟨t47, hd, h⟩ := h
          refine t_eff hs rfl rfl (by decide) (e_convert rfl rfl hd) ?_
          clear hs a hd
          intro a hs
          refine t_pure hs rfl rfl (by decide) (p_eqs rfl rfl rfl) ?_
          clear hs a
          intro a hs
          refine t_pure hs rfl rfl (by decide) (p_eqb rfl rfl rfl Try.underlying4) ?_
          clear hs a
          intro a hs
          refine t_pure hs rfl rfl (by decide) (p_move rfl rfl) ?_
          clear hs a
          intro a hs
          refine split_bool ((t40.toList == t42.toList) == (t45.toList == t47.toList)) (fun hb => ?_) (fun hb => ?_)
          · replace h := h.1 hb
            rw [hb] at hs
            clear hb
            refine t_yes hs rfl ?_
            refine t_pure hs rfl rfl (by decide) (p_move rfl rfl) ?_
            clear hs a
            intro a hs
            refine t_yes hs rfl ?_
            refine t_pure hs rfl rfl (by decide) (p_eq rfl rfl rfl) ?_
            clear hs a
            intro a hs
            refine t_pure hs rfl rfl (by decide) (p_pick_t rfl rfl rfl) ?_
            clear hs a
            intro a hs
            refine t_pure hs rfl rfl (by decide) (p_assign rfl rfl) ?_
            clear hs a
            intro a hs
            exact J2 (decide (t36x1 = 61)) _ _ (hs.to ⟨rfl, trivial⟩) h
          · replace h := h.2 hb
            rw [hb] at hs
            clear hb
            refine t_no hs rfl rfl (by decide) ?_
            clear hs a
            intro a hs
            refine t_no hs rfl rfl (by decide) ?_
            clear hs a
            intro a hs
            refine t_pure hs rfl rfl (by decide) (p_pick_f rfl rfl rfl) ?_
            clear hs a
            intro a hs
            refine t_pure hs rfl rfl (by decide) (p_assign rfl rfl) ?_
            clear hs a
            intro a hs
            exact J2 false _ _ (hs.to ⟨rfl, trivial⟩) h
    clear hK6
    refine wp_region_lit ?_
    refine t_pure hs rfl rfl (by decide) (p_move rfl rfl) ?_
    clear hs a
    intro a hs
    refine t_pure hs rfl rfl (by decide) (p_len rfl rfl sl_22) ?_
    clear hs a
    intro a hs
    refine t_pure hs rfl rfl (by decide) (p_gt rfl rfl rfl) ?_
    clear hs a
    intro a hs
    refine t_pure hs rfl rfl (by decide) (p_move rfl rfl) ?_
    clear hs a
    intro a hs
    refine split_bool (decide ((5000 : Int) < (a0.n : Int))) (fun hb => ?_) (fun hb => ?_)
    · replace h := h.1 hb
      rw [hb] at hs
      clear hb
      refine t_no hs rfl rfl (by decide) ?_
      clear hs a
      intro a hs
      refine t_no hs rfl rfl (by decide) ?_
      clear hs a
      intro a hs
      refine t_no hs rfl rfl (by decide) ?_
      clear hs a
      intro a hs
      refine t_pure hs rfl rfl (by decide) (p_pick_t rfl rfl rfl) ?_
      clear hs a
      intro a hs
      exact J1 true _ _ (hs.to ⟨rfl, rfl, rfl, rfl, trivial⟩) h
    · replace h := h.2 hb
      rw [hb] at hs
      clear hb
      refine t_yes hs rfl ?_
      refine t_pure hs rfl rfl (by decide) (p_move rfl rfl) ?_
      clear hs a
      intro a hs
      refine t_yes hs rfl ?_
      refine t_pure hs rfl rfl (by decide) (p_len rfl rfl sl_22) ?_
      clear hs a
      intro a hs
      refine t_yes hs rfl ?_
      refine t_pure hs rfl rfl (by decide) (p_gt rfl rfl rfl) ?_
      clear hs a
      intro a hs
      refine t_pure hs rfl rfl (by decide) (p_pick_f rfl rfl rfl) ?_
      clear hs a
      intro a hs
      exact J1 (decide ((5000 : Int) < (b1.n : Int))) _ _ (hs.to ⟨rfl, rfl, rfl, rfl, trivial⟩) h
def law08_speaks.s1 (Q : Bool → K)  (t0_1 : Bool) : K :=
  Q t0_1
def law08_speaks  (Q : Bool → K) : K :=
  snap_Pack.call (Sl.mk none 0 0) fun t4 =>
  snap_Unpack.call t4 fun t7x0 t7x1 =>
  Ite (decide ((t4.n : Int) = 7))
    (Ite (decide ((t7x0.n : Int) = 0))
      (law08_speaks.s1 Q (decide (t7x1 = 0)))
      (law08_speaks.s1 Q false))
    (law08_speaks.s1 Q false)
theorem law08_speaks_ok  (Q : Bool → K) (w : World) (h : law08_speaks  Q w) : law08_speaks.call  Q w := by
  unfold law08_speaks.call CallF
  refine f_start (args := []) Try.func45 rfl (Nat.le_of_ble_eq_true rfl) ?_
  intro a hs
  unfold law08_speaks at h
  refine wp_seq_k fun K1 hK1 => ?_
  refine wp_region_lit ?_
  refine t_pure hs rfl rfl (by decide) (p_assign rfl rfl) ?_
  clear hs a
  intro a hs
  refine hK1 _ _ ?_
  refine wp_seq_k fun K2 hK2 => ?_
  refine wp_region_lit ?_
  refine t_call hs rfl rfl (by decide) (e_call rfl rfl rfl cb_46) h ?_
  clear hs a h
  intro v a w hk hs
  obtain ⟨t4, rfl, h⟩ := hk
  refine t_pure hs rfl rfl (by decide) (p_assign rfl rfl) ?_
  clear hs a
  intro a hs
  refine hK2 _ _ ?_
  refine wp_seq_k fun K3 hK3 => ?_
  refine wp_region_lit ?_
  refine t_pure hs rfl rfl (by decide) (p_move rfl rfl) ?_
  clear hs a
  intro a hs
  refine t_call hs rfl rfl (by decide) (e_call rfl rfl rfl cb_47) h ?_
  clear hs a h
  intro v a w hk hs
  obtain ⟨t7x0, t7x1, rfl, h⟩ := hk
  refine t_pure hs rfl rfl (by decide) (p_move rfl rfl) ?_
  clear hs a
  intro a hs
  refine t_pure hs rfl rfl (by decide) (p_extract rfl rfl rfl) ?_
  clear hs a
  intro a hs
  refine t_pure hs rfl rfl (by decide) (p_extract rfl rfl rfl) ?_
  clear hs a
  intro a hs
  refine t_pure hs rfl rfl (by decide) (p_assign rfl rfl) ?_
  clear hs a
  intro a hs
  refine t_pure hs rfl rfl (by decide) (p_assign rfl rfl) ?_
  clear hs a
  intro a hs
  refine hK3 _ _ ?_
  refine wp_seq_k fun K4 hK4 => ?_
  have J1 : ∀ (t0_1 : Bool) (a : Act) (w : World), Slots a 22 [(0, (.bool t0_1))] → law08_speaks.s1 Q t0_1 w → K4 a w := by
    clear h hs
    intro t0_1 a w hs h
    refine hK4 _ _ ?_
    unfold law08_speaks.s1 at h
    refine wp_ret ?_
    refine f_ret (fn := Try.f45) hs (fun a hs => r_one hs rfl (rfl)) ⟨t0_1, rfl, h⟩
  clear hK4
  refine wp_region_lit ?_
  refine t_pure hs rfl rfl (by decide) (p_move rfl rfl) ?_
  clear hs a
  intro a hs
  refine t_pure hs rfl rfl (by decide) (p_len rfl rfl sl_22) ?_
  clear hs a
  intro a hs
  refine t_pure hs rfl rfl (by decide) (p_eq rfl rfl rfl) ?_
  clear hs a
  intro a hs
  refine t_pure hs rfl rfl (by decide) (p_move rfl rfl) ?_
  clear hs a
  intro a hs
  refine split_bool (decide ((t4.n : Int) = 7)) (fun hb => ?_) (fun hb => ?_)
  · replace h := h.1 hb
    rw [hb] at hs
    clear hb
    refine t_yes hs rfl ?_
    refine t_pure hs rfl rfl (by decide) (p_move rfl rfl) ?_
    clear hs a
    intro a hs
    refine t_yes hs rfl ?_
    refine t_pure hs rfl rfl (by decide) (p_len rfl rfl sl_22) ?_
    clear hs a
    intro a hs
    refine t_yes hs rfl ?_
    refine t_pure hs rfl rfl (by decide) (p_eq rfl rfl rfl) ?_
    clear hs a
    intro a hs
    refine t_pure hs rfl rfl (by decide) (p_pick_t rfl rfl rfl) ?_
    clear hs a
    intro a hs
    replace hs := hs.to (τ := [(3, (.int .i64 t7x1)), (17, (.bool (decide ((t7x0.n : Int) = 0))))]) ⟨rfl, rfl, trivial⟩
    refine t_pure hs rfl rfl (by decide) (p_move rfl rfl) ?_
    clear hs a
    intro a hs
    refine split_bool (decide ((t7x0.n : Int) = 0)) (fun hb => ?_) (fun hb => ?_)
    · replace h := h.1 hb
      rw [hb] at hs
      clear hb
      refine t_yes hs rfl ?_
      refine t_pure hs rfl rfl (by decide) (p_move rfl rfl) ?_
      clear hs a
      intro a hs
      refine t_yes hs rfl ?_
      refine t_pure hs rfl rfl (by decide) (p_eq rfl rfl rfl) ?_
      clear hs a
      intro a hs
      refine t_pure hs rfl rfl (by decide) (p_pick_t rfl rfl rfl) ?_
      clear hs a
      intro a hs
      refine t_pure hs rfl rfl (by decide) (p_assign rfl rfl) ?_
      clear hs a
      intro a hs
      exact J1 (decide (t7x1 = 0)) _ _ (hs.to ⟨rfl, trivial⟩) h
    · replace h := h.2 hb
      rw [hb] at hs
      clear hb
      refine t_no hs rfl rfl (by decide) ?_
      clear hs a
      intro a hs
      refine t_no hs rfl rfl (by decide) ?_
      clear hs a
      intro a hs
      refine t_pure hs rfl rfl (by decide) (p_pick_f rfl rfl rfl) ?_
      clear hs a
      intro a hs
      refine t_pure hs rfl rfl (by decide) (p_assign rfl rfl) ?_
      clear hs a
      intro a hs
      exact J1 false _ _ (hs.to ⟨rfl, trivial⟩) h
  · replace h := h.2 hb
    rw [hb] at hs
    clear hb
    refine t_no hs rfl rfl (by decide) ?_
    clear hs a
    intro a hs
    refine t_no hs rfl rfl (by decide) ?_
    clear hs a
    intro a hs
    refine t_no hs rfl rfl (by decide) ?_
    clear hs a
    intro a hs
    refine t_pure hs rfl rfl (by decide) (p_pick_f rfl rfl rfl) ?_
    clear hs a
    intro a hs
    replace hs := hs.to (τ := [(3, (.int .i64 t7x1)), (17, (.bool false))]) ⟨rfl, rfl, trivial⟩
    refine t_pure hs rfl rfl (by decide) (p_move rfl rfl) ?_
    clear hs a
    intro a hs
    refine t_no hs rfl rfl (by decide) ?_
    clear hs a
    intro a hs
    refine t_no hs rfl rfl (by decide) ?_
    clear hs a
    intro a hs
    refine t_pure hs rfl rfl (by decide) (p_pick_f rfl rfl rfl) ?_
    clear hs a
    intro a hs
    refine t_pure hs rfl rfl (by decide) (p_assign rfl rfl) ?_
    clear hs a
    intro a hs
    exact J1 false _ _ (hs.to ⟨rfl, trivial⟩) h
end Go.Proofs.Ytilejcnbacmdnaa
