/- Plain forms of functions, and that their code comes to them (package disk). -/
import Derived.Test.YtdpepgjbambinaaCalls
namespace Go.Proofs.Ytdpepgjbambinaa
open Go Go.Sep
set_option linter.unusedVariables false
set_option linter.unusedSimpArgs false
set_option maxRecDepth 100000
set_option maxHeartbeats 4000000
def disk_New.s1 (Q : (Option Addr) → Int → K)  (room0_1 : Int) (t9_1 : Bool) : K :=
  Ite t9_1
    (Q none 1)
    (Do Try.prog (Instr.makeMap 155 none) Value.map fun t11 =>
    New 157 #[(.int .i64 room0_1), (.map t11), (.int .i64 (-1)), (.bool false)] fun t13 =>
    Q (some t13) 0)
def disk_New (room0 : Int) (Q : (Option Addr) → Int → K) : K :=
  Ite (decide (room0 < 1))
    (disk_New.s1 Q room0 true)
    (disk_New.s1 Q room0 (decide ((1048576 : Int) < room0)))
theorem disk_New_ok (room0 : Int) (Q : (Option Addr) → Int → K) (w : World) (h : disk_New room0 Q w) : disk_New.call room0 Q w := by
  unfold disk_New.call CallF
  refine f_start (args := [(.int .i64 room0)]) Try.func27 rfl (Nat.le_of_ble_eq_true rfl) ?_
  intro a hs
  unfold disk_New at h
  refine wp_seq_k fun K1 hK1 => ?_
  refine wp_region_lit ?_
  refine t_pure hs rfl rfl (by decide) (p_assign rfl rfl) ?_
  clear hs a; intro a hs
  refine t_pure hs rfl rfl (by decide) (p_assign rfl rfl) ?_
  clear hs a; intro a hs
  refine hK1 _ _ ?_
  refine wp_seq_k fun K2 hK2 => ?_
  refine wp_seq_k fun K3 hK3 => ?_
  have J1 : ∀ (t9_1 : Bool) (a : Act) (w : World), Slots a 14 [(0, (.int .i64 room0)), (9, (.bool t9_1))] → disk_New.s1 Q room0 t9_1 w → K3 a w := by
    clear h hs
    intro t9_1 a w hs h
    refine hK3 _ _ ?_
    unfold disk_New.s1 at h
    refine c_cond hs rfl (fun hb => ?_) (fun hb => ?_)
    · replace h := h.1 hb
      clear hb
      refine wp_seq_k fun K4 hK4 => ?_
      refine wp_region_lit ?_
      refine t_pure hs rfl rfl (by decide) (p_assign rfl rfl) ?_
      clear hs a; intro a hs
      refine t_pure hs rfl rfl (by decide) (p_assign rfl rfl) ?_
      clear hs a; intro a hs
      refine hK4 _ _ ?_
      refine wp_ret ?_
      refine f_ret (fn := Try.f27) hs (fun a hs => r_many hs (rs := [ResultVar.tmp 2, ResultVar.tmp 3]) (vs := [(.pointer none), (.int .i64 1)]) rfl (by decide) ⟨rfl, rfl, trivial⟩) ⟨none, 1, rfl, h⟩
    · replace h := h.2 hb
      clear hb
      refine wp_skip ?_
      refine hK2 _ _ ?_
      refine wp_seq_k fun K5 hK5 => ?_
      refine wp_region_lit ?_
      refine t_pure hs rfl rfl (by decide) (p_move rfl rfl) ?_
      clear hs a; intro a hs
      obtain ⟨t11, w1, hd, h⟩ := h
      refine t_eff hs rfl rfl (by decide) (e_makeMap rfl hd) ?_
      clear hs a hd; intro a hs
      refine t_pure hs rfl rfl (by decide) (e_build (cs := #[(.int .i64 room0), (.map t11), (.int .i64 (-1)), (.bool false)]) rfl zt_157 pl_157 rfl rfl) ?_
      clear hs a; intro a hs
      obtain ⟨t13, w1, ha, hw, h⟩ := h
      refine t_eff hs rfl rfl (by decide) (e_box rfl rfl rfl ha hw) ?_
      clear hs a ha hw; intro a hs
      refine t_pure hs rfl rfl (by decide) (p_assign rfl rfl) ?_
      clear hs a; intro a hs
      refine t_pure hs rfl rfl (by decide) (p_assign rfl rfl) ?_
      clear hs a; intro a hs
      refine hK5 _ _ ?_
      refine wp_ret ?_
      refine f_ret (fn := Try.f27) hs (fun a hs => r_many hs (rs := [ResultVar.tmp 2, ResultVar.tmp 3]) (vs := [(.pointer (some t13)), (.int .i64 0)]) rfl (by decide) ⟨rfl, rfl, trivial⟩) ⟨(some t13), 0, rfl, h⟩
  clear hK3
  refine wp_region_lit ?_
  refine t_pure hs rfl rfl (by decide) (p_move rfl rfl) ?_
  clear hs a; intro a hs
  refine t_pure hs rfl rfl (by decide) (p_lt rfl rfl rfl) ?_
  clear hs a; intro a hs
  refine t_pure hs rfl rfl (by decide) (p_move rfl rfl) ?_
  clear hs a; intro a hs
  refine split_bool (decide (room0 < 1)) (fun hb => ?_) (fun hb => ?_)
  · replace h := h.1 hb
    rw [hb] at hs
    clear hb
    refine t_no hs rfl rfl (by decide) ?_
    clear hs a; intro a hs
    refine t_no hs rfl rfl (by decide) ?_
    clear hs a; intro a hs
    refine t_pure hs rfl rfl (by decide) (p_pick_t rfl rfl rfl) ?_
    clear hs a; intro a hs
    exact J1 true _ _ (hs.to ⟨rfl, rfl, trivial⟩) h
  · replace h := h.2 hb
    rw [hb] at hs
    clear hb
    refine t_yes hs rfl ?_
    refine t_pure hs rfl rfl (by decide) (p_move rfl rfl) ?_
    clear hs a; intro a hs
    refine t_yes hs rfl ?_
    refine t_pure hs rfl rfl (by decide) (p_gt rfl rfl rfl) ?_
    clear hs a; intro a hs
    refine t_pure hs rfl rfl (by decide) (p_pick_f rfl rfl rfl) ?_
    clear hs a; intro a hs
    exact J1 (decide ((1048576 : Int) < room0)) _ _ (hs.to ⟨rfl, rfl, trivial⟩) h
def disk_Disk_Crash.s2 (Q : (Option Addr) → K) (X1 : Int → K) (d0_2 : Addr) (keeps1_2 : Sl) (out5_2 : Addr) (name7_2 : ByteArray) (f8_2 : (Option Addr)) (keep9_2 : Int) (t20_2 : Sl) (t21_2 : Int) (t22_2 : Int) : K :=
  Nn f8_2 fun t59 =>
  Ld (t59.add 1) (Value.int .i64) fun t61 =>
  Ar (IntKind.wrap .i64 (t61 + keep9_2)) fun t63 =>
  Dr <| WithS fun S =>
  LdS S (out5_2.add 1) Value.map fun t67 =>
  LdS S t59 Sl.val fun t72 =>
  Slc t72 0 t63 (t72.c : Int) 1 fun t74 =>
  slices_Clone_s_byte_byte.call t74 fun t75 =>
  Sv S <|
  New 165 #[(Sl.val t75), (.int .i64 t63)] fun t78 =>
  Sv S <|
  DoU Try.prog (Instr.mapUpdate 155 (.map t67) (.string name7_2) (.pointer (some t78))) <|
  Ar (IntKind.wrap .i64 (t22_2 + 1)) fun t79 =>
  X1 t79
def disk_Disk_Crash.b1 (Q : (Option Addr) → K)  (X1 : Int → K) (d0_1 : Addr) (keeps1_1 : Sl) (out5_1 : Addr) (t20_1 : Sl) (t21_1 : Int) (t22_1 : Int) : K :=
  Ite (decide (t22_1 < t21_1))
    (Idx t20_1 t22_1 1 fun t25 =>
    Ld t25 Value.string fun t26 =>
    Ld (d0_1.add 1) Value.map fun t30 =>
    Rd Try.prog (Instr.lookup 155 (.map t30) (.string t26) false) Value.pointer fun t32 =>
    Ite (decide (t22_1 < (keeps1_1.n : Int)))
      (Dr <|
      Nn t32 fun t38 =>
      Ld t38 Sl.val fun t40 =>
      Ld (t38.add 1) (Value.int .i64) fun t45 =>
      Ar (IntKind.wrap .i64 ((t40.n : Int) - t45)) fun t46 =>
      Ar (IntKind.wrap .i64 (t46 + 1)) fun t47 =>
      Idx keeps1_1 t22_1 1 fun t50 =>
      Ld t50 (Value.int .i64) fun t51 =>
      Cd (t47 ≠ 0) <|
      Ar (Int.tmod t51 t47) fun t53 =>
      Ar (IntKind.wrap .i64 (t53 + t47)) fun t55 =>
      Cd (t47 ≠ 0) <|
      Ar (Int.tmod t55 t47) fun t57 =>
      disk_Disk_Crash.s2 Q X1 d0_1 keeps1_1 out5_1 t26 (some t38) t57 t20_1 t21_1 t22_1)
      (disk_Disk_Crash.s2 Q X1 d0_1 keeps1_1 out5_1 t26 t32 0 t20_1 t21_1 t22_1))
    (Q (some out5_1))
def disk_Disk_Crash (d0 : (Option Addr)) (keeps1 : Sl) (Q : (Option Addr) → K) : K :=
  Nn d0 fun t13 =>
  Ld t13 (Value.int .i64) fun t15 =>
  Do Try.prog (Instr.makeMap 155 none) Value.map fun t16 =>
  New 157 #[(.int .i64 t15), (.map t16), (.int .i64 (-1)), (.bool false)] fun t18 =>
  disk_Disk_Names.call (some t13) fun t20 =>
  LoopK (α := Int) (fun X x => disk_Disk_Crash.b1 Q X t13 keeps1 t18 t20 (t20.n : Int) x) 0
theorem disk_Disk_Crash_ok (d0 : (Option Addr)) (keeps1 : Sl) (Q : (Option Addr) → K) (w : World) (h : disk_Disk_Crash d0 keeps1 Q w) : disk_Disk_Crash.call d0 keeps1 Q w := by
  unfold disk_Disk_Crash.call CallF
  refine f_start (args := [(.pointer d0), (Sl.val keeps1)]) Try.func32 rfl (Nat.le_of_ble_eq_true rfl) ?_
  intro a hs
  unfold disk_Disk_Crash at h
  refine wp_seq_k fun K1 hK1 => ?_
  refine wp_region_lit ?_
  refine t_pure hs rfl rfl (by decide) (p_assign rfl rfl) ?_
  clear hs a; intro a hs
  refine hK1 _ _ ?_
  refine wp_seq_k fun K2 hK2 => ?_
  refine wp_region_lit ?_
  refine t_pure hs rfl rfl (by decide) (p_move rfl rfl) ?_
  clear hs a; intro a hs
  obtain ⟨t13, rfl, h⟩ := h
  refine t_pure hs rfl rfl (by decide) (p_nil rfl rfl) ?_
  clear hs a; intro a hs
  refine t_pure hs rfl rfl (by decide) (p_fieldAddr0 rfl rfl ft_157_0) ?_
  clear hs a; intro a hs
  obtain ⟨t15, hv, h⟩ := h
  refine t_eff hs rfl rfl (by decide) (e_load rfl rfl ct_3 hv) ?_
  clear hs a hv; intro a hs
  obtain ⟨t16, w1, hd, h⟩ := h
  refine t_eff hs rfl rfl (by decide) (e_makeMap rfl hd) ?_
  clear hs a hd; intro a hs
  refine t_pure hs rfl rfl (by decide) (e_build (cs := #[(.int .i64 t15), (.map t16), (.int .i64 (-1)), (.bool false)]) rfl zt_157 pl_157 rfl rfl) ?_
  clear hs a; intro a hs
  obtain ⟨t18, w1, ha, hw, h⟩ := h
  refine t_eff hs rfl rfl (by decide) (e_box rfl rfl rfl ha hw) ?_
  clear hs a ha hw; intro a hs
  refine t_pure hs rfl rfl (by decide) (p_assign rfl rfl) ?_
  clear hs a; intro a hs
  refine hK2 _ _ ?_
  refine wp_seq_k fun K3 hK3 => ?_
  refine wp_seq_k fun K4 hK4 => ?_
  refine wp_region_lit ?_
  refine t_pure hs rfl rfl (by decide) (p_move rfl rfl) ?_
  clear hs a; intro a hs
  refine t_call hs rfl rfl (by decide) (e_call rfl rfl rfl cb_69) h ?_
  clear hs a h
  intro v a w hk hs
  obtain ⟨t20, rfl, h⟩ := hk
  refine t_pure hs rfl rfl (by decide) (p_len rfl rfl sl_37) ?_
  clear hs a; intro a hs
  refine t_pure hs rfl rfl (by decide) (p_move rfl rfl) ?_
  clear hs a; intro a hs
  refine hK4 _ _ ?_
  refine wp_block ?_
  obtain ⟨I1, μ1, h0, hr⟩ := h
  refine c_loop (α := Int) I1 μ1 (fun x a => Slots a 81 [(0, (.pointer (some t13))), (1, (Sl.val keeps1)), (5, (.pointer (some t18))), (20, (Sl.val t20)), (21, (.int .i64 (t20.n : Int))), (22, (.int .i64 x))]) 0 h0 (hs.to ⟨rfl, rfl, rfl, rfl, rfl, rfl, trivial⟩) ?_
  clear h0 hs a
  intro t22_1 a w hI hs
  have h : disk_Disk_Crash.b1 Q (fun t22_1n w' => I1 t22_1n w' ∧ μ1 t22_1n w' < μ1 t22_1 w) t13 keeps1 t18 t20 (t20.n : Int) t22_1 w := hr t22_1 w hI
  clear hr hI
  generalize hX1 : (fun t22_1n w' => I1 t22_1n w' ∧ μ1 t22_1n w' < μ1 t22_1 w) = X1 at h
  unfold disk_Disk_Crash.b1 at h
  replace hs : Slots a 81 [(0, (.pointer (some t13))), (1, (Sl.val keeps1)), (5, (.pointer (some t18))), (20, (Sl.val t20)), (21, (.int .i64 (t20.n : Int))), (22, (.int .i64 t22_1))] := hs
  refine wp_seq_k fun K5 hK5 => ?_
  refine wp_region_lit ?_
  refine t_pure hs rfl rfl (by decide) (p_lt rfl rfl rfl) ?_
  clear hs a; intro a hs
  refine hK5 _ _ ?_
  refine wp_seq_k fun K6 hK6 => ?_
  refine c_cond hs rfl (fun hb => ?_) (fun hb => ?_)
  · replace h := h.1 hb
    clear hb
    refine wp_skip ?_
    refine hK6 _ _ ?_
    refine wp_seq_k fun K7 hK7 => ?_
    refine wp_block ?_
    refine wp_seq_k fun K8 hK8 => ?_
    refine wp_region_lit ?_
    refine t_pure hs rfl rfl (by decide) (p_move rfl rfl) ?_
    clear hs a; intro a hs
    obtain ⟨qt25, t25, ha, h0, h1, he, h⟩ := h
    refine t_pure hs rfl rfl (by decide) (Pure.adr he (p_idx rfl rfl rfl sl_37 ha h0 h1)) ?_
    clear hs a ha h0 h1 he; intro a hs
    obtain ⟨t26, hv, h⟩ := h
    refine t_eff hs rfl rfl (by decide) (e_load rfl rfl ct_9 hv) ?_
    clear hs a hv; intro a hs
    refine t_pure hs rfl rfl (by decide) (p_assign rfl rfl) ?_
    clear hs a; intro a hs
    refine t_pure hs rfl rfl (by decide) (p_assign rfl rfl) ?_
    clear hs a; intro a hs
    refine hK8 _ _ ?_
    refine wp_seq_k fun K9 hK9 => ?_
    refine wp_region_lit ?_
    refine t_pure hs rfl rfl (by decide) (p_move rfl rfl) ?_
    clear hs a; intro a hs
    refine t_pure hs rfl rfl (by decide) (p_nil rfl rfl) ?_
    clear hs a; intro a hs
    refine t_pure hs rfl rfl (by decide) (p_fieldAddr rfl rfl ft_157_1) ?_
    clear hs a; intro a hs
    obtain ⟨t30, hv, h⟩ := h
    refine t_eff hs rfl rfl (by decide) (e_load rfl rfl ct_155 hv) ?_
    clear hs a hv; intro a hs
    refine t_pure hs rfl rfl (by decide) (p_move rfl rfl) ?_
    clear hs a; intro a hs
    obtain ⟨t32, hd, h⟩ := h
    refine t_eff hs rfl rfl (by decide) (e_lookup rfl rfl rfl hd) ?_
    clear hs a hd; intro a hs
    refine t_pure hs rfl rfl (by decide) (p_assign rfl rfl) ?_
    clear hs a; intro a hs
    refine t_pure hs rfl rfl (by decide) (p_assign rfl rfl) ?_
    clear hs a; intro a hs
    refine hK9 _ _ ?_
    refine wp_seq_k fun K10 hK10 => ?_
    have J2 : ∀ (keep9_2 : Int) (a : Act) (w : World), Slots a 81 [(0, (.pointer (some t13))), (1, (Sl.val keeps1)), (5, (.pointer (some t18))), (7, (.string t26)), (8, (.pointer t32)), (9, (.int .i64 keep9_2)), (20, (Sl.val t20)), (21, (.int .i64 (t20.n : Int))), (22, (.int .i64 t22_1))] → disk_Disk_Crash.s2 Q X1 t13 keeps1 t18 t26 t32 keep9_2 t20 (t20.n : Int) t22_1 w → K10 a w := by
      clear h hs
      intro keep9_2 a w hs h
      refine hK10 _ _ ?_
      unfold disk_Disk_Crash.s2 at h
      refine wp_seq_k fun K11 hK11 => ?_
      refine wp_region_lit ?_
      refine t_pure hs rfl rfl (by decide) (p_move rfl rfl) ?_
      clear hs a; intro a hs
      obtain ⟨t59, rfl, h⟩ := h
      refine t_pure hs rfl rfl (by decide) (p_nil rfl rfl) ?_
      clear hs a; intro a hs
      refine t_pure hs rfl rfl (by decide) (p_fieldAddr rfl rfl ft_165_1) ?_
      clear hs a; intro a hs
      obtain ⟨t61, hv, h⟩ := h
      refine t_eff hs rfl rfl (by decide) (e_load rfl rfl ct_3 hv) ?_
      clear hs a hv; intro a hs
      refine t_pure hs rfl rfl (by decide) (p_move rfl rfl) ?_
      clear hs a; intro a hs
      obtain ⟨t63, he, h⟩ := h
      refine t_pure hs rfl rfl (by decide) (Pure.int he (p_add rfl rfl rfl)) ?_
      clear hs a he; intro a hs
      refine t_pure hs rfl rfl (by decide) (p_assign rfl rfl) ?_
      clear hs a; intro a hs
      refine hK11 _ _ ?_
      obtain ⟨w1, hw1, h⟩ := h
      obtain ⟨S, hS, h⟩ := h
      subst hw1
      refine d_start (S := S) (ds := [15]) #[false, false, false, false, false, false, false, false, false, false, false, false, false, false, false, false] mixed rfl rfl ?_
      refine d_pure hs #[true, false, false, false, false, false, false, false, false, false, false, false, false, false, false, false] (i := 0) rfl rfl rfl (by decide) (by kernel_rfl) (tight_body (P := Try.prog) (fn := Try.f32)) (p_move rfl rfl) ?_
      clear hs a; intro a hs
      refine d_pure hs #[true, true, false, false, false, false, false, false, false, false, false, false, false, false, false, false] (i := 1) rfl rfl rfl (by decide) (by kernel_rfl) (tight_body (P := Try.prog) (fn := Try.f32)) (p_nil rfl rfl) ?_
      clear hs a; intro a hs
      refine d_pure hs #[true, true, true, false, false, false, false, false, false, false, false, false, false, false, false, false] (i := 2) rfl rfl rfl (by decide) (by kernel_rfl) (tight_body (P := Try.prog) (fn := Try.f32)) (p_fieldAddr rfl rfl ft_157_1) ?_
      clear hs a; intro a hs
      refine d_pure hs #[true, true, true, false, true, false, false, false, false, false, false, false, false, false, false, false] (i := 4) rfl rfl rfl (by decide) (by kernel_rfl) (tight_body (P := Try.prog) (fn := Try.f32)) (p_move rfl rfl) ?_
      clear hs a; intro a hs
      refine d_pure hs #[true, true, true, false, true, true, false, false, false, false, false, false, false, false, false, false] (i := 5) rfl rfl rfl (by decide) (by kernel_rfl) (tight_body (P := Try.prog) (fn := Try.f32)) (p_move rfl rfl) ?_
      clear hs a; intro a hs
      refine d_pure hs #[true, true, true, false, true, true, true, false, false, false, false, false, false, false, false, false] (i := 6) rfl rfl rfl (by decide) (by kernel_rfl) (tight_body (P := Try.prog) (fn := Try.f32)) (p_nil rfl rfl) ?_
      clear hs a; intro a hs
      refine d_pure hs #[true, true, true, false, true, true, true, true, false, false, false, false, false, false, false, false] (i := 7) rfl rfl rfl (by decide) (by kernel_rfl) (tight_body (P := Try.prog) (fn := Try.f32)) (p_fieldAddr0 rfl rfl ft_165_0) ?_
      clear hs a; intro a hs
      refine d_pure hs #[true, true, true, false, true, true, true, true, false, true, false, false, false, false, false, false] (i := 9) rfl rfl rfl (by decide) (by kernel_rfl) (tight_body (P := Try.prog) (fn := Try.f32)) (p_move rfl rfl) ?_
      clear hs a; intro a hs
      replace hs := hs.to (τ := [(0, (.pointer (some t13))), (1, (Sl.val keeps1)), (5, (.pointer (some t18))), (11, (.int .i64 t63)), (20, (Sl.val t20)), (21, (.int .i64 (t20.n : Int))), (22, (.int .i64 t22_1)), (66, (.pointer (some (t18.add 1)))), (68, (.string t26)), (71, (.pointer (some t59))), (73, (.int .i64 t63))]) ⟨rfl, rfl, rfl, rfl, rfl, rfl, rfl, rfl, rfl, rfl, rfl, trivial⟩
      refine d_pure hs #[true, true, true, false, true, true, true, true, false, true, false, false, true, false, false, false] (i := 12) rfl rfl rfl (by decide) (by kernel_rfl) (tight_body (P := Try.prog) (fn := Try.f32)) (p_move rfl rfl) ?_
      clear hs a; intro a hs
      obtain ⟨t67, hv, h⟩ := h
      refine d_read hs #[true, true, true, true, true, true, true, true, false, true, false, false, true, false, false, false] (i := 3) rfl rfl rfl (by decide) (by kernel_rfl) (by kernel_rfl) (tight_body (P := Try.prog) (fn := Try.f32)) hS (fun w h' => e_load rfl rfl ct_155 (hv w h')) ?_
      clear hs a hv; intro a hs
      obtain ⟨t72, hv, h⟩ := h
      refine d_read hs #[true, true, true, true, true, true, true, true, true, true, false, false, true, false, false, false] (i := 8) rfl rfl rfl (by decide) (by kernel_rfl) (by kernel_rfl) (tight_body (P := Try.prog) (fn := Try.f32)) hS (fun w h' => e_load rfl rfl ct_22 (hv w h')) ?_
      clear hs a hv; intro a hs
      obtain ⟨t74, h0, h1, h2, h3, he, h⟩ := h
      refine d_pure hs #[true, true, true, true, true, true, true, true, true, true, true, false, true, false, false, false] (i := 10) rfl rfl rfl (by decide) (by kernel_rfl) (tight_body (P := Try.prog) (fn := Try.f32)) (Pure.sl he (p_slc rfl rfl sl_22 rfl ⟨_, rfl⟩ rfl (by decide) h0 h1 h2 h3)) ?_
      clear hs a h0 h1 h2 h3 he; intro a hs
      refine d_all [11] (by kernel_rfl) (by decide) ?_
      refine AllS.cons ?_ AllS.nil
      refine d_call hs #[true, true, true, true, true, true, true, true, true, true, true, true, true, false, false, false] (i := 11) rfl rfl rfl (by decide) rfl (e_call rfl rfl rfl cb_67) h (fun v w'' hk => by obtain ⟨t75, _, hS, _⟩ := hk; exact fun _ _ => hS) ?_
      clear hs a h
      intro v a w hk hs
      obtain ⟨t75, rfl, h⟩ := hk
      obtain ⟨hS, h⟩ := h
      refine d_pure hs #[true, true, true, true, true, true, true, true, true, true, true, true, true, true, false, false] (i := 13) rfl rfl rfl (by decide) (by kernel_rfl) (tight_body (P := Try.prog) (fn := Try.f32)) (e_build (cs := #[(Sl.val t75), (.int .i64 t63)]) rfl zt_165 pl_165 rfl rfl) ?_
      clear hs a; intro a hs
      refine d_all [14] (by kernel_rfl) (by decide) ?_
      refine AllS.cons ?_ AllS.nil
      obtain ⟨t78, w1, ha, hw, h⟩ := h
      obtain ⟨hS, h⟩ := h
      refine d_eff hs #[true, true, true, true, true, true, true, true, true, true, true, true, true, true, true, false] (i := 14) rfl rfl rfl (by decide) rfl (e_box rfl rfl rfl ha hw) (fun _ _ => hS) ?_
      clear hs a ha hw; intro a hs
      refine d_all [15] (by kernel_rfl) (by decide) ?_
      refine AllS.cons ?_ AllS.nil
      obtain ⟨u1, w1, hd, h⟩ := h
      refine d_skip hs #[true, true, true, true, true, true, true, true, true, true, true, true, true, true, true, true] (i := 15) rfl rfl rfl rfl (e_mapUpdate rfl rfl rfl rfl hd) (fun hn => (hn (by decide)).elim) ?_
      clear hs a hd; intro a hs
      replace hs := hs.to (τ := [(0, (.pointer (some t13))), (1, (Sl.val keeps1)), (5, (.pointer (some t18))), (20, (Sl.val t20)), (21, (.int .i64 (t20.n : Int))), (22, (.int .i64 t22_1))]) ⟨rfl, rfl, rfl, rfl, rfl, rfl, trivial⟩
      refine d_done (by kernel_rfl) ?_ _
      clear hS
      refine hK7 _ _ ?_
      refine wp_region_lit ?_
      obtain ⟨t79, he, h⟩ := h
      refine t_pure hs rfl rfl (by decide) (Pure.int he (p_add rfl rfl rfl)) ?_
      clear hs a he; intro a hs
      refine t_pure hs rfl rfl (by decide) (p_move rfl rfl) ?_
      clear hs a; intro a hs
      rw [← hX1] at h
      exact ⟨t79, hs.to ⟨rfl, rfl, rfl, rfl, rfl, rfl, trivial⟩, h⟩
    clear hK10
    refine wp_seq_k fun K12 hK12 => ?_
    refine wp_region_lit ?_
    refine t_pure hs rfl rfl (by decide) (p_move rfl rfl) ?_
    clear hs a; intro a hs
    refine t_pure hs rfl rfl (by decide) (p_move rfl rfl) ?_
    clear hs a; intro a hs
    refine t_pure hs rfl rfl (by decide) (p_len rfl rfl sl_29) ?_
    clear hs a; intro a hs
    refine t_pure hs rfl rfl (by decide) (p_lt rfl rfl rfl) ?_
    clear hs a; intro a hs
    refine hK12 _ _ ?_
    refine c_cond hs rfl (fun hb => ?_) (fun hb => ?_)
    · replace h := h.1 hb
      clear hb
      refine wp_seq_k fun K13 hK13 => ?_
      obtain ⟨w1, hw1, h⟩ := h
      refine s_start mixed (by kernel_rfl) hw1 ?_
      clear hw1
      refine s_pure hs rfl rfl (by decide) (p_move rfl rfl) ?_
      clear hs a; intro a hs
      obtain ⟨t38, rfl, h⟩ := h
      refine s_pure hs rfl rfl (by decide) (p_nil rfl rfl) ?_
      clear hs a; intro a hs
      refine s_pure hs rfl rfl (by decide) (p_fieldAddr0 rfl rfl ft_165_0) ?_
      clear hs a; intro a hs
      obtain ⟨t40, hv, h⟩ := h
      refine s_eff hs rfl rfl (by decide) (e_load rfl rfl ct_22 hv) ?_
      clear hs a hv; intro a hs
      refine s_pure hs rfl rfl (by decide) (p_len rfl rfl sl_22) ?_
      clear hs a; intro a hs
      refine s_pure hs rfl rfl (by decide) (p_move rfl rfl) ?_
      clear hs a; intro a hs
      refine s_pure hs rfl rfl (by decide) (p_nil rfl rfl) ?_
      clear hs a; intro a hs
      refine s_pure hs rfl rfl (by decide) (p_fieldAddr rfl rfl ft_165_1) ?_
      clear hs a; intro a hs
      replace hs := hs.to (τ := [(0, (.pointer (some t13))), (1, (Sl.val keeps1)), (5, (.pointer (some t18))), (6, (.int .i64 t22_1)), (7, (.string t26)), (8, (.pointer (some t38))), (20, (Sl.val t20)), (21, (.int .i64 (t20.n : Int))), (22, (.int .i64 t22_1)), (41, (.int .i64 (t40.n : Int))), (44, (.pointer (some (t38.add 1))))]) ⟨rfl, rfl, rfl, rfl, rfl, rfl, rfl, rfl, rfl, rfl, rfl, trivial⟩
      obtain ⟨t45, hv, h⟩ := h
      refine s_eff hs rfl rfl (by decide) (e_load rfl rfl ct_3 hv) ?_
      clear hs a hv; intro a hs
      obtain ⟨t46, he, h⟩ := h
      refine s_pure hs rfl rfl (by decide) (Pure.int he (p_sub rfl rfl rfl)) ?_
      clear hs a he; intro a hs
      obtain ⟨t47, he, h⟩ := h
      refine s_pure hs rfl rfl (by decide) (Pure.int he (p_add rfl rfl rfl)) ?_
      clear hs a he; intro a hs
      refine s_pure hs rfl rfl (by decide) (p_assign rfl rfl) ?_
      clear hs a; intro a hs
      refine hK13 _ _ ?_
      refine wp_region_lit ?_
      refine t_pure hs rfl rfl (by decide) (p_move rfl rfl) ?_
      clear hs a; intro a hs
      refine t_pure hs rfl rfl (by decide) (p_move rfl rfl) ?_
      clear hs a; intro a hs
      obtain ⟨qt50, t50, ha, h0, h1, he, h⟩ := h
      refine t_pure hs rfl rfl (by decide) (Pure.adr he (p_idx rfl rfl rfl sl_29 ha h0 h1)) ?_
      clear hs a ha h0 h1 he; intro a hs
      obtain ⟨t51, hv, h⟩ := h
      refine t_eff hs rfl rfl (by decide) (e_load rfl rfl ct_3 hv) ?_
      clear hs a hv; intro a hs
      refine t_pure hs rfl rfl (by decide) (p_move rfl rfl) ?_
      clear hs a; intro a hs
      obtain ⟨h0, t53, he, h⟩ := h
      refine t_pure hs rfl rfl (by decide) (Pure.int he (p_rem rfl rfl rfl h0)) ?_
      clear hs a h0 he; intro a hs
      refine t_pure hs rfl rfl (by decide) (p_move rfl rfl) ?_
      clear hs a; intro a hs
      obtain ⟨t55, he, h⟩ := h
      refine t_pure hs rfl rfl (by decide) (Pure.int he (p_add rfl rfl rfl)) ?_
      clear hs a he; intro a hs
      replace hs := hs.to (τ := [(0, (.pointer (some t13))), (1, (Sl.val keeps1)), (5, (.pointer (some t18))), (7, (.string t26)), (8, (.pointer (some t38))), (10, (.int .i64 t47)), (20, (Sl.val t20)), (21, (.int .i64 (t20.n : Int))), (22, (.int .i64 t22_1)), (55, (.int .i64 t55))]) ⟨rfl, rfl, rfl, rfl, rfl, rfl, rfl, rfl, rfl, rfl, trivial⟩
      refine t_pure hs rfl rfl (by decide) (p_move rfl rfl) ?_
      clear hs a; intro a hs
      obtain ⟨h0, t57, he, h⟩ := h
      refine t_pure hs rfl rfl (by decide) (Pure.int he (p_rem rfl rfl rfl h0)) ?_
      clear hs a h0 he; intro a hs
      refine t_pure hs rfl rfl (by decide) (p_assign rfl rfl) ?_
      clear hs a; intro a hs
      exact J2 t57 _ _ (hs.to ⟨rfl, rfl, rfl, rfl, rfl, rfl, rfl, rfl, rfl, trivial⟩) h
    · replace h := h.2 hb
      clear hb
      refine wp_skip ?_
      exact J2 0 _ _ (hs.to ⟨rfl, rfl, rfl, rfl, rfl, rfl, rfl, rfl, rfl, trivial⟩) h
  · replace h := h.2 hb
    clear hb
    refine wp_exit ?_
    refine hK3 _ _ ?_
    refine wp_seq_k fun K14 hK14 => ?_
    refine wp_region_lit ?_
    refine t_pure hs rfl rfl (by decide) (p_move rfl rfl) ?_
    clear hs a; intro a hs
    refine t_pure hs rfl rfl (by decide) (p_assign rfl rfl) ?_
    clear hs a; intro a hs
    refine hK14 _ _ ?_
    refine wp_ret ?_
    refine f_ret (fn := Try.f32) hs (fun a hs => r_one hs rfl (rfl)) ⟨(some t18), rfl, h⟩
def disk_Disk_Append.s1 (Q : Int → K)  (d0_1 : Addr) (data2_1 : Sl) (f7_1 : (Option Addr)) : K :=
  Nn f7_1 fun t61 =>
  Ld t61 Sl.val fun t63 =>
  Do Try.prog (Builtin.append_ #[22, 22] 22 #[(Sl.val t63), (Sl.val data2_1)]) Sl.val fun t65 =>
  St t61 (Sl.val t65) <|
  disk_Disk_change.call (some d0_1) fun t69 =>
  Q t69
def disk_Disk_Append.s2 (Q : Int → K)  (d0_2 : Addr) (name1_2 : ByteArray) (data2_2 : Sl) (f7_2 : (Option Addr)) (there8_2 : Bool) (t27_2 : Bool) : K :=
  Ite t27_2
    (Q 2)
    (Ite (!there8_2)
      (New 165 #[(Sl.val ⟨none, 0, 0⟩), (.int .i64 0)] fun t52 =>
      Ld (d0_2.add 1) Value.map fun t56 =>
      DoU Try.prog (Instr.mapUpdate 155 (.map t56) (.string name1_2) (.pointer (some t52))) <|
      disk_Disk_Append.s1 Q d0_2 data2_2 (some t52))
      (disk_Disk_Append.s1 Q d0_2 data2_2 f7_2))
def disk_Disk_Append.s3 (Q : Int → K)  (d0_3 : Addr) (name1_3 : ByteArray) (data2_3 : Sl) (f7_3 : (Option Addr)) (there8_3 : Bool) (t27_3 : Bool) : K :=
  Ite t27_3
    (disk_Disk_Append.s2 Q d0_3 name1_3 data2_3 f7_3 there8_3 t27_3)
    (Dr <| WithS fun S =>
    LdS S d0_3 (Value.int .i64) fun t43 =>
    disk_Disk_Used.call (some d0_3) fun t45 =>
    Sv S <|
    Ar (IntKind.wrap .i64 (t43 - t45)) fun t46 =>
    disk_Disk_Append.s2 Q d0_3 name1_3 data2_3 f7_3 there8_3 (decide (t46 < (data2_3.n : Int))))
def disk_Disk_Append (d0 : (Option Addr)) (name1 : ByteArray) (data2 : Sl) (Q : Int → K) : K :=
  Nn d0 fun t11 =>
  Ld (t11.add 1) Value.map fun t13 =>
  Rd2 Try.prog (Instr.lookup 155 (.map t13) (.string name1) true) (fun x y => .tuple #[Value.pointer x, .bool y]) fun t15v t15ok =>
  Ld (t11.add 3) Value.bool fun t22 =>
  Ite t22
    (Q 3)
    (disk_named.call name1 fun t25 =>
    Ite (!t25)
      (Q 1)
      (Ite (!t15ok)
        (Ld (t11.add 1) Value.map fun t34 =>
        Rd Try.prog (Builtin.len_ #[155] 3 #[(.map t34)]) (Value.int .i64) fun t35 =>
        disk_Disk_Append.s3 Q t11 name1 data2 t15v t15ok (decide ((32 : Int) ≤ t35)))
        (disk_Disk_Append.s3 Q t11 name1 data2 t15v t15ok false)))
theorem disk_Disk_Append_ok (d0 : (Option Addr)) (name1 : ByteArray) (data2 : Sl) (Q : Int → K) (w : World) (h : disk_Disk_Append d0 name1 data2 Q w) : disk_Disk_Append.call d0 name1 data2 Q w := by
  unfold disk_Disk_Append.call CallF
  refine f_start (args := [(.pointer d0), (.string name1), (Sl.val data2)]) Try.func34 rfl (Nat.le_of_ble_eq_true rfl) ?_
  intro a hs
  unfold disk_Disk_Append at h
  refine wp_seq_k fun K1 hK1 => ?_
  refine wp_region_lit ?_
  refine t_pure hs rfl rfl (by decide) (p_assign rfl rfl) ?_
  clear hs a; intro a hs
  refine hK1 _ _ ?_
  refine wp_seq_k fun K2 hK2 => ?_
  refine wp_region_lit ?_
  refine t_pure hs rfl rfl (by decide) (p_move rfl rfl) ?_
  clear hs a; intro a hs
  obtain ⟨t11, rfl, h⟩ := h
  refine t_pure hs rfl rfl (by decide) (p_nil rfl rfl) ?_
  clear hs a; intro a hs
  refine t_pure hs rfl rfl (by decide) (p_fieldAddr rfl rfl ft_157_1) ?_
  clear hs a; intro a hs
  obtain ⟨t13, hv, h⟩ := h
  refine t_eff hs rfl rfl (by decide) (e_load rfl rfl ct_155 hv) ?_
  clear hs a hv; intro a hs
  refine t_pure hs rfl rfl (by decide) (p_move rfl rfl) ?_
  clear hs a; intro a hs
  obtain ⟨t15v, t15ok, hd, h⟩ := h
  refine t_eff hs rfl rfl (by decide) (e_lookup rfl rfl rfl hd) ?_
  clear hs a hd; intro a hs
  refine t_pure hs rfl rfl (by decide) (p_move rfl rfl) ?_
  clear hs a; intro a hs
  refine t_pure hs rfl rfl (by decide) (p_extract rfl rfl rfl) ?_
  clear hs a; intro a hs
  replace hs := hs.to (τ := [(0, (.pointer (some t11))), (1, (.string name1)), (2, (Sl.val data2)), (9, (.tuple #[(.pointer t15v), (.bool t15ok)])), (16, (.pointer t15v))]) ⟨rfl, rfl, rfl, rfl, rfl, trivial⟩
  refine t_pure hs rfl rfl (by decide) (p_extract rfl rfl rfl) ?_
  clear hs a; intro a hs
  refine t_pure hs rfl rfl (by decide) (p_assign rfl rfl) ?_
  clear hs a; intro a hs
  refine t_pure hs rfl rfl (by decide) (p_assign rfl rfl) ?_
  clear hs a; intro a hs
  refine hK2 _ _ ?_
  refine wp_seq_k fun K3 hK3 => ?_
  have J1 : ∀ (f7_1 : (Option Addr)) (a : Act) (w : World), Slots a 70 [(0, (.pointer (some t11))), (2, (Sl.val data2)), (7, (.pointer f7_1))] → disk_Disk_Append.s1 Q t11 data2 f7_1 w → K3 a w := by
    clear h hs
    intro f7_1 a w hs h
    refine hK3 _ _ ?_
    unfold disk_Disk_Append.s1 at h
    refine wp_seq_k fun K4 hK4 => ?_
    refine wp_region_lit ?_
    refine t_pure hs rfl rfl (by decide) (p_move rfl rfl) ?_
    clear hs a; intro a hs
    refine t_pure hs rfl rfl (by decide) (p_move rfl rfl) ?_
    clear hs a; intro a hs
    obtain ⟨t61, rfl, h⟩ := h
    refine t_pure hs rfl rfl (by decide) (p_nil rfl rfl) ?_
    clear hs a; intro a hs
    refine t_pure hs rfl rfl (by decide) (p_fieldAddr0 rfl rfl ft_165_0) ?_
    clear hs a; intro a hs
    obtain ⟨t63, hv, h⟩ := h
    refine t_eff hs rfl rfl (by decide) (e_load rfl rfl ct_22 hv) ?_
    clear hs a hv; intro a hs
    refine t_pure hs rfl rfl (by decide) (p_move rfl rfl) ?_
    clear hs a; intro a hs
    obtain ⟨t65, w1, hd, h⟩ := h
    refine t_eff hs rfl rfl (by decide) (e_append rfl rfl rfl rfl hd) ?_
    clear hs a hd; intro a hs
    refine t_pure hs rfl rfl (by decide) (p_nil rfl rfl) ?_
    clear hs a; intro a hs
    replace hs := hs.to (τ := [(0, (.pointer (some t11))), (65, (Sl.val t65)), (66, (.pointer (some t61)))]) ⟨rfl, rfl, rfl, trivial⟩
    refine t_pure hs rfl rfl (by decide) (p_fieldAddr0 rfl rfl ft_165_0) ?_
    clear hs a; intro a hs
    obtain ⟨w1, hw, hc, hf, hv, h⟩ := h
    refine t_skip hs rfl rfl (e_store rfl rfl rfl sz_22 hw hc hf hv) ?_
    clear hs a hw hc hf hv; intro a hs
    refine hK4 _ _ ?_
    refine wp_seq_k fun K5 hK5 => ?_
    refine wp_region_lit ?_
    refine t_pure hs rfl rfl (by decide) (p_move rfl rfl) ?_
    clear hs a; intro a hs
    refine t_call hs rfl rfl (by decide) (e_call rfl rfl rfl cb_72) h ?_
    clear hs a h
    intro v a w hk hs
    obtain ⟨t69, rfl, h⟩ := hk
    refine t_pure hs rfl rfl (by decide) (p_assign rfl rfl) ?_
    clear hs a; intro a hs
    refine hK5 _ _ ?_
    refine wp_ret ?_
    refine f_ret (fn := Try.f34) hs (fun a hs => r_one hs rfl (rfl)) ⟨t69, rfl, h⟩
  clear hK3
  refine wp_block ?_
  refine wp_seq_k fun K6 hK6 => ?_
  refine wp_region_lit ?_
  refine t_pure hs rfl rfl (by decide) (p_move rfl rfl) ?_
  clear hs a; intro a hs
  refine t_pure hs rfl rfl (by decide) (p_nil rfl rfl) ?_
  clear hs a; intro a hs
  refine t_pure hs rfl rfl (by decide) (p_fieldAddr rfl rfl ft_157_3) ?_
  clear hs a; intro a hs
  obtain ⟨t22, hv, h⟩ := h
  refine t_eff hs rfl rfl (by decide) (e_load rfl rfl ct_4 hv) ?_
  clear hs a hv; intro a hs
  refine t_pure hs rfl rfl (by decide) (p_assign rfl rfl) ?_
  clear hs a; intro a hs
  refine hK6 _ _ ?_
  refine c_cond hs rfl (fun hb => ?_) (fun hb => ?_)
  · replace h := h.1 hb
    clear hb
    refine wp_seq_k fun K7 hK7 => ?_
    refine wp_region_lit ?_
    refine t_pure hs rfl rfl (by decide) (p_assign rfl rfl) ?_
    clear hs a; intro a hs
    refine hK7 _ _ ?_
    refine wp_ret ?_
    refine f_ret (fn := Try.f34) hs (fun a hs => r_one hs rfl (rfl)) ⟨3, rfl, h⟩
  · replace h := h.2 hb
    clear hb
    refine wp_seq_k fun K8 hK8 => ?_
    refine wp_region_lit ?_
    refine t_pure hs rfl rfl (by decide) (p_move rfl rfl) ?_
    clear hs a; intro a hs
    refine t_call hs rfl rfl (by decide) (e_call rfl rfl rfl cb_70) h ?_
    clear hs a h
    intro v a w hk hs
    obtain ⟨t25, rfl, h⟩ := hk
    refine t_pure hs rfl rfl (by decide) (p_not rfl rfl) ?_
    clear hs a; intro a hs
    refine t_pure hs rfl rfl (by decide) (p_assign rfl rfl) ?_
    clear hs a; intro a hs
    refine hK8 _ _ ?_
    refine c_cond hs rfl (fun hb => ?_) (fun hb => ?_)
    · replace h := h.1 hb
      clear hb
      refine wp_seq_k fun K9 hK9 => ?_
      refine wp_region_lit ?_
      refine t_pure hs rfl rfl (by decide) (p_assign rfl rfl) ?_
      clear hs a; intro a hs
      refine hK9 _ _ ?_
      refine wp_ret ?_
      refine f_ret (fn := Try.f34) hs (fun a hs => r_one hs rfl (rfl)) ⟨1, rfl, h⟩
    · replace h := h.2 hb
      clear hb
      refine wp_seq_k fun K10 hK10 => ?_
      have J2 : ∀ (there8_2 : Bool) (t27_2 : Bool) (a : Act) (w : World), Slots a 70 [(0, (.pointer (some t11))), (1, (.string name1)), (2, (Sl.val data2)), (7, (.pointer t15v)), (8, (.bool there8_2)), (27, (.bool t27_2))] → disk_Disk_Append.s2 Q t11 name1 data2 t15v there8_2 t27_2 w → K10 a w := by
        clear h hs
        intro there8_2 t27_2 a w hs h
        refine hK10 _ _ ?_
        unfold disk_Disk_Append.s2 at h
        refine c_cond hs rfl (fun hb => ?_) (fun hb => ?_)
        · replace h := h.1 hb
          clear hb
          refine wp_seq_k fun K11 hK11 => ?_
          refine wp_region_lit ?_
          refine t_pure hs rfl rfl (by decide) (p_assign rfl rfl) ?_
          clear hs a; intro a hs
          refine hK11 _ _ ?_
          refine wp_ret ?_
          refine f_ret (fn := Try.f34) hs (fun a hs => r_one hs rfl (rfl)) ⟨2, rfl, h⟩
        · replace h := h.2 hb
          clear hb
          refine wp_seq_k fun K12 hK12 => ?_
          refine wp_region_lit ?_
          refine t_pure hs rfl rfl (by decide) (p_move rfl rfl) ?_
          clear hs a; intro a hs
          refine t_pure hs rfl rfl (by decide) (p_not rfl rfl) ?_
          clear hs a; intro a hs
          refine t_pure hs rfl rfl (by decide) (p_assign rfl rfl) ?_
          clear hs a; intro a hs
          refine hK12 _ _ ?_
          refine c_cond hs rfl (fun hb => ?_) (fun hb => ?_)
          · replace h := h.1 hb
            clear hb
            refine wp_seq_k fun K13 hK13 => ?_
            refine wp_region_lit ?_
            refine t_pure hs rfl rfl (by decide) (e_build (cs := #[(Sl.val ⟨none, 0, 0⟩), (.int .i64 0)]) rfl zt_165 pl_165 rfl rfl) ?_
            clear hs a; intro a hs
            obtain ⟨t52, w1, ha, hw, h⟩ := h
            refine t_eff hs rfl rfl (by decide) (e_box rfl rfl rfl ha hw) ?_
            clear hs a ha hw; intro a hs
            refine t_pure hs rfl rfl (by decide) (p_assign rfl rfl) ?_
            clear hs a; intro a hs
            refine hK13 _ _ ?_
            refine wp_region_lit ?_
            refine t_pure hs rfl rfl (by decide) (p_move rfl rfl) ?_
            clear hs a; intro a hs
            refine t_pure hs rfl rfl (by decide) (p_nil rfl rfl) ?_
            clear hs a; intro a hs
            refine t_pure hs rfl rfl (by decide) (p_fieldAddr rfl rfl ft_157_1) ?_
            clear hs a; intro a hs
            obtain ⟨t56, hv, h⟩ := h
            refine t_eff hs rfl rfl (by decide) (e_load rfl rfl ct_155 hv) ?_
            clear hs a hv; intro a hs
            refine t_pure hs rfl rfl (by decide) (p_move rfl rfl) ?_
            clear hs a; intro a hs
            refine t_pure hs rfl rfl (by decide) (p_move rfl rfl) ?_
            clear hs a; intro a hs
            obtain ⟨u1, w1, hd, h⟩ := h
            refine t_skip hs rfl rfl (e_mapUpdate rfl rfl rfl rfl hd) ?_
            clear hs a hd; intro a hs
            exact J1 (some t52) _ _ (hs.to ⟨rfl, rfl, rfl, trivial⟩) h
          · replace h := h.2 hb
            clear hb
            refine wp_skip ?_
            exact J1 t15v _ _ (hs.to ⟨rfl, rfl, rfl, trivial⟩) h
      clear hK10
      refine wp_seq_k fun K14 hK14 => ?_
      have J3 : ∀ (there8_3 : Bool) (t27_3 : Bool) (a : Act) (w : World), Slots a 70 [(0, (.pointer (some t11))), (1, (.string name1)), (2, (Sl.val data2)), (7, (.pointer t15v)), (8, (.bool there8_3)), (27, (.bool t27_3))] → disk_Disk_Append.s3 Q t11 name1 data2 t15v there8_3 t27_3 w → K14 a w := by
        clear h hs
        intro there8_3 t27_3 a w hs h
        refine hK14 _ _ ?_
        unfold disk_Disk_Append.s3 at h
        refine c_cond hs rfl (fun hb => ?_) (fun hb => ?_)
        · replace h := h.1 hb
          clear hb
          refine wp_skip ?_
          exact J2 there8_3 t27_3 _ _ (hs.to ⟨rfl, rfl, rfl, rfl, rfl, rfl, trivial⟩) h
        · replace h := h.2 hb
          clear hb
          obtain ⟨w1, hw1, h⟩ := h
          obtain ⟨S, hS, h⟩ := h
          subst hw1
          refine d_start (S := S) (ds := []) #[false, false, false, false, false, false, false, false, false, false, false] mixed rfl rfl ?_
          refine d_pure hs #[true, false, false, false, false, false, false, false, false, false, false] (i := 0) rfl rfl rfl (by decide) (by kernel_rfl) (tight_body (P := Try.prog) (fn := Try.f34)) (p_move rfl rfl) ?_
          clear hs a; intro a hs
          refine d_pure hs #[true, true, false, false, false, false, false, false, false, false, false] (i := 1) rfl rfl rfl (by decide) (by kernel_rfl) (tight_body (P := Try.prog) (fn := Try.f34)) (p_len rfl rfl sl_22) ?_
          clear hs a; intro a hs
          refine d_pure hs #[true, true, true, false, false, false, false, false, false, false, false] (i := 2) rfl rfl rfl (by decide) (by kernel_rfl) (tight_body (P := Try.prog) (fn := Try.f34)) (p_move rfl rfl) ?_
          clear hs a; intro a hs
          refine d_pure hs #[true, true, true, true, false, false, false, false, false, false, false] (i := 3) rfl rfl rfl (by decide) (by kernel_rfl) (tight_body (P := Try.prog) (fn := Try.f34)) (p_nil rfl rfl) ?_
          clear hs a; intro a hs
          refine d_pure hs #[true, true, true, true, true, false, false, false, false, false, false] (i := 4) rfl rfl rfl (by decide) (by kernel_rfl) (tight_body (P := Try.prog) (fn := Try.f34)) (p_fieldAddr0 rfl rfl ft_157_0) ?_
          clear hs a; intro a hs
          refine d_pure hs #[true, true, true, true, true, false, true, false, false, false, false] (i := 6) rfl rfl rfl (by decide) (by kernel_rfl) (tight_body (P := Try.prog) (fn := Try.f34)) (p_move rfl rfl) ?_
          clear hs a; intro a hs
          obtain ⟨t43, hv, h⟩ := h
          refine d_read hs #[true, true, true, true, true, true, true, false, false, false, false] (i := 5) rfl rfl rfl (by decide) (by kernel_rfl) (by kernel_rfl) (tight_body (P := Try.prog) (fn := Try.f34)) hS (fun w h' => e_load rfl rfl ct_3 (hv w h')) ?_
          clear hs a hv; intro a hs
          refine d_all [7] (by kernel_rfl) (by decide) ?_
          refine AllS.cons ?_ AllS.nil
          refine d_call hs #[true, true, true, true, true, true, true, true, false, false, false] (i := 7) rfl rfl rfl (by decide) rfl (e_call rfl rfl rfl cb_71) h (fun v w'' hk => by obtain ⟨t45, _, hS, _⟩ := hk; exact fun _ _ => hS) ?_
          clear hs a h
          intro v a w hk hs
          obtain ⟨t45, rfl, h⟩ := hk
          obtain ⟨hS, h⟩ := h
          replace hs := hs.to (τ := [(0, (.pointer (some t11))), (1, (.string name1)), (2, (Sl.val data2)), (7, (.pointer t15v)), (8, (.bool there8_3)), (27, (.bool t27_3)), (39, (.int .i64 (data2.n : Int))), (43, (.int .i64 t43)), (45, (.int .i64 t45))]) ⟨rfl, rfl, rfl, rfl, rfl, rfl, rfl, rfl, rfl, trivial⟩
          obtain ⟨t46, he, h⟩ := h
          refine d_pure hs #[true, true, true, true, true, true, true, true, true, false, false] (i := 8) rfl rfl rfl (by decide) (by kernel_rfl) (tight_body (P := Try.prog) (fn := Try.f34)) (Pure.int he (p_sub rfl rfl rfl)) ?_
          clear hs a he; intro a hs
          refine d_pure hs #[true, true, true, true, true, true, true, true, true, true, false] (i := 9) rfl rfl rfl (by decide) (by kernel_rfl) (tight_body (P := Try.prog) (fn := Try.f34)) (p_gt rfl rfl rfl) ?_
          clear hs a; intro a hs
          refine d_pure hs #[true, true, true, true, true, true, true, true, true, true, true] (i := 10) rfl rfl rfl (by decide) (by kernel_rfl) (tight_body (P := Try.prog) (fn := Try.f34)) (p_assign rfl rfl) ?_
          clear hs a; intro a hs
          refine d_done (by kernel_rfl) ?_ _
          clear hS
          exact J2 there8_3 (decide (t46 < (data2.n : Int))) _ _ (hs.to ⟨rfl, rfl, rfl, rfl, rfl, rfl, trivial⟩) h
      clear hK14
      refine wp_region_lit ?_
      refine t_pure hs rfl rfl (by decide) (p_move rfl rfl) ?_
      clear hs a; intro a hs
      refine t_pure hs rfl rfl (by decide) (p_not rfl rfl) ?_
      clear hs a; intro a hs
      refine t_pure hs rfl rfl (by decide) (p_move rfl rfl) ?_
      clear hs a; intro a hs
      refine split_bool (!t15ok) (fun hb => ?_) (fun hb => ?_)
      · replace h := h.1 hb
        rw [hb] at hs
        clear hb
        refine t_yes hs rfl ?_
        refine t_pure hs rfl rfl (by decide) (p_move rfl rfl) ?_
        clear hs a; intro a hs
        refine t_yes hs rfl ?_
        refine t_pure hs rfl rfl (by decide) (p_nil rfl rfl) ?_
        clear hs a; intro a hs
        refine t_yes hs rfl ?_
        refine t_pure hs rfl rfl (by decide) (p_fieldAddr rfl rfl ft_157_1) ?_
        clear hs a; intro a hs
        refine t_yes hs rfl ?_
        obtain ⟨t34, hv, h⟩ := h
        refine t_eff hs rfl rfl (by decide) (e_load rfl rfl ct_155 hv) ?_
        clear hs a hv; intro a hs
        refine t_yes hs rfl ?_
        obtain ⟨t35, hd, h⟩ := h
        refine t_eff hs rfl rfl (by decide) (e_len rfl rfl rfl hd) ?_
        clear hs a hd; intro a hs
        replace hs := hs.to (τ := [(0, (.pointer (some t11))), (1, (.string name1)), (2, (Sl.val data2)), (7, (.pointer t15v)), (8, (.bool t15ok)), (30, (.bool true)), (35, (.int .i64 t35))]) ⟨rfl, rfl, rfl, rfl, rfl, rfl, rfl, trivial⟩
        refine t_yes hs rfl ?_
        refine t_pure hs rfl rfl (by decide) (p_ge rfl rfl rfl) ?_
        clear hs a; intro a hs
        refine t_pure hs rfl rfl (by decide) (p_pick_t rfl rfl rfl) ?_
        clear hs a; intro a hs
        refine t_pure hs rfl rfl (by decide) (p_assign rfl rfl) ?_
        clear hs a; intro a hs
        exact J3 t15ok (decide ((32 : Int) ≤ t35)) _ _ (hs.to ⟨rfl, rfl, rfl, rfl, rfl, rfl, trivial⟩) h
      · replace h := h.2 hb
        rw [hb] at hs
        clear hb
        refine t_no hs rfl rfl (by decide) ?_
        clear hs a; intro a hs
        refine t_no hs rfl rfl (by decide) ?_
        clear hs a; intro a hs
        refine t_no hs rfl rfl (by decide) ?_
        clear hs a; intro a hs
        refine t_no hs rfl rfl (by decide) ?_
        clear hs a; intro a hs
        refine t_no hs rfl rfl (by decide) ?_
        clear hs a; intro a hs
        replace hs := hs.to (τ := [(0, (.pointer (some t11))), (1, (.string name1)), (2, (Sl.val data2)), (7, (.pointer t15v)), (8, (.bool t15ok)), (30, (.bool false)), (35, undef)]) ⟨rfl, rfl, rfl, rfl, rfl, rfl, rfl, trivial⟩
        refine t_no hs rfl rfl (by decide) ?_
        clear hs a; intro a hs
        refine t_pure hs rfl rfl (by decide) (p_pick_f rfl rfl rfl) ?_
        clear hs a; intro a hs
        refine t_pure hs rfl rfl (by decide) (p_assign rfl rfl) ?_
        clear hs a; intro a hs
        exact J3 t15ok false _ _ (hs.to ⟨rfl, rfl, rfl, rfl, rfl, rfl, trivial⟩) h
def disk_Disk_Sync.s2 (Q : Int → K)  (e6_2 : Int) : K :=
  Q e6_2
def disk_Disk_Sync.s1 (Q : Int → K)  (f5_1 : (Option Addr)) (e6_1 : Int) : K :=
  Ite (decide (e6_1 = 0))
    (Nn f5_1 fun t21 =>
    Ld t21 Sl.val fun t23 =>
    St (t21.add 1) (.int .i64 (t23.n : Int)) <|
    disk_Disk_Sync.s2 Q e6_1)
    (disk_Disk_Sync.s2 Q e6_1)
def disk_Disk_Sync (d0 : (Option Addr)) (name1 : ByteArray) (Q : Int → K) : K :=
  disk_Disk_find.call d0 name1 fun t10x0 t10x1 =>
  Ite (decide (t10x1 = 0))
    (disk_Disk_change.call d0 fun t16 =>
    disk_Disk_Sync.s1 Q t10x0 t16)
    (disk_Disk_Sync.s1 Q t10x0 t10x1)
theorem disk_Disk_Sync_ok (d0 : (Option Addr)) (name1 : ByteArray) (Q : Int → K) (w : World) (h : disk_Disk_Sync d0 name1 Q w) : disk_Disk_Sync.call d0 name1 Q w := by
  unfold disk_Disk_Sync.call CallF
  refine f_start (args := [(.pointer d0), (.string name1)]) Try.func35 rfl (Nat.le_of_ble_eq_true rfl) ?_
  intro a hs
  unfold disk_Disk_Sync at h
  refine wp_seq_k fun K1 hK1 => ?_
  refine wp_region_lit ?_
  refine t_pure hs rfl rfl (by decide) (p_assign rfl rfl) ?_
  clear hs a; intro a hs
  refine hK1 _ _ ?_
  refine wp_seq_k fun K2 hK2 => ?_
  refine wp_region_lit ?_
  refine t_pure hs rfl rfl (by decide) (p_move rfl rfl) ?_
  clear hs a; intro a hs
  refine t_pure hs rfl rfl (by decide) (p_move rfl rfl) ?_
  clear hs a; intro a hs
  refine t_call hs rfl rfl (by decide) (e_call rfl rfl rfl cb_73) h ?_
  clear hs a h
  intro v a w hk hs
  obtain ⟨t10x0, t10x1, rfl, h⟩ := hk
  refine t_pure hs rfl rfl (by decide) (p_move rfl rfl) ?_
  clear hs a; intro a hs
  refine t_pure hs rfl rfl (by decide) (p_extract rfl rfl rfl) ?_
  clear hs a; intro a hs
  refine t_pure hs rfl rfl (by decide) (p_extract rfl rfl rfl) ?_
  clear hs a; intro a hs
  refine t_pure hs rfl rfl (by decide) (p_assign rfl rfl) ?_
  clear hs a; intro a hs
  refine t_pure hs rfl rfl (by decide) (p_assign rfl rfl) ?_
  clear hs a; intro a hs
  refine hK2 _ _ ?_
  refine wp_seq_k fun K3 hK3 => ?_
  have J1 : ∀ (e6_1 : Int) (a : Act) (w : World), Slots a 28 [(5, (.pointer t10x0)), (6, (.int .i64 e6_1))] → disk_Disk_Sync.s1 Q t10x0 e6_1 w → K3 a w := by
    clear h hs
    intro e6_1 a w hs h
    refine hK3 _ _ ?_
    unfold disk_Disk_Sync.s1 at h
    refine wp_seq_k fun K4 hK4 => ?_
    have J2 : ∀ (a : Act) (w : World), Slots a 28 [(6, (.int .i64 e6_1))] → disk_Disk_Sync.s2 Q e6_1 w → K4 a w := by
      clear h hs
      intro a w hs h
      refine hK4 _ _ ?_
      unfold disk_Disk_Sync.s2 at h
      refine wp_seq_k fun K5 hK5 => ?_
      refine wp_region_lit ?_
      refine t_pure hs rfl rfl (by decide) (p_move rfl rfl) ?_
      clear hs a; intro a hs
      refine t_pure hs rfl rfl (by decide) (p_assign rfl rfl) ?_
      clear hs a; intro a hs
      refine hK5 _ _ ?_
      refine wp_ret ?_
      refine f_ret (fn := Try.f35) hs (fun a hs => r_one hs rfl (rfl)) ⟨e6_1, rfl, h⟩
    clear hK4
    refine wp_seq_k fun K6 hK6 => ?_
    refine wp_region_lit ?_
    refine t_pure hs rfl rfl (by decide) (p_move rfl rfl) ?_
    clear hs a; intro a hs
    refine t_pure hs rfl rfl (by decide) (p_eq rfl rfl rfl) ?_
    clear hs a; intro a hs
    refine hK6 _ _ ?_
    refine c_cond hs rfl (fun hb => ?_) (fun hb => ?_)
    · replace h := h.1 hb
      clear hb
      refine wp_region_lit ?_
      refine t_pure hs rfl rfl (by decide) (p_move rfl rfl) ?_
      clear hs a; intro a hs
      refine t_pure hs rfl rfl (by decide) (p_move rfl rfl) ?_
      clear hs a; intro a hs
      obtain ⟨t21, rfl, h⟩ := h
      refine t_pure hs rfl rfl (by decide) (p_nil rfl rfl) ?_
      clear hs a; intro a hs
      refine t_pure hs rfl rfl (by decide) (p_fieldAddr0 rfl rfl ft_165_0) ?_
      clear hs a; intro a hs
      obtain ⟨t23, hv, h⟩ := h
      refine t_eff hs rfl rfl (by decide) (e_load rfl rfl ct_22 hv) ?_
      clear hs a hv; intro a hs
      refine t_pure hs rfl rfl (by decide) (p_len rfl rfl sl_22) ?_
      clear hs a; intro a hs
      refine t_pure hs rfl rfl (by decide) (p_nil rfl rfl) ?_
      clear hs a; intro a hs
      refine t_pure hs rfl rfl (by decide) (p_fieldAddr rfl rfl ft_165_1) ?_
      clear hs a; intro a hs
      replace hs := hs.to (τ := [(6, (.int .i64 e6_1)), (24, (.int .i64 (t23.n : Int))), (26, (.pointer (some (t21.add 1))))]) ⟨rfl, rfl, rfl, trivial⟩
      obtain ⟨w1, hw, hc, hf, hv, h⟩ := h
      refine t_skip hs rfl rfl (e_store rfl rfl rfl sz_3 hw hc hf hv) ?_
      clear hs a hw hc hf hv; intro a hs
      exact J2 _ _ (hs.to ⟨rfl, trivial⟩) h
    · replace h := h.2 hb
      clear hb
      refine wp_skip ?_
      exact J2 _ _ (hs.to ⟨rfl, trivial⟩) h
  clear hK3
  refine wp_seq_k fun K7 hK7 => ?_
  refine wp_region_lit ?_
  refine t_pure hs rfl rfl (by decide) (p_move rfl rfl) ?_
  clear hs a; intro a hs
  refine t_pure hs rfl rfl (by decide) (p_eq rfl rfl rfl) ?_
  clear hs a; intro a hs
  refine hK7 _ _ ?_
  refine c_cond hs rfl (fun hb => ?_) (fun hb => ?_)
  · replace h := h.1 hb
    clear hb
    refine wp_region_lit ?_
    refine t_pure hs rfl rfl (by decide) (p_move rfl rfl) ?_
    clear hs a; intro a hs
    refine t_call hs rfl rfl (by decide) (e_call rfl rfl rfl cb_72) h ?_
    clear hs a h
    intro v a w hk hs
    obtain ⟨t16, rfl, h⟩ := hk
    refine t_pure hs rfl rfl (by decide) (p_assign rfl rfl) ?_
    clear hs a; intro a hs
    exact J1 t16 _ _ (hs.to ⟨rfl, rfl, trivial⟩) h
  · replace h := h.2 hb
    clear hb
    refine wp_skip ?_
    exact J1 t10x1 _ _ (hs.to ⟨rfl, rfl, trivial⟩) h
def disk_Disk_Read (d0 : (Option Addr)) (name1 : ByteArray) (Q : Sl → Int → K) : K :=
  disk_Disk_find.call d0 name1 fun t11x0 t11x1 =>
  Ite (decide (t11x1 ≠ 0))
    (Q (Sl.mk none 0 0) t11x1)
    (Nn t11x0 fun t18 =>
    Ld t18 Sl.val fun t20 =>
    slices_Clone_s_byte_byte.call t20 fun t21 =>
    Q t21 0)
theorem disk_Disk_Read_ok (d0 : (Option Addr)) (name1 : ByteArray) (Q : Sl → Int → K) (w : World) (h : disk_Disk_Read d0 name1 Q w) : disk_Disk_Read.call d0 name1 Q w := by
  unfold disk_Disk_Read.call CallF
  refine f_start (args := [(.pointer d0), (.string name1)]) Try.func36 rfl (Nat.le_of_ble_eq_true rfl) ?_
  intro a hs
  unfold disk_Disk_Read at h
  refine wp_seq_k fun K1 hK1 => ?_
  refine wp_region_lit ?_
  refine t_pure hs rfl rfl (by decide) (p_assign rfl rfl) ?_
  clear hs a; intro a hs
  refine t_pure hs rfl rfl (by decide) (p_assign rfl rfl) ?_
  clear hs a; intro a hs
  refine hK1 _ _ ?_
  refine wp_seq_k fun K2 hK2 => ?_
  refine wp_region_lit ?_
  refine t_pure hs rfl rfl (by decide) (p_move rfl rfl) ?_
  clear hs a; intro a hs
  refine t_pure hs rfl rfl (by decide) (p_move rfl rfl) ?_
  clear hs a; intro a hs
  refine t_call hs rfl rfl (by decide) (e_call rfl rfl rfl cb_73) h ?_
  clear hs a h
  intro v a w hk hs
  obtain ⟨t11x0, t11x1, rfl, h⟩ := hk
  refine t_pure hs rfl rfl (by decide) (p_move rfl rfl) ?_
  clear hs a; intro a hs
  refine t_pure hs rfl rfl (by decide) (p_extract rfl rfl rfl) ?_
  clear hs a; intro a hs
  refine t_pure hs rfl rfl (by decide) (p_extract rfl rfl rfl) ?_
  clear hs a; intro a hs
  refine t_pure hs rfl rfl (by decide) (p_assign rfl rfl) ?_
  clear hs a; intro a hs
  refine t_pure hs rfl rfl (by decide) (p_assign rfl rfl) ?_
  clear hs a; intro a hs
  refine hK2 _ _ ?_
  refine wp_seq_k fun K3 hK3 => ?_
  refine wp_seq_k fun K4 hK4 => ?_
  refine wp_region_lit ?_
  refine t_pure hs rfl rfl (by decide) (p_move rfl rfl) ?_
  clear hs a; intro a hs
  refine t_pure hs rfl rfl (by decide) (p_ne rfl rfl rfl) ?_
  clear hs a; intro a hs
  refine hK4 _ _ ?_
  refine c_cond hs rfl (fun hb => ?_) (fun hb => ?_)
  · replace h := h.1 hb
    clear hb
    refine wp_seq_k fun K5 hK5 => ?_
    refine wp_region_lit ?_
    refine t_pure hs rfl rfl (by decide) (p_move rfl rfl) ?_
    clear hs a; intro a hs
    refine t_pure hs rfl rfl (by decide) (p_assign rfl rfl) ?_
    clear hs a; intro a hs
    refine t_pure hs rfl rfl (by decide) (p_assign rfl rfl) ?_
    clear hs a; intro a hs
    refine hK5 _ _ ?_
    refine wp_ret ?_
    refine f_ret (fn := Try.f36) hs (fun a hs => r_many hs (rs := [ResultVar.tmp 4, ResultVar.tmp 5]) (vs := [(Sl.val (Sl.mk none 0 0)), (.int .i64 t11x1)]) rfl (by decide) ⟨rfl, rfl, trivial⟩) ⟨(Sl.mk none 0 0), t11x1, rfl, h⟩
  · replace h := h.2 hb
    clear hb
    refine wp_skip ?_
    refine hK3 _ _ ?_
    refine wp_seq_k fun K6 hK6 => ?_
    refine wp_region_lit ?_
    refine t_pure hs rfl rfl (by decide) (p_move rfl rfl) ?_
    clear hs a; intro a hs
    obtain ⟨t18, rfl, h⟩ := h
    refine t_pure hs rfl rfl (by decide) (p_nil rfl rfl) ?_
    clear hs a; intro a hs
    refine t_pure hs rfl rfl (by decide) (p_fieldAddr0 rfl rfl ft_165_0) ?_
    clear hs a; intro a hs
    obtain ⟨t20, hv, h⟩ := h
    refine t_eff hs rfl rfl (by decide) (e_load rfl rfl ct_22 hv) ?_
    clear hs a hv; intro a hs
    refine t_call hs rfl rfl (by decide) (e_call rfl rfl rfl cb_67) h ?_
    clear hs a h
    intro v a w hk hs
    obtain ⟨t21, rfl, h⟩ := hk
    refine t_pure hs rfl rfl (by decide) (p_assign rfl rfl) ?_
    clear hs a; intro a hs
    refine t_pure hs rfl rfl (by decide) (p_assign rfl rfl) ?_
    clear hs a; intro a hs
    refine hK6 _ _ ?_
    refine wp_ret ?_
    refine f_ret (fn := Try.f36) hs (fun a hs => r_many hs (rs := [ResultVar.tmp 4, ResultVar.tmp 5]) (vs := [(Sl.val t21), (.int .i64 0)]) rfl (by decide) ⟨rfl, rfl, trivial⟩) ⟨t21, 0, rfl, h⟩
def disk_Disk_Names (d0 : (Option Addr)) (Q : Sl → K) : K :=
  Nn d0 fun t4 =>
  Ld (t4.add 1) Value.map fun t6 =>
  maps_Keys_map_string_disk_file_string_disk_file.call t6 fun t7 =>
  slices_Sorted_string.call t7 fun t8 =>
  Q t8
theorem disk_Disk_Names_ok (d0 : (Option Addr)) (Q : Sl → K) (w : World) (h : disk_Disk_Names d0 Q w) : disk_Disk_Names.call d0 Q w := by
  unfold disk_Disk_Names.call CallF
  refine f_start (args := [(.pointer d0)]) Try.func69 rfl (Nat.le_of_ble_eq_true rfl) ?_
  intro a hs
  unfold disk_Disk_Names at h
  refine wp_seq_k fun K1 hK1 => ?_
  refine wp_region_lit ?_
  refine t_pure hs rfl rfl (by decide) (p_assign rfl rfl) ?_
  clear hs a; intro a hs
  refine hK1 _ _ ?_
  refine wp_seq_k fun K2 hK2 => ?_
  refine wp_region_lit ?_
  refine t_pure hs rfl rfl (by decide) (p_move rfl rfl) ?_
  clear hs a; intro a hs
  obtain ⟨t4, rfl, h⟩ := h
  refine t_pure hs rfl rfl (by decide) (p_nil rfl rfl) ?_
  clear hs a; intro a hs
  refine t_pure hs rfl rfl (by decide) (p_fieldAddr rfl rfl ft_157_1) ?_
  clear hs a; intro a hs
  obtain ⟨t6, hv, h⟩ := h
  refine t_eff hs rfl rfl (by decide) (e_load rfl rfl ct_155 hv) ?_
  clear hs a hv; intro a hs
  refine t_call hs rfl rfl (by decide) (e_call rfl rfl rfl cb_100) h ?_
  clear hs a h
  intro v a w hk hs
  obtain ⟨t7, rfl, h⟩ := hk
  refine t_call hs rfl rfl (by decide) (e_call rfl rfl rfl cb_62) h ?_
  clear hs a h
  intro v a w hk hs
  obtain ⟨t8, rfl, h⟩ := hk
  refine t_pure hs rfl rfl (by decide) (p_assign rfl rfl) ?_
  clear hs a; intro a hs
  refine hK2 _ _ ?_
  refine wp_ret ?_
  refine f_ret (fn := Try.f69) hs (fun a hs => r_one hs rfl (rfl)) ⟨t8, rfl, h⟩
def disk_named.s1 (Q : Bool → K)  (t2_1 : Bool) : K :=
  Q t2_1
def disk_named (name0 : ByteArray) (Q : Bool → K) : K :=
  Ite (!(name0.toList == (⟨#[]⟩ : ByteArray).toList))
    (disk_named.s1 Q (decide ((name0.size : Int) ≤ 16)))
    (disk_named.s1 Q false)
theorem disk_named_ok (name0 : ByteArray) (Q : Bool → K) (w : World) (h : disk_named name0 Q w) : disk_named.call name0 Q w := by
  unfold disk_named.call CallF
  refine f_start (args := [(.string name0)]) Try.func70 rfl (Nat.le_of_ble_eq_true rfl) ?_
  intro a hs
  unfold disk_named at h
  refine wp_seq_k fun K1 hK1 => ?_
  refine wp_region_lit ?_
  refine t_pure hs rfl rfl (by decide) (p_assign rfl rfl) ?_
  clear hs a; intro a hs
  refine hK1 _ _ ?_
  refine wp_seq_k fun K2 hK2 => ?_
  have J1 : ∀ (t2_1 : Bool) (a : Act) (w : World), Slots a 10 [(2, (.bool t2_1))] → disk_named.s1 Q t2_1 w → K2 a w := by
    clear h hs
    intro t2_1 a w hs h
    refine hK2 _ _ ?_
    unfold disk_named.s1 at h
    refine wp_ret ?_
    refine f_ret (fn := Try.f70) hs (fun a hs => r_one hs rfl (rfl)) ⟨t2_1, rfl, h⟩
  clear hK2
  refine wp_region_lit ?_
  refine t_pure hs rfl rfl (by decide) (p_move rfl rfl) ?_
  clear hs a; intro a hs
  refine t_pure hs rfl rfl (by decide) (p_nes rfl rfl rfl) ?_
  clear hs a; intro a hs
  refine t_pure hs rfl rfl (by decide) (p_move rfl rfl) ?_
  clear hs a; intro a hs
  refine split_bool (!(name0.toList == (⟨#[]⟩ : ByteArray).toList)) (fun hb => ?_) (fun hb => ?_)
  · replace h := h.1 hb
    rw [hb] at hs
    clear hb
    refine t_yes hs rfl ?_
    refine t_pure hs rfl rfl (by decide) (p_move rfl rfl) ?_
    clear hs a; intro a hs
    refine t_yes hs rfl ?_
    refine t_pure hs rfl rfl (by decide) (p_lens rfl rfl st_9) ?_
    clear hs a; intro a hs
    refine t_yes hs rfl ?_
    refine t_pure hs rfl rfl (by decide) (p_le rfl rfl rfl) ?_
    clear hs a; intro a hs
    refine t_pure hs rfl rfl (by decide) (p_pick_t rfl rfl rfl) ?_
    clear hs a; intro a hs
    refine t_pure hs rfl rfl (by decide) (p_assign rfl rfl) ?_
    clear hs a; intro a hs
    exact J1 (decide ((name0.size : Int) ≤ 16)) _ _ (hs.to ⟨rfl, trivial⟩) h
  · replace h := h.2 hb
    rw [hb] at hs
    clear hb
    refine t_no hs rfl rfl (by decide) ?_
    clear hs a; intro a hs
    refine t_no hs rfl rfl (by decide) ?_
    clear hs a; intro a hs
    refine t_no hs rfl rfl (by decide) ?_
    clear hs a; intro a hs
    refine t_pure hs rfl rfl (by decide) (p_pick_f rfl rfl rfl) ?_
    clear hs a; intro a hs
    refine t_pure hs rfl rfl (by decide) (p_assign rfl rfl) ?_
    clear hs a; intro a hs
    exact J1 false _ _ (hs.to ⟨rfl, trivial⟩) h
def disk_Disk_Used.b1 (Q : Int → K)  (X1 : Int → K) (t9_1 : (Option Addr)) (n2_1 : Int) : K :=
  Do Try.prog (Instr.next (.pointer t9_1) false 0) id fun t10 =>
  Ext t10 0 Value.bool fun t11 =>
  Ite t11
    (Do Try.prog (Instr.entry (.pointer t9_1)) id fun t12 =>
    Ext t12 1 Value.pointer fun t13 =>
    Nn t13 fun t16 =>
    Ld t16 Sl.val fun t18 =>
    Ar (IntKind.wrap .i64 (n2_1 + (t18.n : Int))) fun t20 =>
    X1 t20)
    (Q n2_1)
def disk_Disk_Used (d0 : (Option Addr)) (Q : Int → K) : K :=
  Nn d0 fun t6 =>
  Ld (t6.add 1) Value.map fun t8 =>
  Do Try.prog (Instr.range 155 (.map t8)) Value.pointer fun t9 =>
  LoopK (α := Int) (fun X x => disk_Disk_Used.b1 Q X t9 x) 0
theorem disk_Disk_Used_ok (d0 : (Option Addr)) (Q : Int → K) (w : World) (h : disk_Disk_Used d0 Q w) : disk_Disk_Used.call d0 Q w := by
  unfold disk_Disk_Used.call CallF
  refine f_start (args := [(.pointer d0)]) Try.func71 rfl (Nat.le_of_ble_eq_true rfl) ?_
  intro a hs
  unfold disk_Disk_Used at h
  refine wp_seq_k fun K1 hK1 => ?_
  refine wp_region_lit ?_
  refine t_pure hs rfl rfl (by decide) (p_assign rfl rfl) ?_
  clear hs a; intro a hs
  refine hK1 _ _ ?_
  refine wp_seq_k fun K2 hK2 => ?_
  refine wp_seq_k fun K3 hK3 => ?_
  refine wp_region_lit ?_
  refine t_pure hs rfl rfl (by decide) (p_move rfl rfl) ?_
  clear hs a; intro a hs
  obtain ⟨t6, rfl, h⟩ := h
  refine t_pure hs rfl rfl (by decide) (p_nil rfl rfl) ?_
  clear hs a; intro a hs
  refine t_pure hs rfl rfl (by decide) (p_fieldAddr rfl rfl ft_157_1) ?_
  clear hs a; intro a hs
  obtain ⟨t8, hv, h⟩ := h
  refine t_eff hs rfl rfl (by decide) (e_load rfl rfl ct_155 hv) ?_
  clear hs a hv; intro a hs
  obtain ⟨t9, w1, hd, h⟩ := h
  refine t_eff hs rfl rfl (by decide) (e_range rfl rfl hd) ?_
  clear hs a hd; intro a hs
  refine hK3 _ _ ?_
  refine wp_block ?_
  obtain ⟨I1, μ1, h0, hr⟩ := h
  refine c_loop (α := Int) I1 μ1 (fun x a => Slots a 22 [(2, (.int .i64 x)), (9, (.pointer t9))]) 0 h0 (hs.to ⟨rfl, rfl, trivial⟩) ?_
  clear h0 hs a
  intro n2_1 a w hI hs
  have h : disk_Disk_Used.b1 Q (fun n2_1n w' => I1 n2_1n w' ∧ μ1 n2_1n w' < μ1 n2_1 w) t9 n2_1 w := hr n2_1 w hI
  clear hr hI
  generalize hX1 : (fun n2_1n w' => I1 n2_1n w' ∧ μ1 n2_1n w' < μ1 n2_1 w) = X1 at h
  unfold disk_Disk_Used.b1 at h
  replace hs : Slots a 22 [(2, (.int .i64 n2_1)), (9, (.pointer t9))] := hs
  refine wp_seq_k fun K4 hK4 => ?_
  refine wp_region_lit ?_
  obtain ⟨t10, w1, hd, h⟩ := h
  refine t_eff hs rfl rfl (by decide) (e_next rfl rfl rfl hd) ?_
  clear hs a hd; intro a hs
  obtain ⟨vs, t11, ht, hv, h⟩ := h
  refine t_pure hs rfl rfl (by decide) (p_extract rfl (congrArg some ht) hv) ?_
  clear hs a ht hv; intro a hs
  refine hK4 _ _ ?_
  refine wp_seq_k fun K5 hK5 => ?_
  refine c_cond hs rfl (fun hb => ?_) (fun hb => ?_)
  · replace h := h.1 hb
    clear hb
    refine wp_skip ?_
    refine hK5 _ _ ?_
    refine wp_block ?_
    refine wp_seq_k fun K6 hK6 => ?_
    refine wp_region_lit ?_
    obtain ⟨t12, w1, hd, h⟩ := h
    refine t_eff hs rfl rfl (by decide) (e_entry rfl rfl hd) ?_
    clear hs a hd; intro a hs
    obtain ⟨vs, t13, ht, hv, h⟩ := h
    refine t_pure hs rfl rfl (by decide) (p_extract rfl (congrArg some ht) hv) ?_
    clear hs a ht hv; intro a hs
    refine t_pure hs rfl rfl (by decide) (p_assign rfl rfl) ?_
    clear hs a; intro a hs
    refine hK6 _ _ ?_
    refine wp_region_lit ?_
    refine t_pure hs rfl rfl (by decide) (p_move rfl rfl) ?_
    clear hs a; intro a hs
    refine t_pure hs rfl rfl (by decide) (p_move rfl rfl) ?_
    clear hs a; intro a hs
    obtain ⟨t16, rfl, h⟩ := h
    refine t_pure hs rfl rfl (by decide) (p_nil rfl rfl) ?_
    clear hs a; intro a hs
    refine t_pure hs rfl rfl (by decide) (p_fieldAddr0 rfl rfl ft_165_0) ?_
    clear hs a; intro a hs
    obtain ⟨t18, hv, h⟩ := h
    refine t_eff hs rfl rfl (by decide) (e_load rfl rfl ct_22 hv) ?_
    clear hs a hv; intro a hs
    refine t_pure hs rfl rfl (by decide) (p_len rfl rfl sl_22) ?_
    clear hs a; intro a hs
    obtain ⟨t20, he, h⟩ := h
    refine t_pure hs rfl rfl (by decide) (Pure.int he (p_add rfl rfl rfl)) ?_
    clear hs a he; intro a hs
    refine t_pure hs rfl rfl (by decide) (p_assign rfl rfl) ?_
    clear hs a; intro a hs
    rw [← hX1] at h
    exact ⟨t20, hs.to ⟨rfl, rfl, trivial⟩, h⟩
  · replace h := h.2 hb
    clear hb
    refine wp_exit ?_
    refine hK2 _ _ ?_
    refine wp_seq_k fun K7 hK7 => ?_
    refine wp_region_lit ?_
    refine t_pure hs rfl rfl (by decide) (p_move rfl rfl) ?_
    clear hs a; intro a hs
    refine t_pure hs rfl rfl (by decide) (p_assign rfl rfl) ?_
    clear hs a; intro a hs
    refine hK7 _ _ ?_
    refine wp_ret ?_
    refine f_ret (fn := Try.f71) hs (fun a hs => r_one hs rfl (rfl)) ⟨n2_1, rfl, h⟩
def disk_Disk_change.s1 (Q : Int → K)   : K :=
  Q 0
def disk_Disk_change (d0 : (Option Addr)) (Q : Int → K) : K :=
  Nn d0 fun t4 =>
  Ld (t4.add 2) (Value.int .i64) fun t6 =>
  Ite (decide (t6 = 0))
    (St (t4.add 3) (.bool true) <|
    Q 3)
    (Ld (t4.add 2) (Value.int .i64) fun t14 =>
    Ite (decide ((0 : Int) < t14))
      (Ld (t4.add 2) (Value.int .i64) fun t19 =>
      Ar (IntKind.wrap .i64 (t19 - 1)) fun t20 =>
      St (t4.add 2) (.int .i64 t20) <|
      disk_Disk_change.s1 Q)
      (disk_Disk_change.s1 Q))
theorem disk_Disk_change_ok (d0 : (Option Addr)) (Q : Int → K) (w : World) (h : disk_Disk_change d0 Q w) : disk_Disk_change.call d0 Q w := by
  unfold disk_Disk_change.call CallF
  refine f_start (args := [(.pointer d0)]) Try.func72 rfl (Nat.le_of_ble_eq_true rfl) ?_
  intro a hs
  unfold disk_Disk_change at h
  refine wp_seq_k fun K1 hK1 => ?_
  refine wp_region_lit ?_
  refine t_pure hs rfl rfl (by decide) (p_assign rfl rfl) ?_
  clear hs a; intro a hs
  refine hK1 _ _ ?_
  refine wp_seq_k fun K2 hK2 => ?_
  refine wp_seq_k fun K3 hK3 => ?_
  refine wp_region_lit ?_
  refine t_pure hs rfl rfl (by decide) (p_move rfl rfl) ?_
  clear hs a; intro a hs
  obtain ⟨t4, rfl, h⟩ := h
  refine t_pure hs rfl rfl (by decide) (p_nil rfl rfl) ?_
  clear hs a; intro a hs
  refine t_pure hs rfl rfl (by decide) (p_fieldAddr rfl rfl ft_157_2) ?_
  clear hs a; intro a hs
  obtain ⟨t6, hv, h⟩ := h
  refine t_eff hs rfl rfl (by decide) (e_load rfl rfl ct_3 hv) ?_
  clear hs a hv; intro a hs
  refine t_pure hs rfl rfl (by decide) (p_eq rfl rfl rfl) ?_
  clear hs a; intro a hs
  refine hK3 _ _ ?_
  refine c_cond hs rfl (fun hb => ?_) (fun hb => ?_)
  · replace h := h.1 hb
    clear hb
    refine wp_seq_k fun K4 hK4 => ?_
    refine wp_region_lit ?_
    refine t_pure hs rfl rfl (by decide) (p_move rfl rfl) ?_
    clear hs a; intro a hs
    refine t_pure hs rfl rfl (by decide) (p_nil rfl rfl) ?_
    clear hs a; intro a hs
    refine t_pure hs rfl rfl (by decide) (p_fieldAddr rfl rfl ft_157_3) ?_
    clear hs a; intro a hs
    obtain ⟨w1, hw, hc, hf, hv, h⟩ := h
    refine t_skip hs rfl rfl (e_store rfl rfl rfl sz_4 hw hc hf hv) ?_
    clear hs a hw hc hf hv; intro a hs
    refine hK4 _ _ ?_
    refine wp_seq_k fun K5 hK5 => ?_
    refine wp_region_lit ?_
    refine t_pure hs rfl rfl (by decide) (p_assign rfl rfl) ?_
    clear hs a; intro a hs
    refine hK5 _ _ ?_
    refine wp_ret ?_
    refine f_ret (fn := Try.f72) hs (fun a hs => r_one hs rfl (rfl)) ⟨3, rfl, h⟩
  · replace h := h.2 hb
    clear hb
    refine wp_skip ?_
    refine hK2 _ _ ?_
    refine wp_seq_k fun K6 hK6 => ?_
    have J1 : ∀ (a : Act) (w : World), Slots a 23 [] → disk_Disk_change.s1 Q w → K6 a w := by
      clear h hs
      intro a w hs h
      refine hK6 _ _ ?_
      unfold disk_Disk_change.s1 at h
      refine wp_seq_k fun K7 hK7 => ?_
      refine wp_region_lit ?_
      refine t_pure hs rfl rfl (by decide) (p_assign rfl rfl) ?_
      clear hs a; intro a hs
      refine hK7 _ _ ?_
      refine wp_ret ?_
      refine f_ret (fn := Try.f72) hs (fun a hs => r_one hs rfl (rfl)) ⟨0, rfl, h⟩
    clear hK6
    refine wp_seq_k fun K8 hK8 => ?_
    refine wp_region_lit ?_
    refine t_pure hs rfl rfl (by decide) (p_move rfl rfl) ?_
    clear hs a; intro a hs
    refine t_pure hs rfl rfl (by decide) (p_nil rfl rfl) ?_
    clear hs a; intro a hs
    refine t_pure hs rfl rfl (by decide) (p_fieldAddr rfl rfl ft_157_2) ?_
    clear hs a; intro a hs
    obtain ⟨t14, hv, h⟩ := h
    refine t_eff hs rfl rfl (by decide) (e_load rfl rfl ct_3 hv) ?_
    clear hs a hv; intro a hs
    refine t_pure hs rfl rfl (by decide) (p_gt rfl rfl rfl) ?_
    clear hs a; intro a hs
    refine hK8 _ _ ?_
    refine c_cond hs rfl (fun hb => ?_) (fun hb => ?_)
    · replace h := h.1 hb
      clear hb
      refine wp_region_lit ?_
      refine t_pure hs rfl rfl (by decide) (p_move rfl rfl) ?_
      clear hs a; intro a hs
      refine t_pure hs rfl rfl (by decide) (p_nil rfl rfl) ?_
      clear hs a; intro a hs
      refine t_pure hs rfl rfl (by decide) (p_fieldAddr rfl rfl ft_157_2) ?_
      clear hs a; intro a hs
      obtain ⟨t19, hv, h⟩ := h
      refine t_eff hs rfl rfl (by decide) (e_load rfl rfl ct_3 hv) ?_
      clear hs a hv; intro a hs
      obtain ⟨t20, he, h⟩ := h
      refine t_pure hs rfl rfl (by decide) (Pure.int he (p_sub rfl rfl rfl)) ?_
      clear hs a he; intro a hs
      refine t_pure hs rfl rfl (by decide) (p_nil rfl rfl) ?_
      clear hs a; intro a hs
      refine t_pure hs rfl rfl (by decide) (p_fieldAddr rfl rfl ft_157_2) ?_
      clear hs a; intro a hs
      obtain ⟨w1, hw, hc, hf, hv, h⟩ := h
      refine t_skip hs rfl rfl (e_store rfl rfl rfl sz_3 hw hc hf hv) ?_
      clear hs a hw hc hf hv; intro a hs
      exact J1 _ _ (hs.to trivial) h
    · replace h := h.2 hb
      clear hb
      refine wp_skip ?_
      exact J1 _ _ (hs.to trivial) h
def disk_Disk_find (d0 : (Option Addr)) (name1 : ByteArray) (Q : (Option Addr) → Int → K) : K :=
  Nn d0 fun t10 =>
  Ld (t10.add 1) Value.map fun t12 =>
  Rd2 Try.prog (Instr.lookup 155 (.map t12) (.string name1) true) (fun x y => .tuple #[Value.pointer x, .bool y]) fun t14v t14ok =>
  Ld (t10.add 3) Value.bool fun t21 =>
  Ite t21
    (Q none 3)
    (Ite (!t14ok)
      (Q none 60)
      (Q t14v 0))
theorem disk_Disk_find_ok (d0 : (Option Addr)) (name1 : ByteArray) (Q : (Option Addr) → Int → K) (w : World) (h : disk_Disk_find d0 name1 Q w) : disk_Disk_find.call d0 name1 Q w := by
  unfold disk_Disk_find.call CallF
  refine f_start (args := [(.pointer d0), (.string name1)]) Try.func73 rfl (Nat.le_of_ble_eq_true rfl) ?_
  intro a hs
  unfold disk_Disk_find at h
  refine wp_seq_k fun K1 hK1 => ?_
  refine wp_region_lit ?_
  refine t_pure hs rfl rfl (by decide) (p_assign rfl rfl) ?_
  clear hs a; intro a hs
  refine t_pure hs rfl rfl (by decide) (p_assign rfl rfl) ?_
  clear hs a; intro a hs
  refine hK1 _ _ ?_
  refine wp_seq_k fun K2 hK2 => ?_
  refine wp_region_lit ?_
  refine t_pure hs rfl rfl (by decide) (p_move rfl rfl) ?_
  clear hs a; intro a hs
  obtain ⟨t10, rfl, h⟩ := h
  refine t_pure hs rfl rfl (by decide) (p_nil rfl rfl) ?_
  clear hs a; intro a hs
  refine t_pure hs rfl rfl (by decide) (p_fieldAddr rfl rfl ft_157_1) ?_
  clear hs a; intro a hs
  obtain ⟨t12, hv, h⟩ := h
  refine t_eff hs rfl rfl (by decide) (e_load rfl rfl ct_155 hv) ?_
  clear hs a hv; intro a hs
  refine t_pure hs rfl rfl (by decide) (p_move rfl rfl) ?_
  clear hs a; intro a hs
  obtain ⟨t14v, t14ok, hd, h⟩ := h
  refine t_eff hs rfl rfl (by decide) (e_lookup rfl rfl rfl hd) ?_
  clear hs a hd; intro a hs
  refine t_pure hs rfl rfl (by decide) (p_move rfl rfl) ?_
  clear hs a; intro a hs
  refine t_pure hs rfl rfl (by decide) (p_extract rfl rfl rfl) ?_
  clear hs a; intro a hs
  replace hs := hs.to (τ := [(0, (.pointer (some t10))), (8, (.tuple #[(.pointer t14v), (.bool t14ok)])), (15, (.pointer t14v))]) ⟨rfl, rfl, rfl, trivial⟩
  refine t_pure hs rfl rfl (by decide) (p_extract rfl rfl rfl) ?_
  clear hs a; intro a hs
  refine t_pure hs rfl rfl (by decide) (p_assign rfl rfl) ?_
  clear hs a; intro a hs
  refine t_pure hs rfl rfl (by decide) (p_assign rfl rfl) ?_
  clear hs a; intro a hs
  refine hK2 _ _ ?_
  refine wp_seq_k fun K3 hK3 => ?_
  refine wp_block ?_
  refine wp_seq_k fun K4 hK4 => ?_
  refine wp_region_lit ?_
  refine t_pure hs rfl rfl (by decide) (p_move rfl rfl) ?_
  clear hs a; intro a hs
  refine t_pure hs rfl rfl (by decide) (p_nil rfl rfl) ?_
  clear hs a; intro a hs
  refine t_pure hs rfl rfl (by decide) (p_fieldAddr rfl rfl ft_157_3) ?_
  clear hs a; intro a hs
  obtain ⟨t21, hv, h⟩ := h
  refine t_eff hs rfl rfl (by decide) (e_load rfl rfl ct_4 hv) ?_
  clear hs a hv; intro a hs
  refine t_pure hs rfl rfl (by decide) (p_assign rfl rfl) ?_
  clear hs a; intro a hs
  refine hK4 _ _ ?_
  refine c_cond hs rfl (fun hb => ?_) (fun hb => ?_)
  · replace h := h.1 hb
    clear hb
    refine wp_seq_k fun K5 hK5 => ?_
    refine wp_region_lit ?_
    refine t_pure hs rfl rfl (by decide) (p_assign rfl rfl) ?_
    clear hs a; intro a hs
    refine t_pure hs rfl rfl (by decide) (p_assign rfl rfl) ?_
    clear hs a; intro a hs
    refine hK5 _ _ ?_
    refine wp_ret ?_
    refine f_ret (fn := Try.f73) hs (fun a hs => r_many hs (rs := [ResultVar.tmp 4, ResultVar.tmp 5]) (vs := [(.pointer none), (.int .i64 3)]) rfl (by decide) ⟨rfl, rfl, trivial⟩) ⟨none, 3, rfl, h⟩
  · replace h := h.2 hb
    clear hb
    refine wp_seq_k fun K6 hK6 => ?_
    refine wp_region_lit ?_
    refine t_pure hs rfl rfl (by decide) (p_move rfl rfl) ?_
    clear hs a; intro a hs
    refine t_pure hs rfl rfl (by decide) (p_not rfl rfl) ?_
    clear hs a; intro a hs
    refine t_pure hs rfl rfl (by decide) (p_assign rfl rfl) ?_
    clear hs a; intro a hs
    refine hK6 _ _ ?_
    refine c_cond hs rfl (fun hb => ?_) (fun hb => ?_)
    · replace h := h.1 hb
      clear hb
      refine wp_seq_k fun K7 hK7 => ?_
      refine wp_region_lit ?_
      refine t_pure hs rfl rfl (by decide) (p_assign rfl rfl) ?_
      clear hs a; intro a hs
      refine t_pure hs rfl rfl (by decide) (p_assign rfl rfl) ?_
      clear hs a; intro a hs
      refine hK7 _ _ ?_
      refine wp_ret ?_
      refine f_ret (fn := Try.f73) hs (fun a hs => r_many hs (rs := [ResultVar.tmp 4, ResultVar.tmp 5]) (vs := [(.pointer none), (.int .i64 60)]) rfl (by decide) ⟨rfl, rfl, trivial⟩) ⟨none, 60, rfl, h⟩
    · replace h := h.2 hb
      clear hb
      refine wp_skip ?_
      refine hK3 _ _ ?_
      refine wp_seq_k fun K8 hK8 => ?_
      refine wp_region_lit ?_
      refine t_pure hs rfl rfl (by decide) (p_move rfl rfl) ?_
      clear hs a; intro a hs
      refine t_pure hs rfl rfl (by decide) (p_assign rfl rfl) ?_
      clear hs a; intro a hs
      refine t_pure hs rfl rfl (by decide) (p_assign rfl rfl) ?_
      clear hs a; intro a hs
      refine hK8 _ _ ?_
      refine wp_ret ?_
      refine f_ret (fn := Try.f73) hs (fun a hs => r_many hs (rs := [ResultVar.tmp 4, ResultVar.tmp 5]) (vs := [(.pointer t14v), (.int .i64 0)]) rfl (by decide) ⟨rfl, rfl, trivial⟩) ⟨t14v, 0, rfl, h⟩
def disk_Disk_Cut.s3 (Q : Int → K)  (e8_3 : Int) : K :=
  Q e8_3
def disk_Disk_Cut.s2 (Q : Int → K)  (n2_2 : Int) (f7_2 : (Option Addr)) (e8_2 : Int) : K :=
  Ite (decide (e8_2 = 0))
    (Dr <|
    Nn f7_2 fun t39 =>
    Ld t39 Sl.val fun t41 =>
    Slc t41 0 n2_2 n2_2 1 fun t44 =>
    Ld (t39.add 1) (Value.int .i64) fun t48 =>
    Ar (if (n2_2 : Int) < t48 then n2_2 else t48) fun t50 =>
    St t39 (Sl.val t44) <|
    St (t39.add 1) (.int .i64 t50) <|
    disk_Disk_Cut.s3 Q e8_2)
    (disk_Disk_Cut.s3 Q e8_2)
def disk_Disk_Cut.s1 (Q : Int → K)  (d0_1 : (Option Addr)) (n2_1 : Int) (f7_1 : (Option Addr)) (e8_1 : Int) : K :=
  Ite (decide (e8_1 = 0))
    (disk_Disk_change.call d0_1 fun t33 =>
    disk_Disk_Cut.s2 Q n2_1 f7_1 t33)
    (disk_Disk_Cut.s2 Q n2_1 f7_1 e8_1)
def disk_Disk_Cut.s4 (Q : Int → K)  (d0_4 : (Option Addr)) (n2_4 : Int) (f7_4 : (Option Addr)) (e8_4 : Int) (t29_4 : Bool) : K :=
  Ite t29_4
    (disk_Disk_Cut.s1 Q d0_4 n2_4 f7_4 1)
    (disk_Disk_Cut.s1 Q d0_4 n2_4 f7_4 e8_4)
def disk_Disk_Cut (d0 : (Option Addr)) (name1 : ByteArray) (n2 : Int) (Q : Int → K) : K :=
  disk_Disk_find.call d0 name1 fun t12x0 t12x1 =>
  Ite (decide (t12x1 = 0))
    (Ite (decide (n2 < 0))
      (disk_Disk_Cut.s4 Q d0 n2 t12x0 t12x1 true)
      (Nn t12x0 fun t23 =>
      Ld t23 Sl.val fun t25 =>
      disk_Disk_Cut.s4 Q d0 n2 (some t23) t12x1 (decide ((t25.n : Int) < n2))))
    (disk_Disk_Cut.s4 Q d0 n2 t12x0 t12x1 false)
theorem disk_Disk_Cut_ok (d0 : (Option Addr)) (name1 : ByteArray) (n2 : Int) (Q : Int → K) (w : World) (h : disk_Disk_Cut d0 name1 n2 Q w) : disk_Disk_Cut.call d0 name1 n2 Q w := by
  unfold disk_Disk_Cut.call CallF
  refine f_start (args := [(.pointer d0), (.string name1), (.int .i64 n2)]) Try.func97 rfl (Nat.le_of_ble_eq_true rfl) ?_
  intro a hs
  unfold disk_Disk_Cut at h
  refine wp_seq_k fun K1 hK1 => ?_
  refine wp_region_lit ?_
  refine t_pure hs rfl rfl (by decide) (p_assign rfl rfl) ?_
  clear hs a; intro a hs
  refine hK1 _ _ ?_
  refine wp_seq_k fun K2 hK2 => ?_
  refine wp_region_lit ?_
  refine t_pure hs rfl rfl (by decide) (p_move rfl rfl) ?_
  clear hs a; intro a hs
  refine t_pure hs rfl rfl (by decide) (p_move rfl rfl) ?_
  clear hs a; intro a hs
  refine t_call hs rfl rfl (by decide) (e_call rfl rfl rfl cb_73) h ?_
  clear hs a h
  intro v a w hk hs
  obtain ⟨t12x0, t12x1, rfl, h⟩ := hk
  refine t_pure hs rfl rfl (by decide) (p_move rfl rfl) ?_
  clear hs a; intro a hs
  refine t_pure hs rfl rfl (by decide) (p_extract rfl rfl rfl) ?_
  clear hs a; intro a hs
  refine t_pure hs rfl rfl (by decide) (p_extract rfl rfl rfl) ?_
  clear hs a; intro a hs
  refine t_pure hs rfl rfl (by decide) (p_assign rfl rfl) ?_
  clear hs a; intro a hs
  refine t_pure hs rfl rfl (by decide) (p_assign rfl rfl) ?_
  clear hs a; intro a hs
  refine hK2 _ _ ?_
  refine wp_seq_k fun K3 hK3 => ?_
  have J1 : ∀ (e8_1 : Int) (a : Act) (w : World), Slots a 56 [(0, (.pointer d0)), (2, (.int .i64 n2)), (7, (.pointer t12x0)), (8, (.int .i64 e8_1))] → disk_Disk_Cut.s1 Q d0 n2 t12x0 e8_1 w → K3 a w := by
    clear h hs
    intro e8_1 a w hs h
    refine hK3 _ _ ?_
    unfold disk_Disk_Cut.s1 at h
    refine wp_seq_k fun K4 hK4 => ?_
    have J2 : ∀ (e8_2 : Int) (a : Act) (w : World), Slots a 56 [(2, (.int .i64 n2)), (7, (.pointer t12x0)), (8, (.int .i64 e8_2))] → disk_Disk_Cut.s2 Q n2 t12x0 e8_2 w → K4 a w := by
      clear h hs
      intro e8_2 a w hs h
      refine hK4 _ _ ?_
      unfold disk_Disk_Cut.s2 at h
      refine wp_seq_k fun K5 hK5 => ?_
      have J3 : ∀ (a : Act) (w : World), Slots a 56 [(8, (.int .i64 e8_2))] → disk_Disk_Cut.s3 Q e8_2 w → K5 a w := by
        clear h hs
        intro a w hs h
        refine hK5 _ _ ?_
        unfold disk_Disk_Cut.s3 at h
        refine wp_seq_k fun K6 hK6 => ?_
        refine wp_region_lit ?_
        refine t_pure hs rfl rfl (by decide) (p_move rfl rfl) ?_
        clear hs a; intro a hs
        refine t_pure hs rfl rfl (by decide) (p_assign rfl rfl) ?_
        clear hs a; intro a hs
        refine hK6 _ _ ?_
        refine wp_ret ?_
        refine f_ret (fn := Try.f97) hs (fun a hs => r_one hs rfl (rfl)) ⟨e8_2, rfl, h⟩
      clear hK5
      refine wp_seq_k fun K7 hK7 => ?_
      refine wp_region_lit ?_
      refine t_pure hs rfl rfl (by decide) (p_move rfl rfl) ?_
      clear hs a; intro a hs
      refine t_pure hs rfl rfl (by decide) (p_eq rfl rfl rfl) ?_
      clear hs a; intro a hs
      refine hK7 _ _ ?_
      refine c_cond hs rfl (fun hb => ?_) (fun hb => ?_)
      · replace h := h.1 hb
        clear hb
        obtain ⟨w1, hw1, h⟩ := h
        refine d_start (S := Is w1) (ds := [17, 20]) #[false, false, false, false, false, false, false, false, false, false, false, false, false, false, false, false, false, false, false, false, false] mixed rfl rfl ?_
        rw [← hw1]
        have hS := Is.intro w1
        clear hw1
        refine d_pure hs #[true, false, false, false, false, false, false, false, false, false, false, false, false, false, false, false, false, false, false, false, false] (i := 0) rfl rfl rfl (by decide) (by kernel_rfl) (tight_body (P := Try.prog) (fn := Try.f97)) (p_move rfl rfl) ?_
        clear hs a; intro a hs
        refine d_pure hs #[true, true, false, false, false, false, false, false, false, false, false, false, false, false, false, false, false, false, false, false, false] (i := 1) rfl rfl rfl (by decide) (by kernel_rfl) (tight_body (P := Try.prog) (fn := Try.f97)) (p_move rfl rfl) ?_
        clear hs a; intro a hs
        refine d_pure hs #[true, true, true, false, false, false, false, false, false, false, false, false, false, false, false, false, false, false, false, false, false] (i := 2) rfl rfl rfl (by decide) (by kernel_rfl) (tight_body (P := Try.prog) (fn := Try.f97)) (p_move rfl rfl) ?_
        clear hs a; intro a hs
        obtain ⟨t39, rfl, h⟩ := h
        refine d_pure hs #[true, true, true, true, false, false, false, false, false, false, false, false, false, false, false, false, false, false, false, false, false] (i := 3) rfl rfl rfl (by decide) (by kernel_rfl) (tight_body (P := Try.prog) (fn := Try.f97)) (p_nil rfl rfl) ?_
        clear hs a; intro a hs
        refine d_pure hs #[true, true, true, true, true, false, false, false, false, false, false, false, false, false, false, false, false, false, false, false, false] (i := 4) rfl rfl rfl (by decide) (by kernel_rfl) (tight_body (P := Try.prog) (fn := Try.f97)) (p_fieldAddr0 rfl rfl ft_165_0) ?_
        clear hs a; intro a hs
        refine d_pure hs #[true, true, true, true, true, false, true, false, false, false, false, false, false, false, false, false, false, false, false, false, false] (i := 6) rfl rfl rfl (by decide) (by kernel_rfl) (tight_body (P := Try.prog) (fn := Try.f97)) (p_move rfl rfl) ?_
        clear hs a; intro a hs
        refine d_pure hs #[true, true, true, true, true, false, true, true, false, false, false, false, false, false, false, false, false, false, false, false, false] (i := 7) rfl rfl rfl (by decide) (by kernel_rfl) (tight_body (P := Try.prog) (fn := Try.f97)) (p_move rfl rfl) ?_
        clear hs a; intro a hs
        refine d_pure hs #[true, true, true, true, true, false, true, true, false, true, false, false, false, false, false, false, false, false, false, false, false] (i := 9) rfl rfl rfl (by decide) (by kernel_rfl) (tight_body (P := Try.prog) (fn := Try.f97)) (p_move rfl rfl) ?_
        clear hs a; intro a hs
        replace hs := hs.to (τ := [(2, (.int .i64 n2)), (8, (.int .i64 e8_2)), (36, (.pointer (some t39))), (37, (.pointer (some t39))), (40, (.pointer (some t39))), (42, (.int .i64 n2)), (43, (.int .i64 n2)), (45, (.pointer (some t39)))]) ⟨rfl, rfl, rfl, rfl, rfl, rfl, rfl, rfl, trivial⟩
        refine d_pure hs #[true, true, true, true, true, false, true, true, false, true, true, false, false, false, false, false, false, false, false, false, false] (i := 10) rfl rfl rfl (by decide) (by kernel_rfl) (tight_body (P := Try.prog) (fn := Try.f97)) (p_nil rfl rfl) ?_
        clear hs a; intro a hs
        refine d_pure hs #[true, true, true, true, true, false, true, true, false, true, true, true, false, false, false, false, false, false, false, false, false] (i := 11) rfl rfl rfl (by decide) (by kernel_rfl) (tight_body (P := Try.prog) (fn := Try.f97)) (p_fieldAddr rfl rfl ft_165_1) ?_
        clear hs a; intro a hs
        refine d_pure hs #[true, true, true, true, true, false, true, true, false, true, true, true, false, true, false, false, false, false, false, false, false] (i := 13) rfl rfl rfl (by decide) (by kernel_rfl) (tight_body (P := Try.prog) (fn := Try.f97)) (p_move rfl rfl) ?_
        clear hs a; intro a hs
        obtain ⟨t41, hv, h⟩ := h
        refine d_read hs #[true, true, true, true, true, true, true, true, false, true, true, true, false, true, false, false, false, false, false, false, false] (i := 5) rfl rfl rfl (by decide) (by kernel_rfl) (by kernel_rfl) (tight_body (P := Try.prog) (fn := Try.f97)) hS (fun w h' => by have h1 := h'.out; subst h1; exact e_load rfl rfl ct_22 hv) ?_
        clear hs a hv; intro a hs
        obtain ⟨t44, h0, h1, h2, h3, he, h⟩ := h
        refine d_pure hs #[true, true, true, true, true, true, true, true, true, true, true, true, false, true, false, false, false, false, false, false, false] (i := 8) rfl rfl rfl (by decide) (by kernel_rfl) (tight_body (P := Try.prog) (fn := Try.f97)) (Pure.sl he (p_slc rfl rfl sl_22 rfl ⟨_, rfl⟩ ⟨_, rfl⟩ (by decide) h0 h1 h2 h3)) ?_
        clear hs a h0 h1 h2 h3 he; intro a hs
        obtain ⟨t48, hv, h⟩ := h
        refine d_read hs #[true, true, true, true, true, true, true, true, true, true, true, true, true, true, false, false, false, false, false, false, false] (i := 12) rfl rfl rfl (by decide) (by kernel_rfl) (by kernel_rfl) (tight_body (P := Try.prog) (fn := Try.f97)) hS (fun w h' => by have h1 := h'.out; subst h1; exact e_load rfl rfl ct_3 hv) ?_
        clear hs a hv; intro a hs
        obtain ⟨t50, he, h⟩ := h
        refine d_pure hs #[true, true, true, true, true, true, true, true, true, true, true, true, true, true, true, false, false, false, false, false, false] (i := 14) rfl rfl rfl (by decide) (by kernel_rfl) (tight_body (P := Try.prog) (fn := Try.f97)) (Pure.int he (p_min _ rfl rfl rfl)) ?_
        clear hs a he; intro a hs
        refine d_pure hs #[true, true, true, true, true, true, true, true, true, true, true, true, true, true, true, true, false, false, false, false, false] (i := 15) rfl rfl rfl (by decide) (by kernel_rfl) (tight_body (P := Try.prog) (fn := Try.f97)) (p_nil rfl rfl) ?_
        clear hs a; intro a hs
        replace hs := hs.to (τ := [(8, (.int .i64 e8_2)), (37, (.pointer (some t39))), (44, (Sl.val t44)), (50, (.int .i64 t50)), (51, (.pointer (some t39)))]) ⟨rfl, rfl, rfl, rfl, rfl, trivial⟩
        refine d_pure hs #[true, true, true, true, true, true, true, true, true, true, true, true, true, true, true, true, true, false, false, false, false] (i := 16) rfl rfl rfl (by decide) (by kernel_rfl) (tight_body (P := Try.prog) (fn := Try.f97)) (p_fieldAddr0 rfl rfl ft_165_0) ?_
        clear hs a; intro a hs
        refine d_all [17] (by kernel_rfl) (by decide) ?_
        refine AllS.cons ?_ AllS.nil
        obtain ⟨w1, hw, hc, hf, hv, h⟩ := h
        refine d_skip hs #[true, true, true, true, true, true, true, true, true, true, true, true, true, true, true, true, true, true, false, false, false] (i := 17) rfl rfl rfl rfl (e_store rfl rfl rfl sz_22 hw hc hf hv) (fun hn => (hn (by decide)).elim) ?_
        clear hs a hw hc hf hv; intro a hs
        refine d_pure hs #[true, true, true, true, true, true, true, true, true, true, true, true, true, true, true, true, true, true, true, false, false] (i := 18) rfl rfl rfl (by decide) (by kernel_rfl) (tight_body (P := Try.prog) (fn := Try.f97)) (p_nil rfl rfl) ?_
        clear hs a; intro a hs
        refine d_pure hs #[true, true, true, true, true, true, true, true, true, true, true, true, true, true, true, true, true, true, true, true, false] (i := 19) rfl rfl rfl (by decide) (by kernel_rfl) (tight_body (P := Try.prog) (fn := Try.f97)) (p_fieldAddr rfl rfl ft_165_1) ?_
        clear hs a; intro a hs
        refine d_all [20] (by kernel_rfl) (by decide) ?_
        refine AllS.cons ?_ AllS.nil
        obtain ⟨w1, hw, hc, hf, hv, h⟩ := h
        refine d_skip hs #[true, true, true, true, true, true, true, true, true, true, true, true, true, true, true, true, true, true, true, true, true] (i := 20) rfl rfl rfl rfl (e_store rfl rfl rfl sz_3 hw hc hf hv) (fun hn => (hn (by decide)).elim) ?_
        clear hs a hw hc hf hv; intro a hs
        refine d_done (by kernel_rfl) ?_ _
        clear hS
        exact J3 _ _ (hs.to ⟨rfl, trivial⟩) h
      · replace h := h.2 hb
        clear hb
        refine wp_skip ?_
        exact J3 _ _ (hs.to ⟨rfl, trivial⟩) h
    clear hK4
    refine wp_seq_k fun K8 hK8 => ?_
    refine wp_region_lit ?_
    refine t_pure hs rfl rfl (by decide) (p_move rfl rfl) ?_
    clear hs a; intro a hs
    refine t_pure hs rfl rfl (by decide) (p_eq rfl rfl rfl) ?_
    clear hs a; intro a hs
    refine hK8 _ _ ?_
    refine c_cond hs rfl (fun hb => ?_) (fun hb => ?_)
    · replace h := h.1 hb
      clear hb
      refine wp_region_lit ?_
      refine t_pure hs rfl rfl (by decide) (p_move rfl rfl) ?_
      clear hs a; intro a hs
      refine t_call hs rfl rfl (by decide) (e_call rfl rfl rfl cb_72) h ?_
      clear hs a h
      intro v a w hk hs
      obtain ⟨t33, rfl, h⟩ := hk
      refine t_pure hs rfl rfl (by decide) (p_assign rfl rfl) ?_
      clear hs a; intro a hs
      exact J2 t33 _ _ (hs.to ⟨rfl, rfl, rfl, trivial⟩) h
    · replace h := h.2 hb
      clear hb
      refine wp_skip ?_
      exact J2 e8_1 _ _ (hs.to ⟨rfl, rfl, rfl, trivial⟩) h
  clear hK3
  refine wp_seq_k fun K9 hK9 => ?_
  have J4 : ∀ (t29_4 : Bool) (a : Act) (w : World), Slots a 56 [(0, (.pointer d0)), (2, (.int .i64 n2)), (7, (.pointer t12x0)), (8, (.int .i64 t12x1)), (29, (.bool t29_4))] → disk_Disk_Cut.s4 Q d0 n2 t12x0 t12x1 t29_4 w → K9 a w := by
    clear h hs
    intro t29_4 a w hs h
    refine hK9 _ _ ?_
    unfold disk_Disk_Cut.s4 at h
    refine c_cond hs rfl (fun hb => ?_) (fun hb => ?_)
    · replace h := h.1 hb
      clear hb
      refine wp_region_lit ?_
      refine t_pure hs rfl rfl (by decide) (p_assign rfl rfl) ?_
      clear hs a; intro a hs
      exact J1 1 _ _ (hs.to ⟨rfl, rfl, rfl, rfl, trivial⟩) h
    · replace h := h.2 hb
      clear hb
      refine wp_skip ?_
      exact J1 t12x1 _ _ (hs.to ⟨rfl, rfl, rfl, rfl, trivial⟩) h
  clear hK9
  refine wp_region_lit ?_
  refine t_pure hs rfl rfl (by decide) (p_move rfl rfl) ?_
  clear hs a; intro a hs
  refine t_pure hs rfl rfl (by decide) (p_eq rfl rfl rfl) ?_
  clear hs a; intro a hs
  refine t_pure hs rfl rfl (by decide) (p_move rfl rfl) ?_
  clear hs a; intro a hs
  refine split_bool (decide (t12x1 = 0)) (fun hb => ?_) (fun hb => ?_)
  · replace h := h.1 hb
    rw [hb] at hs
    clear hb
    refine t_yes hs rfl ?_
    refine t_pure hs rfl rfl (by decide) (p_move rfl rfl) ?_
    clear hs a; intro a hs
    refine t_yes hs rfl ?_
    refine t_pure hs rfl rfl (by decide) (p_lt rfl rfl rfl) ?_
    clear hs a; intro a hs
    refine t_yes hs rfl ?_
    refine t_pure hs rfl rfl (by decide) (p_move rfl rfl) ?_
    clear hs a; intro a hs
    refine split_bool (decide (n2 < 0)) (fun hb => ?_) (fun hb => ?_)
    · replace h := h.1 hb
      rw [hb] at hs
      clear hb
      refine t_no hs rfl rfl (by decide) ?_
      clear hs a; intro a hs
      refine t_no hs rfl rfl (by decide) ?_
      clear hs a; intro a hs
      replace hs := hs.to (τ := [(0, (.pointer d0)), (2, (.int .i64 n2)), (7, (.pointer t12x0)), (8, (.int .i64 t12x1)), (17, (.bool true)), (20, (.bool true)), (21, undef), (22, undef)]) ⟨rfl, rfl, rfl, rfl, rfl, rfl, rfl, rfl, trivial⟩
      refine t_no hs rfl rfl (by decide) ?_
      clear hs a; intro a hs
      refine t_no hs rfl rfl (by decide) ?_
      clear hs a; intro a hs
      refine t_no hs rfl rfl (by decide) ?_
      clear hs a; intro a hs
      refine t_no hs rfl rfl (by decide) ?_
      clear hs a; intro a hs
      refine t_no hs rfl rfl (by decide) ?_
      clear hs a; intro a hs
      refine t_yes hs rfl ?_
      refine t_pure hs rfl rfl (by decide) (p_pick_t rfl rfl rfl) ?_
      clear hs a; intro a hs
      refine t_pure hs rfl rfl (by decide) (p_pick_t rfl rfl rfl) ?_
      clear hs a; intro a hs
      exact J4 true _ _ (hs.to ⟨rfl, rfl, rfl, rfl, rfl, trivial⟩) h
    · replace h := h.2 hb
      rw [hb] at hs
      clear hb
      refine t_yes hs rfl ?_
      refine t_pure hs rfl rfl (by decide) (p_move rfl rfl) ?_
      clear hs a; intro a hs
      refine t_yes hs rfl ?_
      refine t_pure hs rfl rfl (by decide) (p_move rfl rfl) ?_
      clear hs a; intro a hs
      replace hs := hs.to (τ := [(0, (.pointer d0)), (2, (.int .i64 n2)), (7, (.pointer t12x0)), (8, (.int .i64 t12x1)), (17, (.bool true)), (20, (.bool false)), (21, (.int .i64 n2)), (22, (.pointer t12x0))]) ⟨rfl, rfl, rfl, rfl, rfl, rfl, rfl, rfl, trivial⟩
      refine t_yes hs rfl ?_
      obtain ⟨t23, rfl, h⟩ := h
      refine t_pure hs rfl rfl (by decide) (p_nil rfl rfl) ?_
      clear hs a; intro a hs
      refine t_yes hs rfl ?_
      refine t_pure hs rfl rfl (by decide) (p_fieldAddr0 rfl rfl ft_165_0) ?_
      clear hs a; intro a hs
      refine t_yes hs rfl ?_
      obtain ⟨t25, hv, h⟩ := h
      refine t_eff hs rfl rfl (by decide) (e_load rfl rfl ct_22 hv) ?_
      clear hs a hv; intro a hs
      refine t_yes hs rfl ?_
      refine t_pure hs rfl rfl (by decide) (p_len rfl rfl sl_22) ?_
      clear hs a; intro a hs
      refine t_yes hs rfl ?_
      refine t_pure hs rfl rfl (by decide) (p_gt rfl rfl rfl) ?_
      clear hs a; intro a hs
      refine t_yes hs rfl ?_
      refine t_pure hs rfl rfl (by decide) (p_pick_f rfl rfl rfl) ?_
      clear hs a; intro a hs
      refine t_pure hs rfl rfl (by decide) (p_pick_t rfl rfl rfl) ?_
      clear hs a; intro a hs
      exact J4 (decide ((t25.n : Int) < n2)) _ _ (hs.to ⟨rfl, rfl, rfl, rfl, rfl, trivial⟩) h
  · replace h := h.2 hb
    rw [hb] at hs
    clear hb
    refine t_no hs rfl rfl (by decide) ?_
    clear hs a; intro a hs
    refine t_no hs rfl rfl (by decide) ?_
    clear hs a; intro a hs
    refine t_no hs rfl rfl (by decide) ?_
    clear hs a; intro a hs
    refine t_no hs rfl rfl (by decide) ?_
    clear hs a; intro a hs
    refine t_no hs rfl rfl (by decide) ?_
    clear hs a; intro a hs
    replace hs := hs.to (τ := [(0, (.pointer d0)), (2, (.int .i64 n2)), (7, (.pointer t12x0)), (8, (.int .i64 t12x1)), (17, (.bool false)), (20, undef), (21, undef), (22, undef)]) ⟨rfl, rfl, rfl, rfl, rfl, rfl, rfl, rfl, trivial⟩
    refine t_no hs rfl rfl (by decide) ?_
    clear hs a; intro a hs
    refine t_no hs rfl rfl (by decide) ?_
    clear hs a; intro a hs
    refine t_no hs rfl rfl (by decide) ?_
    clear hs a; intro a hs
    refine t_no hs rfl rfl (by decide) ?_
    clear hs a; intro a hs
    refine t_no hs rfl rfl (by decide) ?_
    clear hs a; intro a hs
    refine t_no hs rfl rfl (by decide) ?_
    clear hs a; intro a hs
    refine t_pure hs rfl rfl (by decide) (p_pick_f rfl rfl rfl) ?_
    clear hs a; intro a hs
    exact J4 false _ _ (hs.to ⟨rfl, rfl, rfl, rfl, rfl, trivial⟩) h
def disk_Disk_Remove.s2 (Q : Int → K)  (e6_2 : Int) : K :=
  Q e6_2
def disk_Disk_Remove.s1 (Q : Int → K)  (d0_1 : (Option Addr)) (name1_1 : ByteArray) (e6_1 : Int) : K :=
  Ite (decide (e6_1 = 0))
    (Nn d0_1 fun t20 =>
    Ld (t20.add 1) Value.map fun t22 =>
    Do Try.prog (Builtin.delete_ #[155, 9] 0 #[(.map t22), (.string name1_1)]) id fun _ =>
    disk_Disk_Remove.s2 Q e6_1)
    (disk_Disk_Remove.s2 Q e6_1)
def disk_Disk_Remove (d0 : (Option Addr)) (name1 : ByteArray) (Q : Int → K) : K :=
  disk_Disk_find.call d0 name1 fun t10x0 t10x1 =>
  Ite (decide (t10x1 = 0))
    (disk_Disk_change.call d0 fun t16 =>
    disk_Disk_Remove.s1 Q d0 name1 t16)
    (disk_Disk_Remove.s1 Q d0 name1 t10x1)
theorem disk_Disk_Remove_ok (d0 : (Option Addr)) (name1 : ByteArray) (Q : Int → K) (w : World) (h : disk_Disk_Remove d0 name1 Q w) : disk_Disk_Remove.call d0 name1 Q w := by
  unfold disk_Disk_Remove.call CallF
  refine f_start (args := [(.pointer d0), (.string name1)]) Try.func98 rfl (Nat.le_of_ble_eq_true rfl) ?_
  intro a hs
  unfold disk_Disk_Remove at h
  refine wp_seq_k fun K1 hK1 => ?_
  refine wp_region_lit ?_
  refine t_pure hs rfl rfl (by decide) (p_assign rfl rfl) ?_
  clear hs a; intro a hs
  refine hK1 _ _ ?_
  refine wp_seq_k fun K2 hK2 => ?_
  refine wp_region_lit ?_
  refine t_pure hs rfl rfl (by decide) (p_move rfl rfl) ?_
  clear hs a; intro a hs
  refine t_pure hs rfl rfl (by decide) (p_move rfl rfl) ?_
  clear hs a; intro a hs
  refine t_call hs rfl rfl (by decide) (e_call rfl rfl rfl cb_73) h ?_
  clear hs a h
  intro v a w hk hs
  obtain ⟨t10x0, t10x1, rfl, h⟩ := hk
  refine t_pure hs rfl rfl (by decide) (p_move rfl rfl) ?_
  clear hs a; intro a hs
  refine t_pure hs rfl rfl (by decide) (p_extract rfl rfl rfl) ?_
  clear hs a; intro a hs
  refine t_pure hs rfl rfl (by decide) (p_extract rfl rfl rfl) ?_
  clear hs a; intro a hs
  refine t_pure hs rfl rfl (by decide) (p_assign rfl rfl) ?_
  clear hs a; intro a hs
  refine t_pure hs rfl rfl (by decide) (p_assign rfl rfl) ?_
  clear hs a; intro a hs
  refine hK2 _ _ ?_
  refine wp_seq_k fun K3 hK3 => ?_
  have J1 : ∀ (e6_1 : Int) (a : Act) (w : World), Slots a 25 [(0, (.pointer d0)), (1, (.string name1)), (6, (.int .i64 e6_1))] → disk_Disk_Remove.s1 Q d0 name1 e6_1 w → K3 a w := by
    clear h hs
    intro e6_1 a w hs h
    refine hK3 _ _ ?_
    unfold disk_Disk_Remove.s1 at h
    refine wp_seq_k fun K4 hK4 => ?_
    have J2 : ∀ (a : Act) (w : World), Slots a 25 [(6, (.int .i64 e6_1))] → disk_Disk_Remove.s2 Q e6_1 w → K4 a w := by
      clear h hs
      intro a w hs h
      refine hK4 _ _ ?_
      unfold disk_Disk_Remove.s2 at h
      refine wp_seq_k fun K5 hK5 => ?_
      refine wp_region_lit ?_
      refine t_pure hs rfl rfl (by decide) (p_move rfl rfl) ?_
      clear hs a; intro a hs
      refine t_pure hs rfl rfl (by decide) (p_assign rfl rfl) ?_
      clear hs a; intro a hs
      refine hK5 _ _ ?_
      refine wp_ret ?_
      refine f_ret (fn := Try.f98) hs (fun a hs => r_one hs rfl (rfl)) ⟨e6_1, rfl, h⟩
    clear hK4
    refine wp_seq_k fun K6 hK6 => ?_
    refine wp_region_lit ?_
    refine t_pure hs rfl rfl (by decide) (p_move rfl rfl) ?_
    clear hs a; intro a hs
    refine t_pure hs rfl rfl (by decide) (p_eq rfl rfl rfl) ?_
    clear hs a; intro a hs
    refine hK6 _ _ ?_
    refine c_cond hs rfl (fun hb => ?_) (fun hb => ?_)
    · replace h := h.1 hb
      clear hb
      refine wp_region_lit ?_
      refine t_pure hs rfl rfl (by decide) (p_move rfl rfl) ?_
      clear hs a; intro a hs
      obtain ⟨t20, rfl, h⟩ := h
      refine t_pure hs rfl rfl (by decide) (p_nil rfl rfl) ?_
      clear hs a; intro a hs
      refine t_pure hs rfl rfl (by decide) (p_fieldAddr rfl rfl ft_157_1) ?_
      clear hs a; intro a hs
      obtain ⟨t22, hv, h⟩ := h
      refine t_eff hs rfl rfl (by decide) (e_load rfl rfl ct_155 hv) ?_
      clear hs a hv; intro a hs
      refine t_pure hs rfl rfl (by decide) (p_move rfl rfl) ?_
      clear hs a; intro a hs
      obtain ⟨u1, w1, hd, h⟩ := h
      refine t_none hs rfl rfl (e_delete rfl rfl rfl rfl hd) ?_
      clear hs a hd; intro a hs
      exact J2 _ _ (hs.to ⟨rfl, trivial⟩) h
    · replace h := h.2 hb
      clear hb
      refine wp_skip ?_
      exact J2 _ _ (hs.to ⟨rfl, trivial⟩) h
  clear hK3
  refine wp_seq_k fun K7 hK7 => ?_
  refine wp_region_lit ?_
  refine t_pure hs rfl rfl (by decide) (p_move rfl rfl) ?_
  clear hs a; intro a hs
  refine t_pure hs rfl rfl (by decide) (p_eq rfl rfl rfl) ?_
  clear hs a; intro a hs
  refine hK7 _ _ ?_
  refine c_cond hs rfl (fun hb => ?_) (fun hb => ?_)
  · replace h := h.1 hb
    clear hb
    refine wp_region_lit ?_
    refine t_pure hs rfl rfl (by decide) (p_move rfl rfl) ?_
    clear hs a; intro a hs
    refine t_call hs rfl rfl (by decide) (e_call rfl rfl rfl cb_72) h ?_
    clear hs a h
    intro v a w hk hs
    obtain ⟨t16, rfl, h⟩ := hk
    refine t_pure hs rfl rfl (by decide) (p_assign rfl rfl) ?_
    clear hs a; intro a hs
    exact J1 t16 _ _ (hs.to ⟨rfl, rfl, rfl, trivial⟩) h
  · replace h := h.2 hb
    clear hb
    refine wp_skip ?_
    exact J1 t10x1 _ _ (hs.to ⟨rfl, rfl, rfl, trivial⟩) h
end Go.Proofs.Ytdpepgjbambinaa
