/- Plain forms of functions, and that their code comes to them (package ref03). -/
import Derived.Test.YtgnkminakongkaaCalls
namespace Go.Proofs.Ytgnkminakongkaa
open Go Go.Sep
set_option linter.unusedVariables false
set_option linter.unusedSimpArgs false
set_option maxRecDepth 100000
set_option maxHeartbeats 4000000
def ref03_New (room0 : Int) (Q : (Option Addr) → K) : K :=
  New 87 #[(.int .i64 room0), (Sl.val ⟨none, 0, 0⟩), (.int .i64 (-1)), (.bool false)] fun t5 =>
  Q (some t5)
theorem ref03_New_ok (room0 : Int) (Q : (Option Addr) → K) (w : World) (h : ref03_New room0 Q w) : ref03_New.call room0 Q w := by
  unfold ref03_New.call CallF
  refine f_start (args := [(.int .i64 room0)]) Try.func33 rfl (Nat.le_of_ble_eq_true rfl) ?_
  intro a hs
  unfold ref03_New at h
  refine wp_seq_k fun K1 hK1 => ?_
  refine wp_region_lit ?_
  refine t_pure hs rfl rfl (by decide) (p_assign rfl rfl) ?_
  clear hs a; intro a hs
  refine hK1 _ _ ?_
  refine wp_seq_k fun K2 hK2 => ?_
  refine wp_region_lit ?_
  refine t_pure hs rfl rfl (by decide) (p_move rfl rfl) ?_
  clear hs a; intro a hs
  refine t_pure hs rfl rfl (by decide) (e_build (cs := #[(.int .i64 room0), (Sl.val ⟨none, 0, 0⟩), (.int .i64 (-1)), (.bool false)]) rfl zt_87 pl_87 rfl rfl) ?_
  clear hs a; intro a hs
  obtain ⟨t5, w1, ha, hw, h⟩ := h
  refine t_eff hs rfl rfl (by decide) (e_box rfl rfl rfl ha hw) ?_
  clear hs a ha hw; intro a hs
  refine t_pure hs rfl rfl (by decide) (p_assign rfl rfl) ?_
  clear hs a; intro a hs
  refine hK2 _ _ ?_
  refine wp_ret ?_
  refine f_ret (fn := Try.f33) hs (fun a hs => r_one hs rfl (rfl)) ⟨(some t5), rfl, h⟩
def ref03_Disk_Crash.s2 (Q : (Option Addr) → K) (X1 : Int → K) (d0_2 : Addr) (keeps1_2 : Sl) (out5_2 : Addr) (i6_2 : Int) (f7_2 : Addr) (k9_2 : Int) : K :=
  Ld (f7_2.add 2) (Value.int .i64) fun t56 =>
  Ar (IntKind.wrap .i64 (t56 + k9_2)) fun t58 =>
  Dr <| WithS fun S =>
  LdS S (out5_2.add 1) Sl.val fun t63 =>
  LdS S f7_2 Value.string fun t65 =>
  LdS S (f7_2.add 1) Sl.val fun t68 =>
  Slc t68 0 t58 (t68.c : Int) 1 fun t70 =>
  New 5 #[] fun t66 =>
  Sv S <|
  Do Try.prog (Builtin.append_ #[33, 33] 33 #[(Sl.val (Sl.mk (some t66) 0 0)), (Sl.val t70)]) Sl.val fun t71 =>
  Sv S <|
  Bld #[(.string ⟨#[]⟩), (Sl.val ⟨none, 0, 0⟩), (.int .i64 0)] (fun i => some (i * 3, 3)) [(0, (.agg #[(.string t65), (Sl.val t71), (.int .i64 t58)]))] fun ct74 =>
  New 89 ct74 fun t74 =>
  Sv S <|
  Do Try.prog (Builtin.append_ #[85, 85] 85 #[(Sl.val t63), (Sl.val (Sl.mk (some t74) 1 1))]) Sl.val fun t75 =>
  St (out5_2.add 1) (Sl.val t75) <|
  Ar (IntKind.wrap .i64 (i6_2 + 1)) fun t25 =>
  X1 t25
def ref03_Disk_Crash.b1 (Q : (Option Addr) → K)  (X1 : Int → K) (d0_1 : Addr) (keeps1_1 : Sl) (out5_1 : Addr) (i6_1 : Int) : K :=
  Ld (d0_1.add 1) Sl.val fun t21 =>
  Ite (decide (i6_1 < (t21.n : Int)))
    (Ld (d0_1.add 1) Sl.val fun t29 =>
    Idx t29 i6_1 3 fun t31 =>
    LdN t31 3 fun t32 =>
    New 89 #[(.string ⟨#[]⟩), (Sl.val ⟨none, 0, 0⟩), (.int .i64 0)] fun f7 =>
    StN f7 3 t32 <|
    Ld (f7.add 1) Sl.val fun t34 =>
    Ld (f7.add 2) (Value.int .i64) fun t37 =>
    Ar (IntKind.wrap .i64 ((t34.n : Int) - t37)) fun t38 =>
    Ar (IntKind.wrap .i64 (t38 + 1)) fun t39 =>
    Ite (decide (i6_1 < (keeps1_1.n : Int)))
      (Idx keeps1_1 i6_1 1 fun t46 =>
      Ld t46 (Value.int .i64) fun t47 =>
      Cd (t39 ≠ 0) <|
      Ar (Int.tmod t47 t39) fun t49 =>
      Ite (decide (t49 < 0))
        (Ar (IntKind.wrap .i64 (t49 + t39)) fun t54 =>
        ref03_Disk_Crash.s2 Q X1 d0_1 keeps1_1 out5_1 i6_1 f7 t54)
        (ref03_Disk_Crash.s2 Q X1 d0_1 keeps1_1 out5_1 i6_1 f7 t49))
      (ref03_Disk_Crash.s2 Q X1 d0_1 keeps1_1 out5_1 i6_1 f7 0))
    (Q (some out5_1))
def ref03_Disk_Crash (d0 : (Option Addr)) (keeps1 : Sl) (Q : (Option Addr) → K) : K :=
  Nn d0 fun t12 =>
  Ld t12 (Value.int .i64) fun t14 =>
  New 87 #[(.int .i64 t14), (Sl.val ⟨none, 0, 0⟩), (.int .i64 (-1)), (.bool false)] fun t16 =>
  LoopK (α := Int) (fun X x => ref03_Disk_Crash.b1 Q X t12 keeps1 t16 x) 0
theorem ref03_Disk_Crash_ok (d0 : (Option Addr)) (keeps1 : Sl) (Q : (Option Addr) → K) (w : World) (h : ref03_Disk_Crash d0 keeps1 Q w) : ref03_Disk_Crash.call d0 keeps1 Q w := by
  unfold ref03_Disk_Crash.call CallF
  refine f_start (args := [(.pointer d0), (Sl.val keeps1)]) Try.func35 rfl (Nat.le_of_ble_eq_true rfl) ?_
  intro a hs
  unfold ref03_Disk_Crash at h
  refine wp_seq_k fun K1 hK1 => ?_
  refine wp_region_lit ?_
  refine t_pure hs rfl rfl (by decide) (p_assign rfl rfl) ?_
  clear hs a; intro a hs
  refine hK1 _ _ ?_
  refine wp_seq_k fun K2 hK2 => ?_
  refine wp_region_lit ?_
  refine t_pure hs rfl rfl (by decide) (p_move rfl rfl) ?_
  clear hs a; intro a hs
  obtain ⟨t12, rfl, h⟩ := h
  refine t_pure hs rfl rfl (by decide) (p_nil rfl rfl) ?_
  clear hs a; intro a hs
  refine t_pure hs rfl rfl (by decide) (p_fieldAddr0 rfl rfl ft_87_0) ?_
  clear hs a; intro a hs
  obtain ⟨t14, hv, h⟩ := h
  refine t_eff hs rfl rfl (by decide) (e_load rfl rfl ct_3 hv) ?_
  clear hs a hv; intro a hs
  refine t_pure hs rfl rfl (by decide) (e_build (cs := #[(.int .i64 t14), (Sl.val ⟨none, 0, 0⟩), (.int .i64 (-1)), (.bool false)]) rfl zt_87 pl_87 rfl rfl) ?_
  clear hs a; intro a hs
  obtain ⟨t16, w1, ha, hw, h⟩ := h
  refine t_eff hs rfl rfl (by decide) (e_box rfl rfl rfl ha hw) ?_
  clear hs a ha hw; intro a hs
  refine t_pure hs rfl rfl (by decide) (p_assign rfl rfl) ?_
  clear hs a; intro a hs
  refine hK2 _ _ ?_
  refine wp_seq_k fun K3 hK3 => ?_
  refine wp_seq_k fun K4 hK4 => ?_
  refine wp_region_lit ?_
  refine t_pure hs rfl rfl (by decide) (p_assign rfl rfl) ?_
  clear hs a; intro a hs
  refine hK4 _ _ ?_
  refine wp_block ?_
  obtain ⟨I1, μ1, h0, hr⟩ := h
  refine c_loop (α := Int) I1 μ1 (fun x a => Slots a 79 [(0, (.pointer (some t12))), (1, (Sl.val keeps1)), (5, (.pointer (some t16))), (6, (.int .i64 x))]) 0 h0 (hs.to ⟨rfl, rfl, rfl, rfl, trivial⟩) ?_
  clear h0 hs a
  intro i6_1 a w hI hs
  have h : ref03_Disk_Crash.b1 Q (fun i6_1n w' => I1 i6_1n w' ∧ μ1 i6_1n w' < μ1 i6_1 w) t12 keeps1 t16 i6_1 w := hr i6_1 w hI
  clear hr hI
  generalize hX1 : (fun i6_1n w' => I1 i6_1n w' ∧ μ1 i6_1n w' < μ1 i6_1 w) = X1 at h
  unfold ref03_Disk_Crash.b1 at h
  replace hs : Slots a 79 [(0, (.pointer (some t12))), (1, (Sl.val keeps1)), (5, (.pointer (some t16))), (6, (.int .i64 i6_1))] := hs
  refine wp_seq_k fun K5 hK5 => ?_
  refine wp_seq_k fun K6 hK6 => ?_
  refine wp_region_lit ?_
  refine t_pure hs rfl rfl (by decide) (p_move rfl rfl) ?_
  clear hs a; intro a hs
  refine t_pure hs rfl rfl (by decide) (p_move rfl rfl) ?_
  clear hs a; intro a hs
  refine t_pure hs rfl rfl (by decide) (p_nil rfl rfl) ?_
  clear hs a; intro a hs
  refine t_pure hs rfl rfl (by decide) (p_fieldAddr rfl rfl ft_87_1) ?_
  clear hs a; intro a hs
  obtain ⟨t21, hv, h⟩ := h
  refine t_eff hs rfl rfl (by decide) (e_load rfl rfl ct_85 hv) ?_
  clear hs a hv; intro a hs
  refine t_pure hs rfl rfl (by decide) (p_len rfl rfl sl_85) ?_
  clear hs a; intro a hs
  refine t_pure hs rfl rfl (by decide) (p_lt rfl rfl rfl) ?_
  clear hs a; intro a hs
  refine hK6 _ _ ?_
  refine c_cond hs rfl (fun hb => ?_) (fun hb => ?_)
  · replace h := h.1 hb
    clear hb
    refine wp_skip ?_
    refine hK5 _ _ ?_
    refine wp_seq_k fun K7 hK7 => ?_
    refine wp_block ?_
    refine wp_seq_k fun K8 hK8 => ?_
    refine wp_region_lit ?_
    refine t_pure hs rfl rfl (by decide) (p_move rfl rfl) ?_
    clear hs a; intro a hs
    refine t_pure hs rfl rfl (by decide) (p_nil rfl rfl) ?_
    clear hs a; intro a hs
    refine t_pure hs rfl rfl (by decide) (p_fieldAddr rfl rfl ft_87_1) ?_
    clear hs a; intro a hs
    obtain ⟨t29, hv, h⟩ := h
    refine t_eff hs rfl rfl (by decide) (e_load rfl rfl ct_85 hv) ?_
    clear hs a hv; intro a hs
    refine t_pure hs rfl rfl (by decide) (p_move rfl rfl) ?_
    clear hs a; intro a hs
    obtain ⟨qt31, t31, ha, h0, h1, he, h⟩ := h
    refine t_pure hs rfl rfl (by decide) (Pure.adr he (p_idx rfl rfl rfl sl_85 ha h0 h1)) ?_
    clear hs a ha h0 h1 he; intro a hs
    obtain ⟨t32, hn, hv, h⟩ := h
    refine t_eff hs rfl rfl (by decide) (e_loadN rfl rfl at_89 hn hv) ?_
    clear hs a hn hv; intro a hs
    obtain ⟨f7, w1, ha, hw, h⟩ := h
    refine t_eff hs rfl rfl (by decide) (e_alloc rfl zt_89 rfl ha hw) ?_
    clear hs a ha hw; intro a hs
    replace hs := hs.to (τ := [(0, (.pointer (some t12))), (1, (Sl.val keeps1)), (5, (.pointer (some t16))), (6, (.int .i64 i6_1)), (7, (.pointer (some f7))), (32, (.agg t32))]) ⟨rfl, rfl, rfl, rfl, rfl, rfl, trivial⟩
    obtain ⟨w1, hw, hn, hc, hv, h⟩ := h
    refine t_skip hs rfl rfl (e_storeN rfl rfl rfl sz_89 hw hn hc hv) ?_
    clear hs a hw hn hc hv; intro a hs
    refine hK8 _ _ ?_
    refine wp_seq_k fun K9 hK9 => ?_
    refine wp_region_lit ?_
    refine t_pure hs rfl rfl (by decide) (p_fieldAddr rfl rfl ft_89_1) ?_
    clear hs a; intro a hs
    obtain ⟨t34, hv, h⟩ := h
    refine t_eff hs rfl rfl (by decide) (e_load rfl rfl ct_33 hv) ?_
    clear hs a hv; intro a hs
    refine t_pure hs rfl rfl (by decide) (p_len rfl rfl sl_33) ?_
    clear hs a; intro a hs
    refine t_pure hs rfl rfl (by decide) (p_fieldAddr rfl rfl ft_89_2) ?_
    clear hs a; intro a hs
    obtain ⟨t37, hv, h⟩ := h
    refine t_eff hs rfl rfl (by decide) (e_load rfl rfl ct_3 hv) ?_
    clear hs a hv; intro a hs
    obtain ⟨t38, he, h⟩ := h
    refine t_pure hs rfl rfl (by decide) (Pure.int he (p_sub rfl rfl rfl)) ?_
    clear hs a he; intro a hs
    obtain ⟨t39, he, h⟩ := h
    refine t_pure hs rfl rfl (by decide) (Pure.int he (p_add rfl rfl rfl)) ?_
    clear hs a he; intro a hs
    refine t_pure hs rfl rfl (by decide) (p_assign rfl rfl) ?_
    clear hs a; intro a hs
    replace hs := hs.to (τ := [(0, (.pointer (some t12))), (1, (Sl.val keeps1)), (5, (.pointer (some t16))), (6, (.int .i64 i6_1)), (7, (.pointer (some f7))), (8, (.int .i64 t39))]) ⟨rfl, rfl, rfl, rfl, rfl, rfl, trivial⟩
    refine t_pure hs rfl rfl (by decide) (p_assign rfl rfl) ?_
    clear hs a; intro a hs
    refine hK9 _ _ ?_
    refine wp_seq_k fun K10 hK10 => ?_
    have J2 : ∀ (k9_2 : Int) (a : Act) (w : World), Slots a 79 [(0, (.pointer (some t12))), (1, (Sl.val keeps1)), (5, (.pointer (some t16))), (6, (.int .i64 i6_1)), (7, (.pointer (some f7))), (9, (.int .i64 k9_2))] → ref03_Disk_Crash.s2 Q X1 t12 keeps1 t16 i6_1 f7 k9_2 w → K10 a w := by
      clear h hs
      intro k9_2 a w hs h
      refine hK10 _ _ ?_
      unfold ref03_Disk_Crash.s2 at h
      refine wp_seq_k fun K11 hK11 => ?_
      refine wp_region_lit ?_
      refine t_pure hs rfl rfl (by decide) (p_fieldAddr rfl rfl ft_89_2) ?_
      clear hs a; intro a hs
      obtain ⟨t56, hv, h⟩ := h
      refine t_eff hs rfl rfl (by decide) (e_load rfl rfl ct_3 hv) ?_
      clear hs a hv; intro a hs
      refine t_pure hs rfl rfl (by decide) (p_move rfl rfl) ?_
      clear hs a; intro a hs
      obtain ⟨t58, he, h⟩ := h
      refine t_pure hs rfl rfl (by decide) (Pure.int he (p_add rfl rfl rfl)) ?_
      clear hs a he; intro a hs
      refine t_pure hs rfl rfl (by decide) (p_assign rfl rfl) ?_
      clear hs a; intro a hs
      refine hK11 _ _ ?_
      obtain ⟨w1, hw1, h⟩ := h
      obtain ⟨S, hS, h⟩ := h
      subst hw1
      refine d_start (S := S) (ds := [16, 19]) #[false, false, false, false, false, false, false, false, false, false, false, false, false, false, false, false, false, false, false, false] mixed rfl rfl ?_
      refine d_pure hs #[true, false, false, false, false, false, false, false, false, false, false, false, false, false, false, false, false, false, false, false] (i := 0) rfl rfl rfl (by decide) (by kernel_rfl) (tight_body (P := Try.prog) (fn := Try.f35)) (p_move rfl rfl) ?_
      clear hs a; intro a hs
      refine d_pure hs #[true, true, false, false, false, false, false, false, false, false, false, false, false, false, false, false, false, false, false, false] (i := 1) rfl rfl rfl (by decide) (by kernel_rfl) (tight_body (P := Try.prog) (fn := Try.f35)) (p_move rfl rfl) ?_
      clear hs a; intro a hs
      refine d_pure hs #[true, true, true, false, false, false, false, false, false, false, false, false, false, false, false, false, false, false, false, false] (i := 2) rfl rfl rfl (by decide) (by kernel_rfl) (tight_body (P := Try.prog) (fn := Try.f35)) (p_nil rfl rfl) ?_
      clear hs a; intro a hs
      refine d_pure hs #[true, true, true, true, false, false, false, false, false, false, false, false, false, false, false, false, false, false, false, false] (i := 3) rfl rfl rfl (by decide) (by kernel_rfl) (tight_body (P := Try.prog) (fn := Try.f35)) (p_fieldAddr rfl rfl ft_87_1) ?_
      clear hs a; intro a hs
      refine d_pure hs #[true, true, true, true, false, true, false, false, false, false, false, false, false, false, false, false, false, false, false, false] (i := 5) rfl rfl rfl (by decide) (by kernel_rfl) (tight_body (P := Try.prog) (fn := Try.f35)) (p_fieldAddr0 rfl rfl ft_89_0) ?_
      clear hs a; intro a hs
      refine d_pure hs #[true, true, true, true, false, true, false, false, true, false, false, false, false, false, false, false, false, false, false, false] (i := 8) rfl rfl rfl (by decide) (by kernel_rfl) (tight_body (P := Try.prog) (fn := Try.f35)) (p_fieldAddr rfl rfl ft_89_1) ?_
      clear hs a; intro a hs
      refine d_pure hs #[true, true, true, true, false, true, false, false, true, false, true, false, false, false, false, false, false, false, false, false] (i := 10) rfl rfl rfl (by decide) (by kernel_rfl) (tight_body (P := Try.prog) (fn := Try.f35)) (p_move rfl rfl) ?_
      clear hs a; intro a hs
      refine d_pure hs #[true, true, true, true, false, true, false, false, true, false, true, false, false, true, false, false, false, false, false, false] (i := 13) rfl rfl rfl (by decide) (by kernel_rfl) (tight_body (P := Try.prog) (fn := Try.f35)) (p_move rfl rfl) ?_
      clear hs a; intro a hs
      replace hs := hs.to (τ := [(0, (.pointer (some t12))), (1, (Sl.val keeps1)), (5, (.pointer (some t16))), (6, (.int .i64 i6_1)), (59, (.pointer (some t16))), (62, (.pointer (some (t16.add 1)))), (64, (.pointer (some f7))), (67, (.pointer (some (f7.add 1)))), (69, (.int .i64 t58)), (72, (.int .i64 t58))]) ⟨rfl, rfl, rfl, rfl, rfl, rfl, rfl, rfl, rfl, rfl, trivial⟩
      obtain ⟨t63, hv, h⟩ := h
      refine d_read hs #[true, true, true, true, true, true, false, false, true, false, true, false, false, true, false, false, false, false, false, false] (i := 4) rfl rfl rfl (by decide) (by kernel_rfl) (by kernel_rfl) (tight_body (P := Try.prog) (fn := Try.f35)) hS (fun w h' => e_load rfl rfl ct_85 (hv w h')) ?_
      clear hs a hv; intro a hs
      obtain ⟨t65, hv, h⟩ := h
      refine d_read hs #[true, true, true, true, true, true, true, false, true, false, true, false, false, true, false, false, false, false, false, false] (i := 6) rfl rfl rfl (by decide) (by kernel_rfl) (by kernel_rfl) (tight_body (P := Try.prog) (fn := Try.f35)) hS (fun w h' => e_load rfl rfl ct_9 (hv w h')) ?_
      clear hs a hv; intro a hs
      obtain ⟨t68, hv, h⟩ := h
      refine d_read hs #[true, true, true, true, true, true, true, false, true, true, true, false, false, true, false, false, false, false, false, false] (i := 9) rfl rfl rfl (by decide) (by kernel_rfl) (by kernel_rfl) (tight_body (P := Try.prog) (fn := Try.f35)) hS (fun w h' => e_load rfl rfl ct_33 (hv w h')) ?_
      clear hs a hv; intro a hs
      obtain ⟨t70, h0, h1, h2, h3, he, h⟩ := h
      refine d_pure hs #[true, true, true, true, true, true, true, false, true, true, true, true, false, true, false, false, false, false, false, false] (i := 11) rfl rfl rfl (by decide) (by kernel_rfl) (tight_body (P := Try.prog) (fn := Try.f35)) (Pure.sl he (p_slc rfl rfl sl_33 rfl ⟨_, rfl⟩ rfl (by decide) h0 h1 h2 h3)) ?_
      clear hs a h0 h1 h2 h3 he; intro a hs
      refine d_all [7] (by kernel_rfl) (by decide) ?_
      refine AllS.cons ?_ AllS.nil
      obtain ⟨t66, w1, ha, hw, h⟩ := h
      obtain ⟨hS, h⟩ := h
      refine d_eff hs #[true, true, true, true, true, true, true, true, true, true, true, true, false, true, false, false, false, false, false, false] (i := 7) rfl rfl rfl (by decide) rfl (e_buildSlice (z := #[]) (cs := #[]) rfl sl_33 zt_5 (by decide) rfl rz_5_0 (by rfl) ha hw) (fun _ _ => hS) ?_
      clear hs a ha hw; intro a hs
      refine d_all [12] (by kernel_rfl) (by decide) ?_
      refine AllS.cons ?_ AllS.nil
      obtain ⟨t71, w1, hd, h⟩ := h
      obtain ⟨hS, h⟩ := h
      refine d_eff hs #[true, true, true, true, true, true, true, true, true, true, true, true, true, true, false, false, false, false, false, false] (i := 12) rfl rfl rfl (by decide) rfl (e_append rfl rfl rfl rfl hd) (fun _ _ => hS) ?_
      clear hs a hd; intro a hs
      refine d_pure hs #[true, true, true, true, true, true, true, true, true, true, true, true, true, true, true, false, false, false, false, false] (i := 14) rfl rfl rfl (by decide) (by kernel_rfl) (tight_body (P := Try.prog) (fn := Try.f35)) (e_build (cs := #[(.string t65), (Sl.val t71), (.int .i64 t58)]) rfl zt_89 pl_89 rfl rfl) ?_
      clear hs a; intro a hs
      refine d_all [15] (by kernel_rfl) (by decide) ?_
      refine AllS.cons ?_ AllS.nil
      obtain ⟨ct74, hb, t74, w1, ha, hw, h⟩ := h
      obtain ⟨hS, h⟩ := h
      refine d_eff hs #[true, true, true, true, true, true, true, true, true, true, true, true, true, true, true, true, false, false, false, false] (i := 15) rfl rfl rfl (by decide) rfl (e_buildSlice (z := #[(.string ⟨#[]⟩), (Sl.val ⟨none, 0, 0⟩), (.int .i64 0)]) rfl sl_85 zt_89 (by decide) rfl rz_89_1 hb ha hw) (fun _ _ => hS) ?_
      clear hs a hb ha hw; intro a hs
      replace hs := hs.to (τ := [(0, (.pointer (some t12))), (1, (Sl.val keeps1)), (5, (.pointer (some t16))), (6, (.int .i64 i6_1)), (59, (.pointer (some t16))), (63, (Sl.val t63)), (74, (Sl.val (Sl.mk (some t74) 1 1)))]) ⟨rfl, rfl, rfl, rfl, rfl, rfl, rfl, trivial⟩
      refine d_all [16] (by kernel_rfl) (by decide) ?_
      refine AllS.cons ?_ AllS.nil
      obtain ⟨t75, w1, hd, h⟩ := h
      refine d_eff hs #[true, true, true, true, true, true, true, true, true, true, true, true, true, true, true, true, true, false, false, false] (i := 16) rfl rfl rfl (by decide) rfl (e_append rfl rfl rfl rfl hd) (fun hn => (hn (by decide)).elim) ?_
      clear hs a hd; intro a hs
      refine d_pure hs #[true, true, true, true, true, true, true, true, true, true, true, true, true, true, true, true, true, true, false, false] (i := 17) rfl rfl rfl (by decide) (by kernel_rfl) (tight_body (P := Try.prog) (fn := Try.f35)) (p_nil rfl rfl) ?_
      clear hs a; intro a hs
      refine d_pure hs #[true, true, true, true, true, true, true, true, true, true, true, true, true, true, true, true, true, true, true, false] (i := 18) rfl rfl rfl (by decide) (by kernel_rfl) (tight_body (P := Try.prog) (fn := Try.f35)) (p_fieldAddr rfl rfl ft_87_1) ?_
      clear hs a; intro a hs
      refine d_all [19] (by kernel_rfl) (by decide) ?_
      refine AllS.cons ?_ AllS.nil
      obtain ⟨w1, hw, hc, hf, hv, h⟩ := h
      refine d_skip hs #[true, true, true, true, true, true, true, true, true, true, true, true, true, true, true, true, true, true, true, true] (i := 19) rfl rfl rfl rfl (e_store rfl rfl rfl sz_85 hw hc hf hv) (fun hn => (hn (by decide)).elim) ?_
      clear hs a hw hc hf hv; intro a hs
      refine d_done (by kernel_rfl) ?_ _
      clear hS
      refine hK7 _ _ ?_
      refine wp_region_lit ?_
      refine t_pure hs rfl rfl (by decide) (p_move rfl rfl) ?_
      clear hs a; intro a hs
      obtain ⟨t25, he, h⟩ := h
      refine t_pure hs rfl rfl (by decide) (Pure.int he (p_add rfl rfl rfl)) ?_
      clear hs a he; intro a hs
      refine t_pure hs rfl rfl (by decide) (p_assign rfl rfl) ?_
      clear hs a; intro a hs
      rw [← hX1] at h
      exact ⟨t25, hs.to ⟨rfl, rfl, rfl, rfl, trivial⟩, h⟩
    clear hK10
    refine wp_seq_k fun K12 hK12 => ?_
    refine wp_region_lit ?_
    refine t_pure hs rfl rfl (by decide) (p_move rfl rfl) ?_
    clear hs a; intro a hs
    refine t_pure hs rfl rfl (by decide) (p_move rfl rfl) ?_
    clear hs a; intro a hs
    refine t_pure hs rfl rfl (by decide) (p_len rfl rfl sl_44) ?_
    clear hs a; intro a hs
    refine t_pure hs rfl rfl (by decide) (p_lt rfl rfl rfl) ?_
    clear hs a; intro a hs
    refine hK12 _ _ ?_
    refine c_cond hs rfl (fun hb => ?_) (fun hb => ?_)
    · replace h := h.1 hb
      clear hb
      refine wp_seq_k fun K13 hK13 => ?_
      refine wp_region_lit ?_
      refine t_pure hs rfl rfl (by decide) (p_move rfl rfl) ?_
      clear hs a; intro a hs
      refine t_pure hs rfl rfl (by decide) (p_move rfl rfl) ?_
      clear hs a; intro a hs
      obtain ⟨qt46, t46, ha, h0, h1, he, h⟩ := h
      refine t_pure hs rfl rfl (by decide) (Pure.adr he (p_idx rfl rfl rfl sl_44 ha h0 h1)) ?_
      clear hs a ha h0 h1 he; intro a hs
      obtain ⟨t47, hv, h⟩ := h
      refine t_eff hs rfl rfl (by decide) (e_load rfl rfl ct_3 hv) ?_
      clear hs a hv; intro a hs
      refine t_pure hs rfl rfl (by decide) (p_move rfl rfl) ?_
      clear hs a; intro a hs
      obtain ⟨h0, t49, he, h⟩ := h
      refine t_pure hs rfl rfl (by decide) (Pure.int he (p_rem rfl rfl rfl h0)) ?_
      clear hs a h0 he; intro a hs
      refine t_pure hs rfl rfl (by decide) (p_assign rfl rfl) ?_
      clear hs a; intro a hs
      refine hK13 _ _ ?_
      refine wp_seq_k fun K14 hK14 => ?_
      refine wp_region_lit ?_
      refine t_pure hs rfl rfl (by decide) (p_move rfl rfl) ?_
      clear hs a; intro a hs
      refine t_pure hs rfl rfl (by decide) (p_lt rfl rfl rfl) ?_
      clear hs a; intro a hs
      refine hK14 _ _ ?_
      refine c_cond hs rfl (fun hb => ?_) (fun hb => ?_)
      · replace h := h.1 hb
        clear hb
        refine wp_region_lit ?_
        refine t_pure hs rfl rfl (by decide) (p_move rfl rfl) ?_
        clear hs a; intro a hs
        refine t_pure hs rfl rfl (by decide) (p_move rfl rfl) ?_
        clear hs a; intro a hs
        obtain ⟨t54, he, h⟩ := h
        refine t_pure hs rfl rfl (by decide) (Pure.int he (p_add rfl rfl rfl)) ?_
        clear hs a he; intro a hs
        refine t_pure hs rfl rfl (by decide) (p_assign rfl rfl) ?_
        clear hs a; intro a hs
        exact J2 t54 _ _ (hs.to ⟨rfl, rfl, rfl, rfl, rfl, rfl, trivial⟩) h
      · replace h := h.2 hb
        clear hb
        refine wp_skip ?_
        exact J2 t49 _ _ (hs.to ⟨rfl, rfl, rfl, rfl, rfl, rfl, trivial⟩) h
    · replace h := h.2 hb
      clear hb
      refine wp_skip ?_
      exact J2 0 _ _ (hs.to ⟨rfl, rfl, rfl, rfl, rfl, rfl, trivial⟩) h
  · replace h := h.2 hb
    clear hb
    refine wp_exit ?_
    refine hK3 _ _ ?_
    refine wp_seq_k fun K15 hK15 => ?_
    refine wp_region_lit ?_
    refine t_pure hs rfl rfl (by decide) (p_move rfl rfl) ?_
    clear hs a; intro a hs
    refine t_pure hs rfl rfl (by decide) (p_assign rfl rfl) ?_
    clear hs a; intro a hs
    refine hK15 _ _ ?_
    refine wp_ret ?_
    refine f_ret (fn := Try.f35) hs (fun a hs => r_one hs rfl (rfl)) ⟨(some t16), rfl, h⟩
def ref03_Disk_Limit (d0 : (Option Addr)) (calls1 : Int) (Q : K) : K :=
  Nn d0 fun t6 =>
  St (t6.add 2) (.int .i64 calls1) <|
  Ite (decide (calls1 < 0))
    (St (t6.add 2) (.int .i64 (-1)) <|
    Q)
    (Q)
theorem ref03_Disk_Limit_ok (d0 : (Option Addr)) (calls1 : Int) (Q : K) (w : World) (h : ref03_Disk_Limit d0 calls1 Q w) : ref03_Disk_Limit.call d0 calls1 Q w := by
  unfold ref03_Disk_Limit.call CallF
  refine f_start (args := [(.pointer d0), (.int .i64 calls1)]) Try.func41 rfl (Nat.le_of_ble_eq_true rfl) ?_
  intro a hs
  unfold ref03_Disk_Limit at h
  refine wp_seq_k fun K1 hK1 => ?_
  refine wp_region_lit ?_
  refine t_pure hs rfl rfl (by decide) (p_move rfl rfl) ?_
  clear hs a; intro a hs
  refine t_pure hs rfl rfl (by decide) (p_move rfl rfl) ?_
  clear hs a; intro a hs
  obtain ⟨t6, rfl, h⟩ := h
  refine t_pure hs rfl rfl (by decide) (p_nil rfl rfl) ?_
  clear hs a; intro a hs
  refine t_pure hs rfl rfl (by decide) (p_fieldAddr rfl rfl ft_87_2) ?_
  clear hs a; intro a hs
  obtain ⟨w1, hw, hc, hf, hv, h⟩ := h
  refine t_skip hs rfl rfl (e_store rfl rfl rfl sz_3 hw hc hf hv) ?_
  clear hs a hw hc hf hv; intro a hs
  refine hK1 _ _ ?_
  refine wp_seq_k fun K2 hK2 => ?_
  refine wp_region_lit ?_
  refine t_pure hs rfl rfl (by decide) (p_move rfl rfl) ?_
  clear hs a; intro a hs
  refine t_pure hs rfl rfl (by decide) (p_lt rfl rfl rfl) ?_
  clear hs a; intro a hs
  refine hK2 _ _ ?_
  refine c_cond hs rfl (fun hb => ?_) (fun hb => ?_)
  · replace h := h.1 hb
    clear hb
    refine wp_region_lit ?_
    refine t_pure hs rfl rfl (by decide) (p_move rfl rfl) ?_
    clear hs a; intro a hs
    refine t_pure hs rfl rfl (by decide) (p_nil rfl rfl) ?_
    clear hs a; intro a hs
    refine t_pure hs rfl rfl (by decide) (p_fieldAddr rfl rfl ft_87_2) ?_
    clear hs a; intro a hs
    obtain ⟨w1, hw, hc, hf, hv, h⟩ := h
    refine t_skip hs rfl rfl (e_store rfl rfl rfl sz_3 hw hc hf hv) ?_
    clear hs a hw hc hf hv; intro a hs
    refine f_end (fn := Try.f41) hs (fun a hs => r_many hs (rs := []) (vs := []) rfl (by decide) trivial) ⟨rfl, h⟩
  · replace h := h.2 hb
    clear hb
    refine wp_skip ?_
    refine f_end (fn := Try.f41) hs (fun a hs => r_many hs (rs := []) (vs := []) rfl (by decide) trivial) ⟨rfl, h⟩
def ref03_Disk_Used.b1 (Q : Int → K)  (X1 : Int → Int → K) (d0_1 : (Option Addr)) (n3_1 : Int) (i4_1 : Int) : K :=
  Nn d0_1 fun t7 =>
  Ld (t7.add 1) Sl.val fun t9 =>
  Ite (decide (i4_1 < (t9.n : Int)))
    (Ld (t7.add 1) Sl.val fun t18 =>
    Idx t18 i4_1 3 fun t20 =>
    Ld (t20.add 1) Sl.val fun t22 =>
    Ar (IntKind.wrap .i64 (n3_1 + (t22.n : Int))) fun t24 =>
    Ar (IntKind.wrap .i64 (i4_1 + 1)) fun t13 =>
    X1 t24 t13)
    (Q n3_1)
def ref03_Disk_Used (d0 : (Option Addr)) (Q : Int → K) : K :=
  LoopK (α := Int × Int) (fun X x => ref03_Disk_Used.b1 Q (fun n3_1 i4_1 => X (n3_1, i4_1)) d0 x.1 x.2) (0, 0)
theorem ref03_Disk_Used_ok (d0 : (Option Addr)) (Q : Int → K) (w : World) (h : ref03_Disk_Used d0 Q w) : ref03_Disk_Used.call d0 Q w := by
  unfold ref03_Disk_Used.call CallF
  refine f_start (args := [(.pointer d0)]) Try.func55 rfl (Nat.le_of_ble_eq_true rfl) ?_
  intro a hs
  unfold ref03_Disk_Used at h
  refine wp_seq_k fun K1 hK1 => ?_
  refine wp_region_lit ?_
  refine t_pure hs rfl rfl (by decide) (p_assign rfl rfl) ?_
  clear hs a; intro a hs
  refine hK1 _ _ ?_
  refine wp_seq_k fun K2 hK2 => ?_
  refine wp_region_lit ?_
  refine t_pure hs rfl rfl (by decide) (p_assign rfl rfl) ?_
  clear hs a; intro a hs
  refine hK2 _ _ ?_
  refine wp_seq_k fun K3 hK3 => ?_
  refine wp_seq_k fun K4 hK4 => ?_
  refine wp_region_lit ?_
  refine t_pure hs rfl rfl (by decide) (p_assign rfl rfl) ?_
  clear hs a; intro a hs
  refine hK4 _ _ ?_
  refine wp_block ?_
  obtain ⟨I1, μ1, h0, hr⟩ := h
  refine c_loop (α := Int × Int) I1 μ1 (fun x a => Slots a 26 [(0, (.pointer d0)), (3, (.int .i64 x.1)), (4, (.int .i64 x.2))]) (0, 0) h0 (hs.to ⟨rfl, rfl, rfl, trivial⟩) ?_
  clear h0 hs a
  rintro ⟨n3_1, i4_1⟩ a w hI hs
  have h : ref03_Disk_Used.b1 Q (fun n3_1n i4_1n w' => I1 (n3_1n, i4_1n) w' ∧ μ1 (n3_1n, i4_1n) w' < μ1 (n3_1, i4_1) w) d0 n3_1 i4_1 w := hr (n3_1, i4_1) w hI
  clear hr hI
  generalize hX1 : (fun n3_1n i4_1n w' => I1 (n3_1n, i4_1n) w' ∧ μ1 (n3_1n, i4_1n) w' < μ1 (n3_1, i4_1) w) = X1 at h
  unfold ref03_Disk_Used.b1 at h
  replace hs : Slots a 26 [(0, (.pointer d0)), (3, (.int .i64 n3_1)), (4, (.int .i64 i4_1))] := hs
  refine wp_seq_k fun K5 hK5 => ?_
  refine wp_seq_k fun K6 hK6 => ?_
  refine wp_region_lit ?_
  refine t_pure hs rfl rfl (by decide) (p_move rfl rfl) ?_
  clear hs a; intro a hs
  refine t_pure hs rfl rfl (by decide) (p_move rfl rfl) ?_
  clear hs a; intro a hs
  obtain ⟨t7, rfl, h⟩ := h
  refine t_pure hs rfl rfl (by decide) (p_nil rfl rfl) ?_
  clear hs a; intro a hs
  refine t_pure hs rfl rfl (by decide) (p_fieldAddr rfl rfl ft_87_1) ?_
  clear hs a; intro a hs
  obtain ⟨t9, hv, h⟩ := h
  refine t_eff hs rfl rfl (by decide) (e_load rfl rfl ct_85 hv) ?_
  clear hs a hv; intro a hs
  refine t_pure hs rfl rfl (by decide) (p_len rfl rfl sl_85) ?_
  clear hs a; intro a hs
  refine t_pure hs rfl rfl (by decide) (p_lt rfl rfl rfl) ?_
  clear hs a; intro a hs
  refine hK6 _ _ ?_
  refine c_cond hs rfl (fun hb => ?_) (fun hb => ?_)
  · replace h := h.1 hb
    clear hb
    refine wp_skip ?_
    refine hK5 _ _ ?_
    refine wp_seq_k fun K7 hK7 => ?_
    refine wp_block ?_
    refine wp_region_lit ?_
    refine t_pure hs rfl rfl (by decide) (p_move rfl rfl) ?_
    clear hs a; intro a hs
    refine t_pure hs rfl rfl (by decide) (p_move rfl rfl) ?_
    clear hs a; intro a hs
    refine t_pure hs rfl rfl (by decide) (p_nil rfl rfl) ?_
    clear hs a; intro a hs
    refine t_pure hs rfl rfl (by decide) (p_fieldAddr rfl rfl ft_87_1) ?_
    clear hs a; intro a hs
    obtain ⟨t18, hv, h⟩ := h
    refine t_eff hs rfl rfl (by decide) (e_load rfl rfl ct_85 hv) ?_
    clear hs a hv; intro a hs
    refine t_pure hs rfl rfl (by decide) (p_move rfl rfl) ?_
    clear hs a; intro a hs
    obtain ⟨qt20, t20, ha, h0, h1, he, h⟩ := h
    refine t_pure hs rfl rfl (by decide) (Pure.adr he (p_idx rfl rfl rfl sl_85 ha h0 h1)) ?_
    clear hs a ha h0 h1 he; intro a hs
    refine t_pure hs rfl rfl (by decide) (p_fieldAddr rfl rfl ft_89_1) ?_
    clear hs a; intro a hs
    replace hs := hs.to (τ := [(0, (.pointer (some t7))), (4, (.int .i64 i4_1)), (14, (.int .i64 n3_1)), (21, (.pointer (some (t20.add 1))))]) ⟨rfl, rfl, rfl, rfl, trivial⟩
    obtain ⟨t22, hv, h⟩ := h
    refine t_eff hs rfl rfl (by decide) (e_load rfl rfl ct_33 hv) ?_
    clear hs a hv; intro a hs
    refine t_pure hs rfl rfl (by decide) (p_len rfl rfl sl_33) ?_
    clear hs a; intro a hs
    obtain ⟨t24, he, h⟩ := h
    refine t_pure hs rfl rfl (by decide) (Pure.int he (p_add rfl rfl rfl)) ?_
    clear hs a he; intro a hs
    refine t_pure hs rfl rfl (by decide) (p_assign rfl rfl) ?_
    clear hs a; intro a hs
    refine hK7 _ _ ?_
    refine wp_region_lit ?_
    refine t_pure hs rfl rfl (by decide) (p_move rfl rfl) ?_
    clear hs a; intro a hs
    obtain ⟨t13, he, h⟩ := h
    refine t_pure hs rfl rfl (by decide) (Pure.int he (p_add rfl rfl rfl)) ?_
    clear hs a he; intro a hs
    refine t_pure hs rfl rfl (by decide) (p_assign rfl rfl) ?_
    clear hs a; intro a hs
    rw [← hX1] at h
    exact ⟨(t24, t13), hs.to ⟨rfl, rfl, rfl, trivial⟩, h⟩
  · replace h := h.2 hb
    clear hb
    refine wp_exit ?_
    refine hK3 _ _ ?_
    refine wp_seq_k fun K8 hK8 => ?_
    refine wp_region_lit ?_
    refine t_pure hs rfl rfl (by decide) (p_move rfl rfl) ?_
    clear hs a; intro a hs
    refine t_pure hs rfl rfl (by decide) (p_assign rfl rfl) ?_
    clear hs a; intro a hs
    refine hK8 _ _ ?_
    refine wp_ret ?_
    refine f_ret (fn := Try.f55) hs (fun a hs => r_one hs rfl (rfl)) ⟨n3_1, rfl, h⟩
def ref03_Disk_Read (d0 : (Option Addr)) (name1 : ByteArray) (Q : Sl → Int → K) : K :=
  ref03_Disk_find.call d0 name1 fun t11x0 t11x1 =>
  Ite (decide (t11x1 ≠ 0))
    (New 5 #[] fun t16 =>
    Q (Sl.mk (some t16) 0 0) t11x1)
    (New 5 #[] fun t18 =>
    Nn d0 fun t20 =>
    Ld (t20.add 1) Sl.val fun t22 =>
    Idx t22 t11x0 3 fun t24 =>
    Ld (t24.add 1) Sl.val fun t26 =>
    Do Try.prog (Builtin.append_ #[33, 33] 33 #[(Sl.val (Sl.mk (some t18) 0 0)), (Sl.val t26)]) Sl.val fun t27 =>
    Q t27 0)
theorem ref03_Disk_Read_ok (d0 : (Option Addr)) (name1 : ByteArray) (Q : Sl → Int → K) (w : World) (h : ref03_Disk_Read d0 name1 Q w) : ref03_Disk_Read.call d0 name1 Q w := by
  unfold ref03_Disk_Read.call CallF
  refine f_start (args := [(.pointer d0), (.string name1)]) Try.func56 rfl (Nat.le_of_ble_eq_true rfl) ?_
  intro a hs
  unfold ref03_Disk_Read at h
  refine wp_seq_k fun K1 hK1 => ?_
  refine wp_region_lit ?_
  refine t_pure hs rfl rfl (by decide) (p_assign rfl rfl) ?_
  clear hs a; intro a hs
  refine t_pure hs rfl rfl (by decide) (p_assign rfl rfl) ?_
  clear hs a; intro a hs
  refine hK1 _ _ ?_
  refine wp_seq_k fun K2 hK2 => ?_
  refine wp_region_lit ?_
  refine t_pure hs rfl rfl (by decide) (p_move rfl rfl) ?_
  clear hs a; intro a hs
  refine t_pure hs rfl rfl (by decide) (p_move rfl rfl) ?_
  clear hs a; intro a hs
  refine t_call hs rfl rfl (by decide) (e_call rfl rfl rfl cb_74) h ?_
  clear hs a h
  intro v a w hk hs
  obtain ⟨t11x0, t11x1, rfl, h⟩ := hk
  refine t_pure hs rfl rfl (by decide) (p_move rfl rfl) ?_
  clear hs a; intro a hs
  refine t_pure hs rfl rfl (by decide) (p_extract rfl rfl rfl) ?_
  clear hs a; intro a hs
  refine t_pure hs rfl rfl (by decide) (p_extract rfl rfl rfl) ?_
  clear hs a; intro a hs
  refine t_pure hs rfl rfl (by decide) (p_assign rfl rfl) ?_
  clear hs a; intro a hs
  refine t_pure hs rfl rfl (by decide) (p_assign rfl rfl) ?_
  clear hs a; intro a hs
  refine hK2 _ _ ?_
  refine wp_seq_k fun K3 hK3 => ?_
  refine wp_seq_k fun K4 hK4 => ?_
  refine wp_region_lit ?_
  refine t_pure hs rfl rfl (by decide) (p_move rfl rfl) ?_
  clear hs a; intro a hs
  refine t_pure hs rfl rfl (by decide) (p_ne rfl rfl rfl) ?_
  clear hs a; intro a hs
  refine hK4 _ _ ?_
  refine c_cond hs rfl (fun hb => ?_) (fun hb => ?_)
  · replace h := h.1 hb
    clear hb
    refine wp_seq_k fun K5 hK5 => ?_
    refine wp_region_lit ?_
    obtain ⟨t16, w1, ha, hw, h⟩ := h
    refine t_eff hs rfl rfl (by decide) (e_buildSlice (z := #[]) (cs := #[]) rfl sl_33 zt_5 (by decide) rfl rz_5_0 (by rfl) ha hw) ?_
    clear hs a ha hw; intro a hs
    refine t_pure hs rfl rfl (by decide) (p_move rfl rfl) ?_
    clear hs a; intro a hs
    refine t_pure hs rfl rfl (by decide) (p_assign rfl rfl) ?_
    clear hs a; intro a hs
    refine t_pure hs rfl rfl (by decide) (p_assign rfl rfl) ?_
    clear hs a; intro a hs
    refine hK5 _ _ ?_
    refine wp_ret ?_
    refine f_ret (fn := Try.f56) hs (fun a hs => r_many hs (rs := [ResultVar.tmp 4, ResultVar.tmp 5]) (vs := [(Sl.val (Sl.mk (some t16) 0 0)), (.int .i64 t11x1)]) rfl (by decide) ⟨rfl, rfl, trivial⟩) ⟨(Sl.mk (some t16) 0 0), t11x1, rfl, h⟩
  · replace h := h.2 hb
    clear hb
    refine wp_skip ?_
    refine hK3 _ _ ?_
    refine wp_seq_k fun K6 hK6 => ?_
    refine wp_region_lit ?_
    obtain ⟨t18, w1, ha, hw, h⟩ := h
    refine t_eff hs rfl rfl (by decide) (e_buildSlice (z := #[]) (cs := #[]) rfl sl_33 zt_5 (by decide) rfl rz_5_0 (by rfl) ha hw) ?_
    clear hs a ha hw; intro a hs
    refine t_pure hs rfl rfl (by decide) (p_move rfl rfl) ?_
    clear hs a; intro a hs
    obtain ⟨t20, rfl, h⟩ := h
    refine t_pure hs rfl rfl (by decide) (p_nil rfl rfl) ?_
    clear hs a; intro a hs
    refine t_pure hs rfl rfl (by decide) (p_fieldAddr rfl rfl ft_87_1) ?_
    clear hs a; intro a hs
    obtain ⟨t22, hv, h⟩ := h
    refine t_eff hs rfl rfl (by decide) (e_load rfl rfl ct_85 hv) ?_
    clear hs a hv; intro a hs
    refine t_pure hs rfl rfl (by decide) (p_move rfl rfl) ?_
    clear hs a; intro a hs
    obtain ⟨qt24, t24, ha, h0, h1, he, h⟩ := h
    refine t_pure hs rfl rfl (by decide) (Pure.adr he (p_idx rfl rfl rfl sl_85 ha h0 h1)) ?_
    clear hs a ha h0 h1 he; intro a hs
    refine t_pure hs rfl rfl (by decide) (p_fieldAddr rfl rfl ft_89_1) ?_
    clear hs a; intro a hs
    replace hs := hs.to (τ := [(18, (Sl.val (Sl.mk (some t18) 0 0))), (25, (.pointer (some (t24.add 1))))]) ⟨rfl, rfl, trivial⟩
    obtain ⟨t26, hv, h⟩ := h
    refine t_eff hs rfl rfl (by decide) (e_load rfl rfl ct_33 hv) ?_
    clear hs a hv; intro a hs
    obtain ⟨t27, w1, hd, h⟩ := h
    refine t_eff hs rfl rfl (by decide) (e_append rfl rfl rfl rfl hd) ?_
    clear hs a hd; intro a hs
    refine t_pure hs rfl rfl (by decide) (p_assign rfl rfl) ?_
    clear hs a; intro a hs
    refine t_pure hs rfl rfl (by decide) (p_assign rfl rfl) ?_
    clear hs a; intro a hs
    refine hK6 _ _ ?_
    refine wp_ret ?_
    refine f_ret (fn := Try.f56) hs (fun a hs => r_many hs (rs := [ResultVar.tmp 4, ResultVar.tmp 5]) (vs := [(Sl.val t27), (.int .i64 0)]) rfl (by decide) ⟨rfl, rfl, trivial⟩) ⟨t27, 0, rfl, h⟩
def ref03_Disk_Sync (d0 : (Option Addr)) (name1 : ByteArray) (Q : Int → K) : K :=
  ref03_Disk_find.call d0 name1 fun t10x0 t10x1 =>
  Ite (decide (t10x1 ≠ 0))
    (Q t10x1)
    (ref03_Disk_use.call d0 fun t17 =>
    Ite (!t17)
      (Q 3)
      (Dr <|
      Nn d0 fun t20 =>
      Ld (t20.add 1) Sl.val fun t22 =>
      Ld (t20.add 1) Sl.val fun t27 =>
      Idx t27 t10x0 3 fun t29 =>
      Ld (t29.add 1) Sl.val fun t31 =>
      Idx t22 t10x0 3 fun t33 =>
      St (t33.add 2) (.int .i64 (t31.n : Int)) <|
      Q 0))
theorem ref03_Disk_Sync_ok (d0 : (Option Addr)) (name1 : ByteArray) (Q : Int → K) (w : World) (h : ref03_Disk_Sync d0 name1 Q w) : ref03_Disk_Sync.call d0 name1 Q w := by
  unfold ref03_Disk_Sync.call CallF
  refine f_start (args := [(.pointer d0), (.string name1)]) Try.func58 rfl (Nat.le_of_ble_eq_true rfl) ?_
  intro a hs
  unfold ref03_Disk_Sync at h
  refine wp_seq_k fun K1 hK1 => ?_
  refine wp_region_lit ?_
  refine t_pure hs rfl rfl (by decide) (p_assign rfl rfl) ?_
  clear hs a; intro a hs
  refine hK1 _ _ ?_
  refine wp_seq_k fun K2 hK2 => ?_
  refine wp_region_lit ?_
  refine t_pure hs rfl rfl (by decide) (p_move rfl rfl) ?_
  clear hs a; intro a hs
  refine t_pure hs rfl rfl (by decide) (p_move rfl rfl) ?_
  clear hs a; intro a hs
  refine t_call hs rfl rfl (by decide) (e_call rfl rfl rfl cb_74) h ?_
  clear hs a h
  intro v a w hk hs
  obtain ⟨t10x0, t10x1, rfl, h⟩ := hk
  refine t_pure hs rfl rfl (by decide) (p_move rfl rfl) ?_
  clear hs a; intro a hs
  refine t_pure hs rfl rfl (by decide) (p_extract rfl rfl rfl) ?_
  clear hs a; intro a hs
  refine t_pure hs rfl rfl (by decide) (p_extract rfl rfl rfl) ?_
  clear hs a; intro a hs
  refine t_pure hs rfl rfl (by decide) (p_assign rfl rfl) ?_
  clear hs a; intro a hs
  refine t_pure hs rfl rfl (by decide) (p_assign rfl rfl) ?_
  clear hs a; intro a hs
  refine hK2 _ _ ?_
  refine wp_seq_k fun K3 hK3 => ?_
  refine wp_seq_k fun K4 hK4 => ?_
  refine wp_region_lit ?_
  refine t_pure hs rfl rfl (by decide) (p_move rfl rfl) ?_
  clear hs a; intro a hs
  refine t_pure hs rfl rfl (by decide) (p_ne rfl rfl rfl) ?_
  clear hs a; intro a hs
  refine hK4 _ _ ?_
  refine c_cond hs rfl (fun hb => ?_) (fun hb => ?_)
  · replace h := h.1 hb
    clear hb
    refine wp_seq_k fun K5 hK5 => ?_
    refine wp_region_lit ?_
    refine t_pure hs rfl rfl (by decide) (p_move rfl rfl) ?_
    clear hs a; intro a hs
    refine t_pure hs rfl rfl (by decide) (p_assign rfl rfl) ?_
    clear hs a; intro a hs
    refine hK5 _ _ ?_
    refine wp_ret ?_
    refine f_ret (fn := Try.f58) hs (fun a hs => r_one hs rfl (rfl)) ⟨t10x1, rfl, h⟩
  · replace h := h.2 hb
    clear hb
    refine wp_skip ?_
    refine hK3 _ _ ?_
    refine wp_seq_k fun K6 hK6 => ?_
    refine wp_seq_k fun K7 hK7 => ?_
    refine wp_region_lit ?_
    refine t_pure hs rfl rfl (by decide) (p_move rfl rfl) ?_
    clear hs a; intro a hs
    refine t_call hs rfl rfl (by decide) (e_call rfl rfl rfl cb_75) h ?_
    clear hs a h
    intro v a w hk hs
    obtain ⟨t17, rfl, h⟩ := hk
    refine t_pure hs rfl rfl (by decide) (p_not rfl rfl) ?_
    clear hs a; intro a hs
    refine hK7 _ _ ?_
    refine c_cond hs rfl (fun hb => ?_) (fun hb => ?_)
    · replace h := h.1 hb
      clear hb
      refine wp_seq_k fun K8 hK8 => ?_
      refine wp_region_lit ?_
      refine t_pure hs rfl rfl (by decide) (p_assign rfl rfl) ?_
      clear hs a; intro a hs
      refine hK8 _ _ ?_
      refine wp_ret ?_
      refine f_ret (fn := Try.f58) hs (fun a hs => r_one hs rfl (rfl)) ⟨3, rfl, h⟩
    · replace h := h.2 hb
      clear hb
      refine wp_skip ?_
      refine hK6 _ _ ?_
      refine wp_seq_k fun K9 hK9 => ?_
      obtain ⟨w1, hw1, h⟩ := h
      refine d_start (S := Is w1) (ds := [16]) #[false, false, false, false, false, false, false, false, false, false, false, false, false, false, false, false, false] mixed rfl rfl ?_
      rw [← hw1]
      have hS := Is.intro w1
      clear hw1
      refine d_pure hs #[true, false, false, false, false, false, false, false, false, false, false, false, false, false, false, false, false] (i := 0) rfl rfl rfl (by decide) (by kernel_rfl) (tight_body (P := Try.prog) (fn := Try.f58)) (p_move rfl rfl) ?_
      clear hs a; intro a hs
      obtain ⟨t20, rfl, h⟩ := h
      refine d_pure hs #[true, true, false, false, false, false, false, false, false, false, false, false, false, false, false, false, false] (i := 1) rfl rfl rfl (by decide) (by kernel_rfl) (tight_body (P := Try.prog) (fn := Try.f58)) (p_nil rfl rfl) ?_
      clear hs a; intro a hs
      refine d_pure hs #[true, true, true, false, false, false, false, false, false, false, false, false, false, false, false, false, false] (i := 2) rfl rfl rfl (by decide) (by kernel_rfl) (tight_body (P := Try.prog) (fn := Try.f58)) (p_fieldAddr rfl rfl ft_87_1) ?_
      clear hs a; intro a hs
      refine d_pure hs #[true, true, true, false, true, false, false, false, false, false, false, false, false, false, false, false, false] (i := 4) rfl rfl rfl (by decide) (by kernel_rfl) (tight_body (P := Try.prog) (fn := Try.f58)) (p_move rfl rfl) ?_
      clear hs a; intro a hs
      refine d_pure hs #[true, true, true, false, true, true, false, false, false, false, false, false, false, false, false, false, false] (i := 5) rfl rfl rfl (by decide) (by kernel_rfl) (tight_body (P := Try.prog) (fn := Try.f58)) (p_move rfl rfl) ?_
      clear hs a; intro a hs
      refine d_pure hs #[true, true, true, false, true, true, true, false, false, false, false, false, false, false, false, false, false] (i := 6) rfl rfl rfl (by decide) (by kernel_rfl) (tight_body (P := Try.prog) (fn := Try.f58)) (p_nil rfl rfl) ?_
      clear hs a; intro a hs
      refine d_pure hs #[true, true, true, false, true, true, true, true, false, false, false, false, false, false, false, false, false] (i := 7) rfl rfl rfl (by decide) (by kernel_rfl) (tight_body (P := Try.prog) (fn := Try.f58)) (p_fieldAddr rfl rfl ft_87_1) ?_
      clear hs a; intro a hs
      refine d_pure hs #[true, true, true, false, true, true, true, true, false, true, false, false, false, false, false, false, false] (i := 9) rfl rfl rfl (by decide) (by kernel_rfl) (tight_body (P := Try.prog) (fn := Try.f58)) (p_move rfl rfl) ?_
      clear hs a; intro a hs
      replace hs := hs.to (τ := [(21, (.pointer (some (t20.add 1)))), (23, (.int .i64 t10x0)), (26, (.pointer (some (t20.add 1)))), (28, (.int .i64 t10x0))]) ⟨rfl, rfl, rfl, rfl, trivial⟩
      obtain ⟨t22, hv, h⟩ := h
      refine d_read hs #[true, true, true, true, true, true, true, true, false, true, false, false, false, false, false, false, false] (i := 3) rfl rfl rfl (by decide) (by kernel_rfl) (by kernel_rfl) (tight_body (P := Try.prog) (fn := Try.f58)) hS (fun w h' => by have h1 := h'.out; subst h1; exact e_load rfl rfl ct_85 hv) ?_
      clear hs a hv; intro a hs
      obtain ⟨t27, hv, h⟩ := h
      refine d_read hs #[true, true, true, true, true, true, true, true, true, true, false, false, false, false, false, false, false] (i := 8) rfl rfl rfl (by decide) (by kernel_rfl) (by kernel_rfl) (tight_body (P := Try.prog) (fn := Try.f58)) hS (fun w h' => by have h1 := h'.out; subst h1; exact e_load rfl rfl ct_85 hv) ?_
      clear hs a hv; intro a hs
      obtain ⟨qt29, t29, ha, h0, h1, he, h⟩ := h
      refine d_pure hs #[true, true, true, true, true, true, true, true, true, true, true, false, false, false, false, false, false] (i := 10) rfl rfl rfl (by decide) (by kernel_rfl) (tight_body (P := Try.prog) (fn := Try.f58)) (Pure.adr he (p_idx rfl rfl rfl sl_85 ha h0 h1)) ?_
      clear hs a ha h0 h1 he; intro a hs
      refine d_pure hs #[true, true, true, true, true, true, true, true, true, true, true, true, false, false, false, false, false] (i := 11) rfl rfl rfl (by decide) (by kernel_rfl) (tight_body (P := Try.prog) (fn := Try.f58)) (p_fieldAddr rfl rfl ft_89_1) ?_
      clear hs a; intro a hs
      obtain ⟨t31, hv, h⟩ := h
      refine d_read hs #[true, true, true, true, true, true, true, true, true, true, true, true, true, false, false, false, false] (i := 12) rfl rfl rfl (by decide) (by kernel_rfl) (by kernel_rfl) (tight_body (P := Try.prog) (fn := Try.f58)) hS (fun w h' => by have h1 := h'.out; subst h1; exact e_load rfl rfl ct_33 hv) ?_
      clear hs a hv; intro a hs
      refine d_pure hs #[true, true, true, true, true, true, true, true, true, true, true, true, true, true, false, false, false] (i := 13) rfl rfl rfl (by decide) (by kernel_rfl) (tight_body (P := Try.prog) (fn := Try.f58)) (p_len rfl rfl sl_33) ?_
      clear hs a; intro a hs
      obtain ⟨qt33, t33, ha, h0, h1, he, h⟩ := h
      refine d_pure hs #[true, true, true, true, true, true, true, true, true, true, true, true, true, true, true, false, false] (i := 14) rfl rfl rfl (by decide) (by kernel_rfl) (tight_body (P := Try.prog) (fn := Try.f58)) (Pure.adr he (p_idx rfl rfl rfl sl_85 ha h0 h1)) ?_
      clear hs a ha h0 h1 he; intro a hs
      refine d_pure hs #[true, true, true, true, true, true, true, true, true, true, true, true, true, true, true, true, false] (i := 15) rfl rfl rfl (by decide) (by kernel_rfl) (tight_body (P := Try.prog) (fn := Try.f58)) (p_fieldAddr rfl rfl ft_89_2) ?_
      clear hs a; intro a hs
      replace hs := hs.to (τ := [(32, (.int .i64 (t31.n : Int))), (34, (.pointer (some (t33.add 2))))]) ⟨rfl, rfl, trivial⟩
      refine d_all [16] (by kernel_rfl) (by decide) ?_
      refine AllS.cons ?_ AllS.nil
      obtain ⟨w1, hw, hc, hf, hv, h⟩ := h
      refine d_skip hs #[true, true, true, true, true, true, true, true, true, true, true, true, true, true, true, true, true] (i := 16) rfl rfl rfl rfl (e_store rfl rfl rfl sz_3 hw hc hf hv) (fun hn => (hn (by decide)).elim) ?_
      clear hs a hw hc hf hv; intro a hs
      refine d_done (by kernel_rfl) ?_ _
      clear hS
      refine hK9 _ _ ?_
      refine wp_seq_k fun K10 hK10 => ?_
      refine wp_region_lit ?_
      refine t_pure hs rfl rfl (by decide) (p_assign rfl rfl) ?_
      clear hs a; intro a hs
      refine hK10 _ _ ?_
      refine wp_ret ?_
      refine f_ret (fn := Try.f58) hs (fun a hs => r_one hs rfl (rfl)) ⟨0, rfl, h⟩
def ref03_Disk_Rename.s1 (Q : Int → K)  (d0_1 : (Option Addr)) (from1_1 : ByteArray) (to2_1 : ByteArray) (i7_1 : Int) (t26_1 : Bool) : K :=
  Ite t26_1
    (Q 1)
    (ref03_Disk_use.call d0_1 fun t28 =>
    Ite (!t28)
      (Q 3)
      (Nn d0_1 fun t31 =>
      Ld (t31.add 1) Sl.val fun t33 =>
      Idx t33 i7_1 3 fun t35 =>
      LdN t35 3 fun t36 =>
      New 89 #[(.string ⟨#[]⟩), (Sl.val ⟨none, 0, 0⟩), (.int .i64 0)] fun f9 =>
      StN f9 3 t36 <|
      ref03_Disk_drop.call (some t31) from1_1 <|
      ref03_Disk_drop.call (some t31) to2_1 <|
      St f9 (.string to2_1) <|
      LdN f9 3 fun t46 =>
      ref03_Disk_put.call (some t31) t46 <|
      Q 0))
def ref03_Disk_Rename (d0 : (Option Addr)) (from1 : ByteArray) (to2 : ByteArray) (Q : Int → K) : K :=
  ref03_Disk_find.call d0 from1 fun t13x0 t13x1 =>
  Ite (decide (t13x1 ≠ 0))
    (Q t13x1)
    (Ite (decide ((to2.size : Int) < 1))
      (ref03_Disk_Rename.s1 Q d0 from1 to2 t13x0 true)
      (ref03_Disk_Rename.s1 Q d0 from1 to2 t13x0 (decide ((16 : Int) < (to2.size : Int)))))
theorem ref03_Disk_Rename_ok (d0 : (Option Addr)) (from1 : ByteArray) (to2 : ByteArray) (Q : Int → K) (w : World) (h : ref03_Disk_Rename d0 from1 to2 Q w) : ref03_Disk_Rename.call d0 from1 to2 Q w := by
  unfold ref03_Disk_Rename.call CallF
  refine f_start (args := [(.pointer d0), (.string from1), (.string to2)]) Try.func59 rfl (Nat.le_of_ble_eq_true rfl) ?_
  intro a hs
  unfold ref03_Disk_Rename at h
  refine wp_seq_k fun K1 hK1 => ?_
  refine wp_region_lit ?_
  refine t_pure hs rfl rfl (by decide) (p_assign rfl rfl) ?_
  clear hs a; intro a hs
  refine hK1 _ _ ?_
  refine wp_seq_k fun K2 hK2 => ?_
  refine wp_region_lit ?_
  refine t_pure hs rfl rfl (by decide) (p_move rfl rfl) ?_
  clear hs a; intro a hs
  refine t_pure hs rfl rfl (by decide) (p_move rfl rfl) ?_
  clear hs a; intro a hs
  refine t_call hs rfl rfl (by decide) (e_call rfl rfl rfl cb_74) h ?_
  clear hs a h
  intro v a w hk hs
  obtain ⟨t13x0, t13x1, rfl, h⟩ := hk
  refine t_pure hs rfl rfl (by decide) (p_move rfl rfl) ?_
  clear hs a; intro a hs
  refine t_pure hs rfl rfl (by decide) (p_extract rfl rfl rfl) ?_
  clear hs a; intro a hs
  refine t_pure hs rfl rfl (by decide) (p_extract rfl rfl rfl) ?_
  clear hs a; intro a hs
  refine t_pure hs rfl rfl (by decide) (p_assign rfl rfl) ?_
  clear hs a; intro a hs
  refine t_pure hs rfl rfl (by decide) (p_assign rfl rfl) ?_
  clear hs a; intro a hs
  refine hK2 _ _ ?_
  refine wp_seq_k fun K3 hK3 => ?_
  refine wp_seq_k fun K4 hK4 => ?_
  refine wp_region_lit ?_
  refine t_pure hs rfl rfl (by decide) (p_move rfl rfl) ?_
  clear hs a; intro a hs
  refine t_pure hs rfl rfl (by decide) (p_ne rfl rfl rfl) ?_
  clear hs a; intro a hs
  refine hK4 _ _ ?_
  refine c_cond hs rfl (fun hb => ?_) (fun hb => ?_)
  · replace h := h.1 hb
    clear hb
    refine wp_seq_k fun K5 hK5 => ?_
    refine wp_region_lit ?_
    refine t_pure hs rfl rfl (by decide) (p_move rfl rfl) ?_
    clear hs a; intro a hs
    refine t_pure hs rfl rfl (by decide) (p_assign rfl rfl) ?_
    clear hs a; intro a hs
    refine hK5 _ _ ?_
    refine wp_ret ?_
    refine f_ret (fn := Try.f59) hs (fun a hs => r_one hs rfl (rfl)) ⟨t13x1, rfl, h⟩
  · replace h := h.2 hb
    clear hb
    refine wp_skip ?_
    refine hK3 _ _ ?_
    refine wp_seq_k fun K6 hK6 => ?_
    refine wp_seq_k fun K7 hK7 => ?_
    have J1 : ∀ (t26_1 : Bool) (a : Act) (w : World), Slots a 48 [(0, (.pointer d0)), (1, (.string from1)), (2, (.string to2)), (7, (.int .i64 t13x0)), (26, (.bool t26_1))] → ref03_Disk_Rename.s1 Q d0 from1 to2 t13x0 t26_1 w → K7 a w := by
      clear h hs
      intro t26_1 a w hs h
      refine hK7 _ _ ?_
      unfold ref03_Disk_Rename.s1 at h
      refine c_cond hs rfl (fun hb => ?_) (fun hb => ?_)
      · replace h := h.1 hb
        clear hb
        refine wp_seq_k fun K8 hK8 => ?_
        refine wp_region_lit ?_
        refine t_pure hs rfl rfl (by decide) (p_assign rfl rfl) ?_
        clear hs a; intro a hs
        refine hK8 _ _ ?_
        refine wp_ret ?_
        refine f_ret (fn := Try.f59) hs (fun a hs => r_one hs rfl (rfl)) ⟨1, rfl, h⟩
      · replace h := h.2 hb
        clear hb
        refine wp_skip ?_
        refine hK6 _ _ ?_
        refine wp_seq_k fun K9 hK9 => ?_
        refine wp_seq_k fun K10 hK10 => ?_
        refine wp_region_lit ?_
        refine t_pure hs rfl rfl (by decide) (p_move rfl rfl) ?_
        clear hs a; intro a hs
        refine t_call hs rfl rfl (by decide) (e_call rfl rfl rfl cb_75) h ?_
        clear hs a h
        intro v a w hk hs
        obtain ⟨t28, rfl, h⟩ := hk
        refine t_pure hs rfl rfl (by decide) (p_not rfl rfl) ?_
        clear hs a; intro a hs
        refine hK10 _ _ ?_
        refine c_cond hs rfl (fun hb => ?_) (fun hb => ?_)
        · replace h := h.1 hb
          clear hb
          refine wp_seq_k fun K11 hK11 => ?_
          refine wp_region_lit ?_
          refine t_pure hs rfl rfl (by decide) (p_assign rfl rfl) ?_
          clear hs a; intro a hs
          refine hK11 _ _ ?_
          refine wp_ret ?_
          refine f_ret (fn := Try.f59) hs (fun a hs => r_one hs rfl (rfl)) ⟨3, rfl, h⟩
        · replace h := h.2 hb
          clear hb
          refine wp_skip ?_
          refine hK9 _ _ ?_
          refine wp_seq_k fun K12 hK12 => ?_
          refine wp_region_lit ?_
          refine t_pure hs rfl rfl (by decide) (p_move rfl rfl) ?_
          clear hs a; intro a hs
          obtain ⟨t31, rfl, h⟩ := h
          refine t_pure hs rfl rfl (by decide) (p_nil rfl rfl) ?_
          clear hs a; intro a hs
          refine t_pure hs rfl rfl (by decide) (p_fieldAddr rfl rfl ft_87_1) ?_
          clear hs a; intro a hs
          obtain ⟨t33, hv, h⟩ := h
          refine t_eff hs rfl rfl (by decide) (e_load rfl rfl ct_85 hv) ?_
          clear hs a hv; intro a hs
          refine t_pure hs rfl rfl (by decide) (p_move rfl rfl) ?_
          clear hs a; intro a hs
          obtain ⟨qt35, t35, ha, h0, h1, he, h⟩ := h
          refine t_pure hs rfl rfl (by decide) (Pure.adr he (p_idx rfl rfl rfl sl_85 ha h0 h1)) ?_
          clear hs a ha h0 h1 he; intro a hs
          obtain ⟨t36, hn, hv, h⟩ := h
          refine t_eff hs rfl rfl (by decide) (e_loadN rfl rfl at_89 hn hv) ?_
          clear hs a hn hv; intro a hs
          obtain ⟨f9, w1, ha, hw, h⟩ := h
          refine t_eff hs rfl rfl (by decide) (e_alloc rfl zt_89 rfl ha hw) ?_
          clear hs a ha hw; intro a hs
          replace hs := hs.to (τ := [(0, (.pointer (some t31))), (1, (.string from1)), (2, (.string to2)), (9, (.pointer (some f9))), (36, (.agg t36))]) ⟨rfl, rfl, rfl, rfl, rfl, trivial⟩
          obtain ⟨w1, hw, hn, hc, hv, h⟩ := h
          refine t_skip hs rfl rfl (e_storeN rfl rfl rfl sz_89 hw hn hc hv) ?_
          clear hs a hw hn hc hv; intro a hs
          refine hK12 _ _ ?_
          refine wp_seq_k fun K13 hK13 => ?_
          refine wp_region_lit ?_
          refine t_pure hs rfl rfl (by decide) (p_move rfl rfl) ?_
          clear hs a; intro a hs
          refine t_pure hs rfl rfl (by decide) (p_move rfl rfl) ?_
          clear hs a; intro a hs
          refine t_call hs rfl rfl (by decide) (e_call rfl rfl rfl cb_76) h ?_
          clear hs a h
          intro v a w hk hs
          obtain ⟨rfl, h⟩ := hk
          refine hK13 _ _ ?_
          refine wp_seq_k fun K14 hK14 => ?_
          refine wp_region_lit ?_
          refine t_pure hs rfl rfl (by decide) (p_move rfl rfl) ?_
          clear hs a; intro a hs
          refine t_pure hs rfl rfl (by decide) (p_move rfl rfl) ?_
          clear hs a; intro a hs
          refine t_call hs rfl rfl (by decide) (e_call rfl rfl rfl cb_76) h ?_
          clear hs a h
          intro v a w hk hs
          obtain ⟨rfl, h⟩ := hk
          refine hK14 _ _ ?_
          refine wp_seq_k fun K15 hK15 => ?_
          refine wp_region_lit ?_
          refine t_pure hs rfl rfl (by decide) (p_move rfl rfl) ?_
          clear hs a; intro a hs
          refine t_pure hs rfl rfl (by decide) (p_fieldAddr0 rfl rfl ft_89_0) ?_
          clear hs a; intro a hs
          obtain ⟨w1, hw, hc, hf, hv, h⟩ := h
          refine t_skip hs rfl rfl (e_store rfl rfl rfl sz_9 hw hc hf hv) ?_
          clear hs a hw hc hf hv; intro a hs
          refine hK15 _ _ ?_
          refine wp_seq_k fun K16 hK16 => ?_
          refine wp_region_lit ?_
          refine t_pure hs rfl rfl (by decide) (p_move rfl rfl) ?_
          clear hs a; intro a hs
          obtain ⟨t46, hn, hv, h⟩ := h
          refine t_eff hs rfl rfl (by decide) (e_loadN rfl rfl at_89 hn hv) ?_
          clear hs a hn hv; intro a hs
          refine t_call hs rfl rfl (by decide) (e_call rfl rfl rfl cb_77) h ?_
          clear hs a h
          intro v a w hk hs
          obtain ⟨rfl, h⟩ := hk
          refine hK16 _ _ ?_
          refine wp_seq_k fun K17 hK17 => ?_
          refine wp_region_lit ?_
          refine t_pure hs rfl rfl (by decide) (p_assign rfl rfl) ?_
          clear hs a; intro a hs
          refine hK17 _ _ ?_
          refine wp_ret ?_
          refine f_ret (fn := Try.f59) hs (fun a hs => r_one hs rfl (rfl)) ⟨0, rfl, h⟩
    clear hK7
    refine wp_region_lit ?_
    refine t_pure hs rfl rfl (by decide) (p_move rfl rfl) ?_
    clear hs a; intro a hs
    refine t_pure hs rfl rfl (by decide) (p_lens rfl rfl st_9) ?_
    clear hs a; intro a hs
    refine t_pure hs rfl rfl (by decide) (p_lt rfl rfl rfl) ?_
    clear hs a; intro a hs
    refine t_pure hs rfl rfl (by decide) (p_move rfl rfl) ?_
    clear hs a; intro a hs
    refine split_bool (decide ((to2.size : Int) < 1)) (fun hb => ?_) (fun hb => ?_)
    · replace h := h.1 hb
      rw [hb] at hs
      clear hb
      refine t_no hs rfl rfl (by decide) ?_
      clear hs a; intro a hs
      refine t_no hs rfl rfl (by decide) ?_
      clear hs a; intro a hs
      refine t_no hs rfl rfl (by decide) ?_
      clear hs a; intro a hs
      refine t_pure hs rfl rfl (by decide) (p_pick_t rfl rfl rfl) ?_
      clear hs a; intro a hs
      exact J1 true _ _ (hs.to ⟨rfl, rfl, rfl, rfl, rfl, trivial⟩) h
    · replace h := h.2 hb
      rw [hb] at hs
      clear hb
      refine t_yes hs rfl ?_
      refine t_pure hs rfl rfl (by decide) (p_move rfl rfl) ?_
      clear hs a; intro a hs
      refine t_yes hs rfl ?_
      refine t_pure hs rfl rfl (by decide) (p_lens rfl rfl st_9) ?_
      clear hs a; intro a hs
      refine t_yes hs rfl ?_
      refine t_pure hs rfl rfl (by decide) (p_gt rfl rfl rfl) ?_
      clear hs a; intro a hs
      refine t_pure hs rfl rfl (by decide) (p_pick_f rfl rfl rfl) ?_
      clear hs a; intro a hs
      exact J1 (decide ((16 : Int) < (to2.size : Int))) _ _ (hs.to ⟨rfl, rfl, rfl, rfl, rfl, trivial⟩) h
def ref03_Disk_Remove (d0 : (Option Addr)) (name1 : ByteArray) (Q : Int → K) : K :=
  ref03_Disk_find.call d0 name1 fun t10x0 t10x1 =>
  Ite (decide (t10x1 ≠ 0))
    (Q t10x1)
    (ref03_Disk_use.call d0 fun t17 =>
    Ite (!t17)
      (Q 3)
      (ref03_Disk_drop.call d0 name1 <|
      Q 0))
theorem ref03_Disk_Remove_ok (d0 : (Option Addr)) (name1 : ByteArray) (Q : Int → K) (w : World) (h : ref03_Disk_Remove d0 name1 Q w) : ref03_Disk_Remove.call d0 name1 Q w := by
  unfold ref03_Disk_Remove.call CallF
  refine f_start (args := [(.pointer d0), (.string name1)]) Try.func60 rfl (Nat.le_of_ble_eq_true rfl) ?_
  intro a hs
  unfold ref03_Disk_Remove at h
  refine wp_seq_k fun K1 hK1 => ?_
  refine wp_region_lit ?_
  refine t_pure hs rfl rfl (by decide) (p_assign rfl rfl) ?_
  clear hs a; intro a hs
  refine hK1 _ _ ?_
  refine wp_seq_k fun K2 hK2 => ?_
  refine wp_region_lit ?_
  refine t_pure hs rfl rfl (by decide) (p_move rfl rfl) ?_
  clear hs a; intro a hs
  refine t_pure hs rfl rfl (by decide) (p_move rfl rfl) ?_
  clear hs a; intro a hs
  refine t_call hs rfl rfl (by decide) (e_call rfl rfl rfl cb_74) h ?_
  clear hs a h
  intro v a w hk hs
  obtain ⟨t10x0, t10x1, rfl, h⟩ := hk
  refine t_pure hs rfl rfl (by decide) (p_move rfl rfl) ?_
  clear hs a; intro a hs
  refine t_pure hs rfl rfl (by decide) (p_extract rfl rfl rfl) ?_
  clear hs a; intro a hs
  refine t_pure hs rfl rfl (by decide) (p_extract rfl rfl rfl) ?_
  clear hs a; intro a hs
  refine t_pure hs rfl rfl (by decide) (p_assign rfl rfl) ?_
  clear hs a; intro a hs
  refine t_pure hs rfl rfl (by decide) (p_assign rfl rfl) ?_
  clear hs a; intro a hs
  refine hK2 _ _ ?_
  refine wp_seq_k fun K3 hK3 => ?_
  refine wp_seq_k fun K4 hK4 => ?_
  refine wp_region_lit ?_
  refine t_pure hs rfl rfl (by decide) (p_move rfl rfl) ?_
  clear hs a; intro a hs
  refine t_pure hs rfl rfl (by decide) (p_ne rfl rfl rfl) ?_
  clear hs a; intro a hs
  refine hK4 _ _ ?_
  refine c_cond hs rfl (fun hb => ?_) (fun hb => ?_)
  · replace h := h.1 hb
    clear hb
    refine wp_seq_k fun K5 hK5 => ?_
    refine wp_region_lit ?_
    refine t_pure hs rfl rfl (by decide) (p_move rfl rfl) ?_
    clear hs a; intro a hs
    refine t_pure hs rfl rfl (by decide) (p_assign rfl rfl) ?_
    clear hs a; intro a hs
    refine hK5 _ _ ?_
    refine wp_ret ?_
    refine f_ret (fn := Try.f60) hs (fun a hs => r_one hs rfl (rfl)) ⟨t10x1, rfl, h⟩
  · replace h := h.2 hb
    clear hb
    refine wp_skip ?_
    refine hK3 _ _ ?_
    refine wp_seq_k fun K6 hK6 => ?_
    refine wp_seq_k fun K7 hK7 => ?_
    refine wp_region_lit ?_
    refine t_pure hs rfl rfl (by decide) (p_move rfl rfl) ?_
    clear hs a; intro a hs
    refine t_call hs rfl rfl (by decide) (e_call rfl rfl rfl cb_75) h ?_
    clear hs a h
    intro v a w hk hs
    obtain ⟨t17, rfl, h⟩ := hk
    refine t_pure hs rfl rfl (by decide) (p_not rfl rfl) ?_
    clear hs a; intro a hs
    refine hK7 _ _ ?_
    refine c_cond hs rfl (fun hb => ?_) (fun hb => ?_)
    · replace h := h.1 hb
      clear hb
      refine wp_seq_k fun K8 hK8 => ?_
      refine wp_region_lit ?_
      refine t_pure hs rfl rfl (by decide) (p_assign rfl rfl) ?_
      clear hs a; intro a hs
      refine hK8 _ _ ?_
      refine wp_ret ?_
      refine f_ret (fn := Try.f60) hs (fun a hs => r_one hs rfl (rfl)) ⟨3, rfl, h⟩
    · replace h := h.2 hb
      clear hb
      refine wp_skip ?_
      refine hK6 _ _ ?_
      refine wp_seq_k fun K9 hK9 => ?_
      refine wp_region_lit ?_
      refine t_pure hs rfl rfl (by decide) (p_move rfl rfl) ?_
      clear hs a; intro a hs
      refine t_pure hs rfl rfl (by decide) (p_move rfl rfl) ?_
      clear hs a; intro a hs
      refine t_call hs rfl rfl (by decide) (e_call rfl rfl rfl cb_76) h ?_
      clear hs a h
      intro v a w hk hs
      obtain ⟨rfl, h⟩ := hk
      refine hK9 _ _ ?_
      refine wp_seq_k fun K10 hK10 => ?_
      refine wp_region_lit ?_
      refine t_pure hs rfl rfl (by decide) (p_assign rfl rfl) ?_
      clear hs a; intro a hs
      refine hK10 _ _ ?_
      refine wp_ret ?_
      refine f_ret (fn := Try.f60) hs (fun a hs => r_one hs rfl (rfl)) ⟨0, rfl, h⟩
def ref03_Disk_Cut.s2 (Q : Int → K)   : K :=
  Q 0
def ref03_Disk_Cut.s1 (Q : Int → K)  (d0_1 : (Option Addr)) (n2_1 : Int) (i7_1 : Int) (t32_1 : Bool) : K :=
  Ite t32_1
    (Q 1)
    (ref03_Disk_use.call d0_1 fun t34 =>
    Ite (!t34)
      (Q 3)
      (Dr <|
      Nn d0_1 fun t37 =>
      Ld (t37.add 1) Sl.val fun t39 =>
      Ld (t37.add 1) Sl.val fun t44 =>
      Idx t44 i7_1 3 fun t46 =>
      Ld (t46.add 1) Sl.val fun t48 =>
      Slc t48 0 n2_1 (t48.c : Int) 1 fun t50 =>
      Idx t39 i7_1 3 fun t51 =>
      St (t51.add 1) (Sl.val t50) <|
      Ld (t37.add 1) Sl.val fun t56 =>
      Idx t56 i7_1 3 fun t58 =>
      Ld (t58.add 2) (Value.int .i64) fun t60 =>
      Ite (decide (n2_1 < t60))
        (Ld (t37.add 1) Sl.val fun t66 =>
        Idx t66 i7_1 3 fun t69 =>
        St (t69.add 2) (.int .i64 n2_1) <|
        ref03_Disk_Cut.s2 Q)
        (ref03_Disk_Cut.s2 Q)))
def ref03_Disk_Cut (d0 : (Option Addr)) (name1 : ByteArray) (n2 : Int) (Q : Int → K) : K :=
  ref03_Disk_find.call d0 name1 fun t12x0 t12x1 =>
  Ite (decide (t12x1 ≠ 0))
    (Q t12x1)
    (Ite (decide (n2 < 0))
      (ref03_Disk_Cut.s1 Q d0 n2 t12x0 true)
      (Nn d0 fun t23 =>
      Ld (t23.add 1) Sl.val fun t25 =>
      Idx t25 t12x0 3 fun t27 =>
      Ld (t27.add 1) Sl.val fun t29 =>
      ref03_Disk_Cut.s1 Q (some t23) n2 t12x0 (decide ((t29.n : Int) < n2))))
theorem ref03_Disk_Cut_ok (d0 : (Option Addr)) (name1 : ByteArray) (n2 : Int) (Q : Int → K) (w : World) (h : ref03_Disk_Cut d0 name1 n2 Q w) : ref03_Disk_Cut.call d0 name1 n2 Q w := by
  unfold ref03_Disk_Cut.call CallF
  refine f_start (args := [(.pointer d0), (.string name1), (.int .i64 n2)]) Try.func62 rfl (Nat.le_of_ble_eq_true rfl) ?_
  intro a hs
  unfold ref03_Disk_Cut at h
  refine wp_seq_k fun K1 hK1 => ?_
  refine wp_region_lit ?_
  refine t_pure hs rfl rfl (by decide) (p_assign rfl rfl) ?_
  clear hs a; intro a hs
  refine hK1 _ _ ?_
  refine wp_seq_k fun K2 hK2 => ?_
  refine wp_region_lit ?_
  refine t_pure hs rfl rfl (by decide) (p_move rfl rfl) ?_
  clear hs a; intro a hs
  refine t_pure hs rfl rfl (by decide) (p_move rfl rfl) ?_
  clear hs a; intro a hs
  refine t_call hs rfl rfl (by decide) (e_call rfl rfl rfl cb_74) h ?_
  clear hs a h
  intro v a w hk hs
  obtain ⟨t12x0, t12x1, rfl, h⟩ := hk
  refine t_pure hs rfl rfl (by decide) (p_move rfl rfl) ?_
  clear hs a; intro a hs
  refine t_pure hs rfl rfl (by decide) (p_extract rfl rfl rfl) ?_
  clear hs a; intro a hs
  refine t_pure hs rfl rfl (by decide) (p_extract rfl rfl rfl) ?_
  clear hs a; intro a hs
  refine t_pure hs rfl rfl (by decide) (p_assign rfl rfl) ?_
  clear hs a; intro a hs
  refine t_pure hs rfl rfl (by decide) (p_assign rfl rfl) ?_
  clear hs a; intro a hs
  refine hK2 _ _ ?_
  refine wp_seq_k fun K3 hK3 => ?_
  refine wp_seq_k fun K4 hK4 => ?_
  refine wp_region_lit ?_
  refine t_pure hs rfl rfl (by decide) (p_move rfl rfl) ?_
  clear hs a; intro a hs
  refine t_pure hs rfl rfl (by decide) (p_ne rfl rfl rfl) ?_
  clear hs a; intro a hs
  refine hK4 _ _ ?_
  refine c_cond hs rfl (fun hb => ?_) (fun hb => ?_)
  · replace h := h.1 hb
    clear hb
    refine wp_seq_k fun K5 hK5 => ?_
    refine wp_region_lit ?_
    refine t_pure hs rfl rfl (by decide) (p_move rfl rfl) ?_
    clear hs a; intro a hs
    refine t_pure hs rfl rfl (by decide) (p_assign rfl rfl) ?_
    clear hs a; intro a hs
    refine hK5 _ _ ?_
    refine wp_ret ?_
    refine f_ret (fn := Try.f62) hs (fun a hs => r_one hs rfl (rfl)) ⟨t12x1, rfl, h⟩
  · replace h := h.2 hb
    clear hb
    refine wp_skip ?_
    refine hK3 _ _ ?_
    refine wp_seq_k fun K6 hK6 => ?_
    refine wp_seq_k fun K7 hK7 => ?_
    have J1 : ∀ (t32_1 : Bool) (a : Act) (w : World), Slots a 71 [(0, (.pointer d0)), (2, (.int .i64 n2)), (7, (.int .i64 t12x0)), (32, (.bool t32_1))] → ref03_Disk_Cut.s1 Q d0 n2 t12x0 t32_1 w → K7 a w := by
      clear h hs
      intro t32_1 a w hs h
      refine hK7 _ _ ?_
      unfold ref03_Disk_Cut.s1 at h
      refine c_cond hs rfl (fun hb => ?_) (fun hb => ?_)
      · replace h := h.1 hb
        clear hb
        refine wp_seq_k fun K8 hK8 => ?_
        refine wp_region_lit ?_
        refine t_pure hs rfl rfl (by decide) (p_assign rfl rfl) ?_
        clear hs a; intro a hs
        refine hK8 _ _ ?_
        refine wp_ret ?_
        refine f_ret (fn := Try.f62) hs (fun a hs => r_one hs rfl (rfl)) ⟨1, rfl, h⟩
      · replace h := h.2 hb
        clear hb
        refine wp_skip ?_
        refine hK6 _ _ ?_
        refine wp_seq_k fun K9 hK9 => ?_
        refine wp_seq_k fun K10 hK10 => ?_
        refine wp_region_lit ?_
        refine t_pure hs rfl rfl (by decide) (p_move rfl rfl) ?_
        clear hs a; intro a hs
        refine t_call hs rfl rfl (by decide) (e_call rfl rfl rfl cb_75) h ?_
        clear hs a h
        intro v a w hk hs
        obtain ⟨t34, rfl, h⟩ := hk
        refine t_pure hs rfl rfl (by decide) (p_not rfl rfl) ?_
        clear hs a; intro a hs
        refine hK10 _ _ ?_
        refine c_cond hs rfl (fun hb => ?_) (fun hb => ?_)
        · replace h := h.1 hb
          clear hb
          refine wp_seq_k fun K11 hK11 => ?_
          refine wp_region_lit ?_
          refine t_pure hs rfl rfl (by decide) (p_assign rfl rfl) ?_
          clear hs a; intro a hs
          refine hK11 _ _ ?_
          refine wp_ret ?_
          refine f_ret (fn := Try.f62) hs (fun a hs => r_one hs rfl (rfl)) ⟨3, rfl, h⟩
        · replace h := h.2 hb
          clear hb
          refine wp_skip ?_
          refine hK9 _ _ ?_
          refine wp_seq_k fun K12 hK12 => ?_
          obtain ⟨w1, hw1, h⟩ := h
          refine d_start (S := Is w1) (ds := [17]) #[false, false, false, false, false, false, false, false, false, false, false, false, false, false, false, false, false, false] mixed rfl rfl ?_
          rw [← hw1]
          have hS := Is.intro w1
          clear hw1
          refine d_pure hs #[true, false, false, false, false, false, false, false, false, false, false, false, false, false, false, false, false, false] (i := 0) rfl rfl rfl (by decide) (by kernel_rfl) (tight_body (P := Try.prog) (fn := Try.f62)) (p_move rfl rfl) ?_
          clear hs a; intro a hs
          obtain ⟨t37, rfl, h⟩ := h
          refine d_pure hs #[true, true, false, false, false, false, false, false, false, false, false, false, false, false, false, false, false, false] (i := 1) rfl rfl rfl (by decide) (by kernel_rfl) (tight_body (P := Try.prog) (fn := Try.f62)) (p_nil rfl rfl) ?_
          clear hs a; intro a hs
          refine d_pure hs #[true, true, true, false, false, false, false, false, false, false, false, false, false, false, false, false, false, false] (i := 2) rfl rfl rfl (by decide) (by kernel_rfl) (tight_body (P := Try.prog) (fn := Try.f62)) (p_fieldAddr rfl rfl ft_87_1) ?_
          clear hs a; intro a hs
          refine d_pure hs #[true, true, true, false, true, false, false, false, false, false, false, false, false, false, false, false, false, false] (i := 4) rfl rfl rfl (by decide) (by kernel_rfl) (tight_body (P := Try.prog) (fn := Try.f62)) (p_move rfl rfl) ?_
          clear hs a; intro a hs
          refine d_pure hs #[true, true, true, false, true, true, false, false, false, false, false, false, false, false, false, false, false, false] (i := 5) rfl rfl rfl (by decide) (by kernel_rfl) (tight_body (P := Try.prog) (fn := Try.f62)) (p_move rfl rfl) ?_
          clear hs a; intro a hs
          refine d_pure hs #[true, true, true, false, true, true, true, false, false, false, false, false, false, false, false, false, false, false] (i := 6) rfl rfl rfl (by decide) (by kernel_rfl) (tight_body (P := Try.prog) (fn := Try.f62)) (p_nil rfl rfl) ?_
          clear hs a; intro a hs
          refine d_pure hs #[true, true, true, false, true, true, true, true, false, false, false, false, false, false, false, false, false, false] (i := 7) rfl rfl rfl (by decide) (by kernel_rfl) (tight_body (P := Try.prog) (fn := Try.f62)) (p_fieldAddr rfl rfl ft_87_1) ?_
          clear hs a; intro a hs
          refine d_pure hs #[true, true, true, false, true, true, true, true, false, true, false, false, false, false, false, false, false, false] (i := 9) rfl rfl rfl (by decide) (by kernel_rfl) (tight_body (P := Try.prog) (fn := Try.f62)) (p_move rfl rfl) ?_
          clear hs a; intro a hs
          replace hs := hs.to (τ := [(0, (.pointer (some t37))), (2, (.int .i64 n2)), (7, (.int .i64 t12x0)), (38, (.pointer (some (t37.add 1)))), (40, (.int .i64 t12x0)), (43, (.pointer (some (t37.add 1)))), (45, (.int .i64 t12x0))]) ⟨rfl, rfl, rfl, rfl, rfl, rfl, rfl, trivial⟩
          refine d_pure hs #[true, true, true, false, true, true, true, true, false, true, false, false, false, true, false, false, false, false] (i := 13) rfl rfl rfl (by decide) (by kernel_rfl) (tight_body (P := Try.prog) (fn := Try.f62)) (p_move rfl rfl) ?_
          clear hs a; intro a hs
          obtain ⟨t39, hv, h⟩ := h
          refine d_read hs #[true, true, true, true, true, true, true, true, false, true, false, false, false, true, false, false, false, false] (i := 3) rfl rfl rfl (by decide) (by kernel_rfl) (by kernel_rfl) (tight_body (P := Try.prog) (fn := Try.f62)) hS (fun w h' => by have h1 := h'.out; subst h1; exact e_load rfl rfl ct_85 hv) ?_
          clear hs a hv; intro a hs
          obtain ⟨t44, hv, h⟩ := h
          refine d_read hs #[true, true, true, true, true, true, true, true, true, true, false, false, false, true, false, false, false, false] (i := 8) rfl rfl rfl (by decide) (by kernel_rfl) (by kernel_rfl) (tight_body (P := Try.prog) (fn := Try.f62)) hS (fun w h' => by have h1 := h'.out; subst h1; exact e_load rfl rfl ct_85 hv) ?_
          clear hs a hv; intro a hs
          obtain ⟨qt46, t46, ha, h0, h1, he, h⟩ := h
          refine d_pure hs #[true, true, true, true, true, true, true, true, true, true, true, false, false, true, false, false, false, false] (i := 10) rfl rfl rfl (by decide) (by kernel_rfl) (tight_body (P := Try.prog) (fn := Try.f62)) (Pure.adr he (p_idx rfl rfl rfl sl_85 ha h0 h1)) ?_
          clear hs a ha h0 h1 he; intro a hs
          refine d_pure hs #[true, true, true, true, true, true, true, true, true, true, true, true, false, true, false, false, false, false] (i := 11) rfl rfl rfl (by decide) (by kernel_rfl) (tight_body (P := Try.prog) (fn := Try.f62)) (p_fieldAddr rfl rfl ft_89_1) ?_
          clear hs a; intro a hs
          obtain ⟨t48, hv, h⟩ := h
          refine d_read hs #[true, true, true, true, true, true, true, true, true, true, true, true, true, true, false, false, false, false] (i := 12) rfl rfl rfl (by decide) (by kernel_rfl) (by kernel_rfl) (tight_body (P := Try.prog) (fn := Try.f62)) hS (fun w h' => by have h1 := h'.out; subst h1; exact e_load rfl rfl ct_33 hv) ?_
          clear hs a hv; intro a hs
          obtain ⟨t50, h0, h1, h2, h3, he, h⟩ := h
          refine d_pure hs #[true, true, true, true, true, true, true, true, true, true, true, true, true, true, true, false, false, false] (i := 14) rfl rfl rfl (by decide) (by kernel_rfl) (tight_body (P := Try.prog) (fn := Try.f62)) (Pure.sl he (p_slc rfl rfl sl_33 rfl ⟨_, rfl⟩ rfl (by decide) h0 h1 h2 h3)) ?_
          clear hs a h0 h1 h2 h3 he; intro a hs
          obtain ⟨qt51, t51, ha, h0, h1, he, h⟩ := h
          refine d_pure hs #[true, true, true, true, true, true, true, true, true, true, true, true, true, true, true, true, false, false] (i := 15) rfl rfl rfl (by decide) (by kernel_rfl) (tight_body (P := Try.prog) (fn := Try.f62)) (Pure.adr he (p_idx rfl rfl rfl sl_85 ha h0 h1)) ?_
          clear hs a ha h0 h1 he; intro a hs
          replace hs := hs.to (τ := [(0, (.pointer (some t37))), (2, (.int .i64 n2)), (7, (.int .i64 t12x0)), (50, (Sl.val t50)), (51, (.pointer (some t51)))]) ⟨rfl, rfl, rfl, rfl, rfl, trivial⟩
          refine d_pure hs #[true, true, true, true, true, true, true, true, true, true, true, true, true, true, true, true, true, false] (i := 16) rfl rfl rfl (by decide) (by kernel_rfl) (tight_body (P := Try.prog) (fn := Try.f62)) (p_fieldAddr rfl rfl ft_89_1) ?_
          clear hs a; intro a hs
          refine d_all [17] (by kernel_rfl) (by decide) ?_
          refine AllS.cons ?_ AllS.nil
          obtain ⟨w1, hw, hc, hf, hv, h⟩ := h
          refine d_skip hs #[true, true, true, true, true, true, true, true, true, true, true, true, true, true, true, true, true, true] (i := 17) rfl rfl rfl rfl (e_store rfl rfl rfl sz_33 hw hc hf hv) (fun hn => (hn (by decide)).elim) ?_
          clear hs a hw hc hf hv; intro a hs
          refine d_done (by kernel_rfl) ?_ _
          clear hS
          refine hK12 _ _ ?_
          refine wp_seq_k fun K13 hK13 => ?_
          have J2 : ∀ (a : Act) (w : World), Slots a 71 [] → ref03_Disk_Cut.s2 Q w → K13 a w := by
            clear h hs
            intro a w hs h
            refine hK13 _ _ ?_
            unfold ref03_Disk_Cut.s2 at h
            refine wp_seq_k fun K14 hK14 => ?_
            refine wp_region_lit ?_
            refine t_pure hs rfl rfl (by decide) (p_assign rfl rfl) ?_
            clear hs a; intro a hs
            refine hK14 _ _ ?_
            refine wp_ret ?_
            refine f_ret (fn := Try.f62) hs (fun a hs => r_one hs rfl (rfl)) ⟨0, rfl, h⟩
          clear hK13
          refine wp_seq_k fun K15 hK15 => ?_
          refine wp_region_lit ?_
          refine t_pure hs rfl rfl (by decide) (p_move rfl rfl) ?_
          clear hs a; intro a hs
          refine t_pure hs rfl rfl (by decide) (p_nil rfl rfl) ?_
          clear hs a; intro a hs
          refine t_pure hs rfl rfl (by decide) (p_fieldAddr rfl rfl ft_87_1) ?_
          clear hs a; intro a hs
          obtain ⟨t56, hv, h⟩ := h
          refine t_eff hs rfl rfl (by decide) (e_load rfl rfl ct_85 hv) ?_
          clear hs a hv; intro a hs
          refine t_pure hs rfl rfl (by decide) (p_move rfl rfl) ?_
          clear hs a; intro a hs
          obtain ⟨qt58, t58, ha, h0, h1, he, h⟩ := h
          refine t_pure hs rfl rfl (by decide) (Pure.adr he (p_idx rfl rfl rfl sl_85 ha h0 h1)) ?_
          clear hs a ha h0 h1 he; intro a hs
          refine t_pure hs rfl rfl (by decide) (p_fieldAddr rfl rfl ft_89_2) ?_
          clear hs a; intro a hs
          obtain ⟨t60, hv, h⟩ := h
          refine t_eff hs rfl rfl (by decide) (e_load rfl rfl ct_3 hv) ?_
          clear hs a hv; intro a hs
          replace hs := hs.to (τ := [(0, (.pointer (some t37))), (2, (.int .i64 n2)), (7, (.int .i64 t12x0)), (60, (.int .i64 t60))]) ⟨rfl, rfl, rfl, rfl, trivial⟩
          refine t_pure hs rfl rfl (by decide) (p_move rfl rfl) ?_
          clear hs a; intro a hs
          refine t_pure hs rfl rfl (by decide) (p_gt rfl rfl rfl) ?_
          clear hs a; intro a hs
          refine hK15 _ _ ?_
          refine c_cond hs rfl (fun hb => ?_) (fun hb => ?_)
          · replace h := h.1 hb
            clear hb
            refine wp_region_lit ?_
            refine t_pure hs rfl rfl (by decide) (p_move rfl rfl) ?_
            clear hs a; intro a hs
            refine t_pure hs rfl rfl (by decide) (p_nil rfl rfl) ?_
            clear hs a; intro a hs
            refine t_pure hs rfl rfl (by decide) (p_fieldAddr rfl rfl ft_87_1) ?_
            clear hs a; intro a hs
            obtain ⟨t66, hv, h⟩ := h
            refine t_eff hs rfl rfl (by decide) (e_load rfl rfl ct_85 hv) ?_
            clear hs a hv; intro a hs
            refine t_pure hs rfl rfl (by decide) (p_move rfl rfl) ?_
            clear hs a; intro a hs
            refine t_pure hs rfl rfl (by decide) (p_move rfl rfl) ?_
            clear hs a; intro a hs
            obtain ⟨qt69, t69, ha, h0, h1, he, h⟩ := h
            refine t_pure hs rfl rfl (by decide) (Pure.adr he (p_idx rfl rfl rfl sl_85 ha h0 h1)) ?_
            clear hs a ha h0 h1 he; intro a hs
            refine t_pure hs rfl rfl (by decide) (p_fieldAddr rfl rfl ft_89_2) ?_
            clear hs a; intro a hs
            replace hs := hs.to (τ := [(68, (.int .i64 n2)), (70, (.pointer (some (t69.add 2))))]) ⟨rfl, rfl, trivial⟩
            obtain ⟨w1, hw, hc, hf, hv, h⟩ := h
            refine t_skip hs rfl rfl (e_store rfl rfl rfl sz_3 hw hc hf hv) ?_
            clear hs a hw hc hf hv; intro a hs
            exact J2 _ _ (hs.to trivial) h
          · replace h := h.2 hb
            clear hb
            refine wp_skip ?_
            exact J2 _ _ (hs.to trivial) h
    clear hK7
    refine wp_region_lit ?_
    refine t_pure hs rfl rfl (by decide) (p_move rfl rfl) ?_
    clear hs a; intro a hs
    refine t_pure hs rfl rfl (by decide) (p_lt rfl rfl rfl) ?_
    clear hs a; intro a hs
    refine t_pure hs rfl rfl (by decide) (p_move rfl rfl) ?_
    clear hs a; intro a hs
    refine split_bool (decide (n2 < 0)) (fun hb => ?_) (fun hb => ?_)
    · replace h := h.1 hb
      rw [hb] at hs
      clear hb
      refine t_no hs rfl rfl (by decide) ?_
      clear hs a; intro a hs
      refine t_no hs rfl rfl (by decide) ?_
      clear hs a; intro a hs
      refine t_no hs rfl rfl (by decide) ?_
      clear hs a; intro a hs
      refine t_no hs rfl rfl (by decide) ?_
      clear hs a; intro a hs
      refine t_no hs rfl rfl (by decide) ?_
      clear hs a; intro a hs
      replace hs := hs.to (τ := [(0, (.pointer d0)), (2, (.int .i64 n2)), (7, (.int .i64 t12x0)), (20, (.bool true)), (21, undef), (25, undef)]) ⟨rfl, rfl, rfl, rfl, rfl, rfl, trivial⟩
      refine t_no hs rfl rfl (by decide) ?_
      clear hs a; intro a hs
      refine t_no hs rfl rfl (by decide) ?_
      clear hs a; intro a hs
      refine t_no hs rfl rfl (by decide) ?_
      clear hs a; intro a hs
      refine t_no hs rfl rfl (by decide) ?_
      clear hs a; intro a hs
      refine t_no hs rfl rfl (by decide) ?_
      clear hs a; intro a hs
      refine t_no hs rfl rfl (by decide) ?_
      clear hs a; intro a hs
      refine t_pure hs rfl rfl (by decide) (p_pick_t rfl rfl rfl) ?_
      clear hs a; intro a hs
      exact J1 true _ _ (hs.to ⟨rfl, rfl, rfl, rfl, trivial⟩) h
    · replace h := h.2 hb
      rw [hb] at hs
      clear hb
      refine t_yes hs rfl ?_
      refine t_pure hs rfl rfl (by decide) (p_move rfl rfl) ?_
      clear hs a; intro a hs
      refine t_yes hs rfl ?_
      refine t_pure hs rfl rfl (by decide) (p_move rfl rfl) ?_
      clear hs a; intro a hs
      refine t_yes hs rfl ?_
      obtain ⟨t23, rfl, h⟩ := h
      refine t_pure hs rfl rfl (by decide) (p_nil rfl rfl) ?_
      clear hs a; intro a hs
      refine t_yes hs rfl ?_
      refine t_pure hs rfl rfl (by decide) (p_fieldAddr rfl rfl ft_87_1) ?_
      clear hs a; intro a hs
      refine t_yes hs rfl ?_
      obtain ⟨t25, hv, h⟩ := h
      refine t_eff hs rfl rfl (by decide) (e_load rfl rfl ct_85 hv) ?_
      clear hs a hv; intro a hs
      replace hs := hs.to (τ := [(0, (.pointer (some t23))), (2, (.int .i64 n2)), (7, (.int .i64 t12x0)), (20, (.bool false)), (21, (.int .i64 n2)), (25, (Sl.val t25))]) ⟨rfl, rfl, rfl, rfl, rfl, rfl, trivial⟩
      refine t_yes hs rfl ?_
      refine t_pure hs rfl rfl (by decide) (p_move rfl rfl) ?_
      clear hs a; intro a hs
      refine t_yes hs rfl ?_
      obtain ⟨qt27, t27, ha, h0, h1, he, h⟩ := h
      refine t_pure hs rfl rfl (by decide) (Pure.adr he (p_idx rfl rfl rfl sl_85 ha h0 h1)) ?_
      clear hs a ha h0 h1 he; intro a hs
      refine t_yes hs rfl ?_
      refine t_pure hs rfl rfl (by decide) (p_fieldAddr rfl rfl ft_89_1) ?_
      clear hs a; intro a hs
      refine t_yes hs rfl ?_
      obtain ⟨t29, hv, h⟩ := h
      refine t_eff hs rfl rfl (by decide) (e_load rfl rfl ct_33 hv) ?_
      clear hs a hv; intro a hs
      refine t_yes hs rfl ?_
      refine t_pure hs rfl rfl (by decide) (p_len rfl rfl sl_33) ?_
      clear hs a; intro a hs
      refine t_yes hs rfl ?_
      refine t_pure hs rfl rfl (by decide) (p_gt rfl rfl rfl) ?_
      clear hs a; intro a hs
      refine t_pure hs rfl rfl (by decide) (p_pick_f rfl rfl rfl) ?_
      clear hs a; intro a hs
      exact J1 (decide ((t29.n : Int) < n2)) _ _ (hs.to ⟨rfl, rfl, rfl, rfl, trivial⟩) h
def ref03_Disk_Append.s3 (Q : Int → K)  (d0_3 : Addr) (data2_3 : Sl) (i7_3 : Int) : K :=
  Dr <| WithS fun S =>
  LdS S (d0_3.add 1) Sl.val fun t57 =>
  LdS S (d0_3.add 1) Sl.val fun t63 =>
  Idx t63 i7_3 3 fun t65 =>
  LdS S (t65.add 1) Sl.val fun t67 =>
  New 5 #[] fun t59 =>
  Sv S <|
  Do Try.prog (Builtin.append_ #[33, 33] 33 #[(Sl.val (Sl.mk (some t59) 0 0)), (Sl.val t67)]) Sl.val fun t68 =>
  Sv S <|
  Do Try.prog (Builtin.append_ #[33, 33] 33 #[(Sl.val t68), (Sl.val data2_3)]) Sl.val fun t70 =>
  Sv S <|
  Idx t57 i7_3 3 fun t71 =>
  St (t71.add 1) (Sl.val t70) <|
  ref03_Disk_use.call (some d0_3) fun t74 =>
  Ite (!t74)
    (Q 3)
    (Q 0)
def ref03_Disk_Append.s2 (Q : Int → K)  (d0_2 : Addr) (name1_2 : ByteArray) (data2_2 : Sl) (i7_2 : Int) (t44_2 : Bool) : K :=
  Ite t44_2
    (Q 2)
    (Ite (decide (i7_2 < 0))
      (ref03_Disk_put.call (some d0_2) #[(.string name1_2), (Sl.val ⟨none, 0, 0⟩), (.int .i64 0)] <|
      ref03_Disk_At.call (some d0_2) name1_2 fun t53 =>
      ref03_Disk_Append.s3 Q d0_2 data2_2 t53)
      (ref03_Disk_Append.s3 Q d0_2 data2_2 i7_2))
def ref03_Disk_Append.s1 (Q : Int → K)  (d0_1 : Addr) (name1_1 : ByteArray) (data2_1 : Sl) (t19_1 : Bool) : K :=
  Ite t19_1
    (Q 1)
    (ref03_Disk_At.call (some d0_1) name1_1 fun t22 =>
    Dr <| WithS fun S =>
    Ite (decide (t22 < 0))
      (LdS S (d0_1.add 1) Sl.val fun t29 =>
      Ite (decide ((32 : Int) ≤ (t29.n : Int)))
        (ref03_Disk_Append.s2 Q d0_1 name1_1 data2_1 t22 true)
        (LdS S d0_1 (Value.int .i64) fun t39 =>
        ref03_Disk_Used.call (some d0_1) fun t41 =>
        Sv S <|
        Ar (IntKind.wrap .i64 (t39 - t41)) fun t42 =>
        ref03_Disk_Append.s2 Q d0_1 name1_1 data2_1 t22 (decide (t42 < (data2_1.n : Int)))))
      (LdS S d0_1 (Value.int .i64) fun t39 =>
      ref03_Disk_Used.call (some d0_1) fun t41 =>
      Sv S <|
      Ar (IntKind.wrap .i64 (t39 - t41)) fun t42 =>
      ref03_Disk_Append.s2 Q d0_1 name1_1 data2_1 t22 (decide (t42 < (data2_1.n : Int)))))
def ref03_Disk_Append (d0 : (Option Addr)) (name1 : ByteArray) (data2 : Sl) (Q : Int → K) : K :=
  Nn d0 fun t9 =>
  Ld (t9.add 3) Value.bool fun t11 =>
  Ite t11
    (Q 3)
    (Ite (decide ((name1.size : Int) < 1))
      (ref03_Disk_Append.s1 Q t9 name1 data2 true)
      (ref03_Disk_Append.s1 Q t9 name1 data2 (decide ((16 : Int) < (name1.size : Int)))))
theorem ref03_Disk_Append_ok (d0 : (Option Addr)) (name1 : ByteArray) (data2 : Sl) (Q : Int → K) (w : World) (h : ref03_Disk_Append d0 name1 data2 Q w) : ref03_Disk_Append.call d0 name1 data2 Q w := by
  unfold ref03_Disk_Append.call CallF
  refine f_start (args := [(.pointer d0), (.string name1), (Sl.val data2)]) Try.func63 rfl (Nat.le_of_ble_eq_true rfl) ?_
  intro a hs
  unfold ref03_Disk_Append at h
  refine wp_seq_k fun K1 hK1 => ?_
  refine wp_region_lit ?_
  refine t_pure hs rfl rfl (by decide) (p_assign rfl rfl) ?_
  clear hs a; intro a hs
  refine hK1 _ _ ?_
  refine wp_seq_k fun K2 hK2 => ?_
  refine wp_seq_k fun K3 hK3 => ?_
  refine wp_region_lit ?_
  refine t_pure hs rfl rfl (by decide) (p_move rfl rfl) ?_
  clear hs a; intro a hs
  obtain ⟨t9, rfl, h⟩ := h
  refine t_pure hs rfl rfl (by decide) (p_nil rfl rfl) ?_
  clear hs a; intro a hs
  refine t_pure hs rfl rfl (by decide) (p_fieldAddr rfl rfl ft_87_3) ?_
  clear hs a; intro a hs
  obtain ⟨t11, hv, h⟩ := h
  refine t_eff hs rfl rfl (by decide) (e_load rfl rfl ct_4 hv) ?_
  clear hs a hv; intro a hs
  refine hK3 _ _ ?_
  refine c_cond hs rfl (fun hb => ?_) (fun hb => ?_)
  · replace h := h.1 hb
    clear hb
    refine wp_seq_k fun K4 hK4 => ?_
    refine wp_region_lit ?_
    refine t_pure hs rfl rfl (by decide) (p_assign rfl rfl) ?_
    clear hs a; intro a hs
    refine hK4 _ _ ?_
    refine wp_ret ?_
    refine f_ret (fn := Try.f63) hs (fun a hs => r_one hs rfl (rfl)) ⟨3, rfl, h⟩
  · replace h := h.2 hb
    clear hb
    refine wp_skip ?_
    refine hK2 _ _ ?_
    refine wp_seq_k fun K5 hK5 => ?_
    refine wp_seq_k fun K6 hK6 => ?_
    have J1 : ∀ (t19_1 : Bool) (a : Act) (w : World), Slots a 76 [(0, (.pointer (some t9))), (1, (.string name1)), (2, (Sl.val data2)), (19, (.bool t19_1))] → ref03_Disk_Append.s1 Q t9 name1 data2 t19_1 w → K6 a w := by
      clear h hs
      intro t19_1 a w hs h
      refine hK6 _ _ ?_
      unfold ref03_Disk_Append.s1 at h
      refine c_cond hs rfl (fun hb => ?_) (fun hb => ?_)
      · replace h := h.1 hb
        clear hb
        refine wp_seq_k fun K7 hK7 => ?_
        refine wp_region_lit ?_
        refine t_pure hs rfl rfl (by decide) (p_assign rfl rfl) ?_
        clear hs a; intro a hs
        refine hK7 _ _ ?_
        refine wp_ret ?_
        refine f_ret (fn := Try.f63) hs (fun a hs => r_one hs rfl (rfl)) ⟨1, rfl, h⟩
      · replace h := h.2 hb
        clear hb
        refine wp_skip ?_
        refine hK5 _ _ ?_
        refine wp_seq_k fun K8 hK8 => ?_
        refine wp_region_lit ?_
        refine t_pure hs rfl rfl (by decide) (p_move rfl rfl) ?_
        clear hs a; intro a hs
        refine t_pure hs rfl rfl (by decide) (p_move rfl rfl) ?_
        clear hs a; intro a hs
        refine t_call hs rfl rfl (by decide) (e_call rfl rfl rfl cb_78) h ?_
        clear hs a h
        intro v a w hk hs
        obtain ⟨t22, rfl, h⟩ := hk
        refine t_pure hs rfl rfl (by decide) (p_assign rfl rfl) ?_
        clear hs a; intro a hs
        refine hK8 _ _ ?_
        refine wp_seq_k fun K9 hK9 => ?_
        refine wp_seq_k fun K10 hK10 => ?_
        have J2 : ∀ (t44_2 : Bool) (a : Act) (w : World), Slots a 76 [(0, (.pointer (some t9))), (1, (.string name1)), (2, (Sl.val data2)), (7, (.int .i64 t22)), (44, (.bool t44_2))] → ref03_Disk_Append.s2 Q t9 name1 data2 t22 t44_2 w → K10 a w := by
          clear h hs
          intro t44_2 a w hs h
          refine hK10 _ _ ?_
          unfold ref03_Disk_Append.s2 at h
          refine c_cond hs rfl (fun hb => ?_) (fun hb => ?_)
          · replace h := h.1 hb
            clear hb
            refine wp_seq_k fun K11 hK11 => ?_
            refine wp_region_lit ?_
            refine t_pure hs rfl rfl (by decide) (p_assign rfl rfl) ?_
            clear hs a; intro a hs
            refine hK11 _ _ ?_
            refine wp_ret ?_
            refine f_ret (fn := Try.f63) hs (fun a hs => r_one hs rfl (rfl)) ⟨2, rfl, h⟩
          · replace h := h.2 hb
            clear hb
            refine wp_skip ?_
            refine hK9 _ _ ?_
            refine wp_seq_k fun K12 hK12 => ?_
            have J3 : ∀ (i7_3 : Int) (a : Act) (w : World), Slots a 76 [(0, (.pointer (some t9))), (2, (Sl.val data2)), (7, (.int .i64 i7_3))] → ref03_Disk_Append.s3 Q t9 data2 i7_3 w → K12 a w := by
              clear h hs
              intro i7_3 a w hs h
              refine hK12 _ _ ?_
              unfold ref03_Disk_Append.s3 at h
              refine wp_seq_k fun K13 hK13 => ?_
              obtain ⟨w1, hw1, h⟩ := h
              obtain ⟨S, hS, h⟩ := h
              subst hw1
              refine d_start (S := S) (ds := [19]) #[false, false, false, false, false, false, false, false, false, false, false, false, false, false, false, false, false, false, false, false] mixed rfl rfl ?_
              refine d_pure hs #[true, false, false, false, false, false, false, false, false, false, false, false, false, false, false, false, false, false, false, false] (i := 0) rfl rfl rfl (by decide) (by kernel_rfl) (tight_body (P := Try.prog) (fn := Try.f63)) (p_move rfl rfl) ?_
              clear hs a; intro a hs
              refine d_pure hs #[true, true, false, false, false, false, false, false, false, false, false, false, false, false, false, false, false, false, false, false] (i := 1) rfl rfl rfl (by decide) (by kernel_rfl) (tight_body (P := Try.prog) (fn := Try.f63)) (p_nil rfl rfl) ?_
              clear hs a; intro a hs
              refine d_pure hs #[true, true, true, false, false, false, false, false, false, false, false, false, false, false, false, false, false, false, false, false] (i := 2) rfl rfl rfl (by decide) (by kernel_rfl) (tight_body (P := Try.prog) (fn := Try.f63)) (p_fieldAddr rfl rfl ft_87_1) ?_
              clear hs a; intro a hs
              refine d_pure hs #[true, true, true, false, true, false, false, false, false, false, false, false, false, false, false, false, false, false, false, false] (i := 4) rfl rfl rfl (by decide) (by kernel_rfl) (tight_body (P := Try.prog) (fn := Try.f63)) (p_move rfl rfl) ?_
              clear hs a; intro a hs
              refine d_pure hs #[true, true, true, false, true, false, true, false, false, false, false, false, false, false, false, false, false, false, false, false] (i := 6) rfl rfl rfl (by decide) (by kernel_rfl) (tight_body (P := Try.prog) (fn := Try.f63)) (p_move rfl rfl) ?_
              clear hs a; intro a hs
              refine d_pure hs #[true, true, true, false, true, false, true, true, false, false, false, false, false, false, false, false, false, false, false, false] (i := 7) rfl rfl rfl (by decide) (by kernel_rfl) (tight_body (P := Try.prog) (fn := Try.f63)) (p_nil rfl rfl) ?_
              clear hs a; intro a hs
              refine d_pure hs #[true, true, true, false, true, false, true, true, true, false, false, false, false, false, false, false, false, false, false, false] (i := 8) rfl rfl rfl (by decide) (by kernel_rfl) (tight_body (P := Try.prog) (fn := Try.f63)) (p_fieldAddr rfl rfl ft_87_1) ?_
              clear hs a; intro a hs
              refine d_pure hs #[true, true, true, false, true, false, true, true, true, false, true, false, false, false, false, false, false, false, false, false] (i := 10) rfl rfl rfl (by decide) (by kernel_rfl) (tight_body (P := Try.prog) (fn := Try.f63)) (p_move rfl rfl) ?_
              clear hs a; intro a hs
              replace hs := hs.to (τ := [(0, (.pointer (some t9))), (2, (Sl.val data2)), (56, (.pointer (some (t9.add 1)))), (58, (.int .i64 i7_3)), (62, (.pointer (some (t9.add 1)))), (64, (.int .i64 i7_3))]) ⟨rfl, rfl, rfl, rfl, rfl, rfl, trivial⟩
              refine d_pure hs #[true, true, true, false, true, false, true, true, true, false, true, false, false, false, false, true, false, false, false, false] (i := 15) rfl rfl rfl (by decide) (by kernel_rfl) (tight_body (P := Try.prog) (fn := Try.f63)) (p_move rfl rfl) ?_
              clear hs a; intro a hs
              obtain ⟨t57, hv, h⟩ := h
              refine d_read hs #[true, true, true, true, true, false, true, true, true, false, true, false, false, false, false, true, false, false, false, false] (i := 3) rfl rfl rfl (by decide) (by kernel_rfl) (by kernel_rfl) (tight_body (P := Try.prog) (fn := Try.f63)) hS (fun w h' => e_load rfl rfl ct_85 (hv w h')) ?_
              clear hs a hv; intro a hs
              obtain ⟨t63, hv, h⟩ := h
              refine d_read hs #[true, true, true, true, true, false, true, true, true, true, true, false, false, false, false, true, false, false, false, false] (i := 9) rfl rfl rfl (by decide) (by kernel_rfl) (by kernel_rfl) (tight_body (P := Try.prog) (fn := Try.f63)) hS (fun w h' => e_load rfl rfl ct_85 (hv w h')) ?_
              clear hs a hv; intro a hs
              obtain ⟨qt65, t65, ha, h0, h1, he, h⟩ := h
              refine d_pure hs #[true, true, true, true, true, false, true, true, true, true, true, true, false, false, false, true, false, false, false, false] (i := 11) rfl rfl rfl (by decide) (by kernel_rfl) (tight_body (P := Try.prog) (fn := Try.f63)) (Pure.adr he (p_idx rfl rfl rfl sl_85 ha h0 h1)) ?_
              clear hs a ha h0 h1 he; intro a hs
              refine d_pure hs #[true, true, true, true, true, false, true, true, true, true, true, true, true, false, false, true, false, false, false, false] (i := 12) rfl rfl rfl (by decide) (by kernel_rfl) (tight_body (P := Try.prog) (fn := Try.f63)) (p_fieldAddr rfl rfl ft_89_1) ?_
              clear hs a; intro a hs
              obtain ⟨t67, hv, h⟩ := h
              refine d_read hs #[true, true, true, true, true, false, true, true, true, true, true, true, true, true, false, true, false, false, false, false] (i := 13) rfl rfl rfl (by decide) (by kernel_rfl) (by kernel_rfl) (tight_body (P := Try.prog) (fn := Try.f63)) hS (fun w h' => e_load rfl rfl ct_33 (hv w h')) ?_
              clear hs a hv; intro a hs
              refine d_all [5] (by kernel_rfl) (by decide) ?_
              refine AllS.cons ?_ AllS.nil
              obtain ⟨t59, w1, ha, hw, h⟩ := h
              obtain ⟨hS, h⟩ := h
              refine d_eff hs #[true, true, true, true, true, true, true, true, true, true, true, true, true, true, false, true, false, false, false, false] (i := 5) rfl rfl rfl (by decide) rfl (e_buildSlice (z := #[]) (cs := #[]) rfl sl_33 zt_5 (by decide) rfl rz_5_0 (by rfl) ha hw) (fun _ _ => hS) ?_
              clear hs a ha hw; intro a hs
              refine d_all [14] (by kernel_rfl) (by decide) ?_
              refine AllS.cons ?_ AllS.nil
              obtain ⟨t68, w1, hd, h⟩ := h
              obtain ⟨hS, h⟩ := h
              refine d_eff hs #[true, true, true, true, true, true, true, true, true, true, true, true, true, true, true, true, false, false, false, false] (i := 14) rfl rfl rfl (by decide) rfl (e_append rfl rfl rfl rfl hd) (fun _ _ => hS) ?_
              clear hs a hd; intro a hs
              replace hs := hs.to (τ := [(0, (.pointer (some t9))), (57, (Sl.val t57)), (58, (.int .i64 i7_3)), (68, (Sl.val t68)), (69, (Sl.val data2))]) ⟨rfl, rfl, rfl, rfl, rfl, trivial⟩
              refine d_all [16] (by kernel_rfl) (by decide) ?_
              refine AllS.cons ?_ AllS.nil
              obtain ⟨t70, w1, hd, h⟩ := h
              obtain ⟨hS, h⟩ := h
              refine d_eff hs #[true, true, true, true, true, true, true, true, true, true, true, true, true, true, true, true, true, false, false, false] (i := 16) rfl rfl rfl (by decide) rfl (e_append rfl rfl rfl rfl hd) (fun _ _ => hS) ?_
              clear hs a hd; intro a hs
              obtain ⟨qt71, t71, ha, h0, h1, he, h⟩ := h
              refine d_pure hs #[true, true, true, true, true, true, true, true, true, true, true, true, true, true, true, true, true, true, false, false] (i := 17) rfl rfl rfl (by decide) (by kernel_rfl) (tight_body (P := Try.prog) (fn := Try.f63)) (Pure.adr he (p_idx rfl rfl rfl sl_85 ha h0 h1)) ?_
              clear hs a ha h0 h1 he; intro a hs
              refine d_pure hs #[true, true, true, true, true, true, true, true, true, true, true, true, true, true, true, true, true, true, true, false] (i := 18) rfl rfl rfl (by decide) (by kernel_rfl) (tight_body (P := Try.prog) (fn := Try.f63)) (p_fieldAddr rfl rfl ft_89_1) ?_
              clear hs a; intro a hs
              refine d_all [19] (by kernel_rfl) (by decide) ?_
              refine AllS.cons ?_ AllS.nil
              obtain ⟨w1, hw, hc, hf, hv, h⟩ := h
              refine d_skip hs #[true, true, true, true, true, true, true, true, true, true, true, true, true, true, true, true, true, true, true, true] (i := 19) rfl rfl rfl rfl (e_store rfl rfl rfl sz_33 hw hc hf hv) (fun hn => (hn (by decide)).elim) ?_
              clear hs a hw hc hf hv; intro a hs
              refine d_done (by kernel_rfl) ?_ _
              clear hS
              refine hK13 _ _ ?_
              refine wp_seq_k fun K14 hK14 => ?_
              refine wp_seq_k fun K15 hK15 => ?_
              refine wp_region_lit ?_
              refine t_pure hs rfl rfl (by decide) (p_move rfl rfl) ?_
              clear hs a; intro a hs
              refine t_call hs rfl rfl (by decide) (e_call rfl rfl rfl cb_75) h ?_
              clear hs a h
              intro v a w hk hs
              obtain ⟨t74, rfl, h⟩ := hk
              refine t_pure hs rfl rfl (by decide) (p_not rfl rfl) ?_
              clear hs a; intro a hs
              refine hK15 _ _ ?_
              refine c_cond hs rfl (fun hb => ?_) (fun hb => ?_)
              · replace h := h.1 hb
                clear hb
                refine wp_seq_k fun K16 hK16 => ?_
                refine wp_region_lit ?_
                refine t_pure hs rfl rfl (by decide) (p_assign rfl rfl) ?_
                clear hs a; intro a hs
                refine hK16 _ _ ?_
                refine wp_ret ?_
                refine f_ret (fn := Try.f63) hs (fun a hs => r_one hs rfl (rfl)) ⟨3, rfl, h⟩
              · replace h := h.2 hb
                clear hb
                refine wp_skip ?_
                refine hK14 _ _ ?_
                refine wp_seq_k fun K17 hK17 => ?_
                refine wp_region_lit ?_
                refine t_pure hs rfl rfl (by decide) (p_assign rfl rfl) ?_
                clear hs a; intro a hs
                refine hK17 _ _ ?_
                refine wp_ret ?_
                refine f_ret (fn := Try.f63) hs (fun a hs => r_one hs rfl (rfl)) ⟨0, rfl, h⟩
            clear hK12
            refine wp_seq_k fun K18 hK18 => ?_
            refine wp_region_lit ?_
            refine t_pure hs rfl rfl (by decide) (p_move rfl rfl) ?_
            clear hs a; intro a hs
            refine t_pure hs rfl rfl (by decide) (p_lt rfl rfl rfl) ?_
            clear hs a; intro a hs
            refine hK18 _ _ ?_
            refine c_cond hs rfl (fun hb => ?_) (fun hb => ?_)
            · replace h := h.1 hb
              clear hb
              refine wp_seq_k fun K19 hK19 => ?_
              refine wp_region_lit ?_
              refine t_pure hs rfl rfl (by decide) (p_move rfl rfl) ?_
              clear hs a; intro a hs
              refine t_pure hs rfl rfl (by decide) (p_move rfl rfl) ?_
              clear hs a; intro a hs
              refine t_pure hs rfl rfl (by decide) (e_build (cs := #[(.string name1), (Sl.val ⟨none, 0, 0⟩), (.int .i64 0)]) rfl zt_89 pl_89 rfl rfl) ?_
              clear hs a; intro a hs
              refine t_call hs rfl rfl (by decide) (e_call rfl rfl rfl cb_77) h ?_
              clear hs a h
              intro v a w hk hs
              obtain ⟨rfl, h⟩ := hk
              refine hK19 _ _ ?_
              refine wp_region_lit ?_
              refine t_pure hs rfl rfl (by decide) (p_move rfl rfl) ?_
              clear hs a; intro a hs
              refine t_pure hs rfl rfl (by decide) (p_move rfl rfl) ?_
              clear hs a; intro a hs
              refine t_call hs rfl rfl (by decide) (e_call rfl rfl rfl cb_78) h ?_
              clear hs a h
              intro v a w hk hs
              obtain ⟨t53, rfl, h⟩ := hk
              refine t_pure hs rfl rfl (by decide) (p_assign rfl rfl) ?_
              clear hs a; intro a hs
              exact J3 t53 _ _ (hs.to ⟨rfl, rfl, rfl, trivial⟩) h
            · replace h := h.2 hb
              clear hb
              refine wp_skip ?_
              exact J3 t22 _ _ (hs.to ⟨rfl, rfl, rfl, trivial⟩) h
        clear hK10
        obtain ⟨w1, hw1, h⟩ := h
        obtain ⟨S, hS, h⟩ := h
        subst hw1
        refine d_start (S := S) (ds := []) #[false, false, false, false, false, false, false, false, false, false, false, false, false, false, false, false, false, false, false, false, false, false] mixed rfl rfl ?_
        refine d_pure hs #[true, false, false, false, false, false, false, false, false, false, false, false, false, false, false, false, false, false, false, false, false, false] (i := 0) rfl rfl rfl (by decide) (by kernel_rfl) (tight_body (P := Try.prog) (fn := Try.f63)) (p_move rfl rfl) ?_
        clear hs a; intro a hs
        refine d_pure hs #[true, true, false, false, false, false, false, false, false, false, false, false, false, false, false, false, false, false, false, false, false, false] (i := 1) rfl rfl rfl (by decide) (by kernel_rfl) (tight_body (P := Try.prog) (fn := Try.f63)) (p_lt rfl rfl rfl) ?_
        clear hs a; intro a hs
        refine d_pure hs #[true, true, true, false, false, false, false, false, false, false, false, false, false, false, false, false, false, false, false, false, false, false] (i := 2) rfl rfl rfl (by decide) (by kernel_rfl) (tight_body (P := Try.prog) (fn := Try.f63)) (p_move rfl rfl) ?_
        clear hs a; intro a hs
        refine split_bool (decide (t22 < 0)) (fun hb => ?_) (fun hb => ?_)
        · replace h := h.1 hb
          rw [hb] at hs
          clear hb
          refine d_pure hs #[true, true, true, true, false, false, false, false, false, false, false, false, false, false, false, false, false, false, false, false, false, false] (i := 3) rfl rfl rfl (by decide) (by kernel_rfl) (tight_body (P := Try.prog) (fn := Try.f63)) (p_move rfl rfl) ?_
          clear hs a; intro a hs
          refine d_pure hs #[true, true, true, true, true, false, false, false, false, false, false, false, false, false, false, false, false, false, false, false, false, false] (i := 4) rfl rfl rfl (by decide) (by kernel_rfl) (tight_body (P := Try.prog) (fn := Try.f63)) (p_nil rfl rfl) ?_
          clear hs a; intro a hs
          refine d_pure hs #[true, true, true, true, true, true, false, false, false, false, false, false, false, false, false, false, false, false, false, false, false, false] (i := 5) rfl rfl rfl (by decide) (by kernel_rfl) (tight_body (P := Try.prog) (fn := Try.f63)) (p_fieldAddr rfl rfl ft_87_1) ?_
          clear hs a; intro a hs
          obtain ⟨t29, hv, h⟩ := h
          refine d_read hs #[true, true, true, true, true, true, true, false, false, false, false, false, false, false, false, false, false, false, false, false, false, false] (i := 6) rfl rfl rfl (by decide) (by kernel_rfl) (by kernel_rfl) (tight_body (P := Try.prog) (fn := Try.f63)) hS (fun w h' => e_load rfl rfl ct_85 (hv w h')) ?_
          clear hs a hv; intro a hs
          refine d_pure hs #[true, true, true, true, true, true, true, true, false, false, false, false, false, false, false, false, false, false, false, false, false, false] (i := 7) rfl rfl rfl (by decide) (by kernel_rfl) (tight_body (P := Try.prog) (fn := Try.f63)) (p_len rfl rfl sl_85) ?_
          clear hs a; intro a hs
          replace hs := hs.to (τ := [(0, (.pointer (some t9))), (1, (.string name1)), (2, (Sl.val data2)), (7, (.int .i64 t22)), (25, (.bool true)), (30, (.int .i64 (t29.n : Int)))]) ⟨rfl, rfl, rfl, rfl, rfl, rfl, trivial⟩
          refine d_pure hs #[true, true, true, true, true, true, true, true, true, false, false, false, false, false, false, false, false, false, false, false, false, false] (i := 8) rfl rfl rfl (by decide) (by kernel_rfl) (tight_body (P := Try.prog) (fn := Try.f63)) (p_ge rfl rfl rfl) ?_
          clear hs a; intro a hs
          refine d_pure hs #[true, true, true, true, true, true, true, true, true, true, false, false, false, false, false, false, false, false, false, false, false, false] (i := 9) rfl rfl rfl (by decide) (by kernel_rfl) (tight_body (P := Try.prog) (fn := Try.f63)) (p_pick_t rfl rfl rfl) ?_
          clear hs a; intro a hs
          refine d_pure hs #[true, true, true, true, true, true, true, true, true, true, true, false, false, false, false, false, false, false, false, false, false, false] (i := 10) rfl rfl rfl (by decide) (by kernel_rfl) (tight_body (P := Try.prog) (fn := Try.f63)) (p_move rfl rfl) ?_
          clear hs a; intro a hs
          refine split_bool (decide ((32 : Int) ≤ (t29.n : Int))) (fun hb => ?_) (fun hb => ?_)
          · replace h := h.1 hb
            rw [hb] at hs
            clear hb
            refine d_no hs #[true, true, true, true, true, true, true, true, true, true, true, true, false, false, false, false, false, false, false, false, false, false] (i := 11) rfl rfl rfl (by decide) (by kernel_rfl) (tight_body (P := Try.prog) (fn := Try.f63)) ?_
            clear hs a; intro a hs
            refine d_no hs #[true, true, true, true, true, true, true, true, true, true, true, true, true, false, false, false, false, false, false, false, false, false] (i := 12) rfl rfl rfl (by decide) (by kernel_rfl) (tight_body (P := Try.prog) (fn := Try.f63)) ?_
            clear hs a; intro a hs
            refine d_no hs #[true, true, true, true, true, true, true, true, true, true, true, true, true, true, false, false, false, false, false, false, false, false] (i := 13) rfl rfl rfl (by decide) (by kernel_rfl) (tight_body (P := Try.prog) (fn := Try.f63)) ?_
            clear hs a; intro a hs
            refine d_no hs #[true, true, true, true, true, true, true, true, true, true, true, true, true, true, true, false, false, false, false, false, false, false] (i := 14) rfl rfl rfl (by decide) (by kernel_rfl) (tight_body (P := Try.prog) (fn := Try.f63)) ?_
            clear hs a; intro a hs
            refine d_no hs #[true, true, true, true, true, true, true, true, true, true, true, true, true, true, true, true, false, false, false, false, false, false] (i := 15) rfl rfl rfl (by decide) (by kernel_rfl) (tight_body (P := Try.prog) (fn := Try.f63)) ?_
            clear hs a; intro a hs
            replace hs := hs.to (τ := [(0, (.pointer (some t9))), (1, (.string name1)), (2, (Sl.val data2)), (7, (.int .i64 t22)), (33, (.bool true)), (35, undef), (38, undef)]) ⟨rfl, rfl, rfl, rfl, rfl, rfl, rfl, trivial⟩
            refine d_no hs #[true, true, true, true, true, true, true, true, true, true, true, true, true, true, true, true, true, false, false, false, false, false] (i := 16) rfl rfl rfl (by decide) (by kernel_rfl) (tight_body (P := Try.prog) (fn := Try.f63)) ?_
            clear hs a; intro a hs
            refine d_no hs #[true, true, true, true, true, true, true, true, true, true, true, true, true, true, true, true, true, true, false, false, false, false] (i := 17) rfl rfl rfl (by decide) (by kernel_rfl) (tight_body (P := Try.prog) (fn := Try.f63)) ?_
            clear hs a; intro a hs
            refine d_no hs #[true, true, true, true, true, true, true, true, true, true, true, true, true, true, true, true, true, true, true, false, false, false] (i := 18) rfl rfl rfl (by decide) (by kernel_rfl) (tight_body (P := Try.prog) (fn := Try.f63)) ?_
            clear hs a; intro a hs
            refine d_no hs #[true, true, true, true, true, true, true, true, true, true, true, true, true, true, true, true, true, true, true, true, false, false] (i := 19) rfl rfl rfl (by decide) (by kernel_rfl) (tight_body (P := Try.prog) (fn := Try.f63)) ?_
            clear hs a; intro a hs
            refine d_no hs #[true, true, true, true, true, true, true, true, true, true, true, true, true, true, true, true, true, true, true, true, true, false] (i := 20) rfl rfl rfl (by decide) (by kernel_rfl) (tight_body (P := Try.prog) (fn := Try.f63)) ?_
            clear hs a; intro a hs
            refine d_pure hs #[true, true, true, true, true, true, true, true, true, true, true, true, true, true, true, true, true, true, true, true, true, true] (i := 21) rfl rfl rfl (by decide) (by kernel_rfl) (tight_body (P := Try.prog) (fn := Try.f63)) (p_pick_t rfl rfl rfl) ?_
            clear hs a; intro a hs
            refine d_done (by kernel_rfl) ?_ _
            clear hS
            exact J2 true _ _ (hs.to ⟨rfl, rfl, rfl, rfl, rfl, trivial⟩) h
          · replace h := h.2 hb
            rw [hb] at hs
            clear hb
            refine d_pure hs #[true, true, true, true, true, true, true, true, true, true, true, true, false, false, false, false, false, false, false, false, false, false] (i := 11) rfl rfl rfl (by decide) (by kernel_rfl) (tight_body (P := Try.prog) (fn := Try.f63)) (p_move rfl rfl) ?_
            clear hs a; intro a hs
            refine d_pure hs #[true, true, true, true, true, true, true, true, true, true, true, true, true, false, false, false, false, false, false, false, false, false] (i := 12) rfl rfl rfl (by decide) (by kernel_rfl) (tight_body (P := Try.prog) (fn := Try.f63)) (p_len rfl rfl sl_33) ?_
            clear hs a; intro a hs
            refine d_pure hs #[true, true, true, true, true, true, true, true, true, true, true, true, true, true, false, false, false, false, false, false, false, false] (i := 13) rfl rfl rfl (by decide) (by kernel_rfl) (tight_body (P := Try.prog) (fn := Try.f63)) (p_move rfl rfl) ?_
            clear hs a; intro a hs
            refine d_pure hs #[true, true, true, true, true, true, true, true, true, true, true, true, true, true, true, false, false, false, false, false, false, false] (i := 14) rfl rfl rfl (by decide) (by kernel_rfl) (tight_body (P := Try.prog) (fn := Try.f63)) (p_nil rfl rfl) ?_
            clear hs a; intro a hs
            refine d_pure hs #[true, true, true, true, true, true, true, true, true, true, true, true, true, true, true, true, false, false, false, false, false, false] (i := 15) rfl rfl rfl (by decide) (by kernel_rfl) (tight_body (P := Try.prog) (fn := Try.f63)) (p_fieldAddr0 rfl rfl ft_87_0) ?_
            clear hs a; intro a hs
            replace hs := hs.to (τ := [(0, (.pointer (some t9))), (1, (.string name1)), (2, (Sl.val data2)), (7, (.int .i64 t22)), (33, (.bool false)), (35, (.int .i64 (data2.n : Int))), (38, (.pointer (some t9)))]) ⟨rfl, rfl, rfl, rfl, rfl, rfl, rfl, trivial⟩
            refine d_pure hs #[true, true, true, true, true, true, true, true, true, true, true, true, true, true, true, true, false, true, false, false, false, false] (i := 17) rfl rfl rfl (by decide) (by kernel_rfl) (tight_body (P := Try.prog) (fn := Try.f63)) (p_move rfl rfl) ?_
            clear hs a; intro a hs
            obtain ⟨t39, hv, h⟩ := h
            refine d_read hs #[true, true, true, true, true, true, true, true, true, true, true, true, true, true, true, true, true, true, false, false, false, false] (i := 16) rfl rfl rfl (by decide) (by kernel_rfl) (by kernel_rfl) (tight_body (P := Try.prog) (fn := Try.f63)) hS (fun w h' => e_load rfl rfl ct_3 (hv w h')) ?_
            clear hs a hv; intro a hs
            refine d_all [18] (by kernel_rfl) (by decide) ?_
            refine AllS.cons ?_ AllS.nil
            refine d_call hs #[true, true, true, true, true, true, true, true, true, true, true, true, true, true, true, true, true, true, true, false, false, false] (i := 18) rfl rfl rfl (by decide) rfl (e_call rfl rfl rfl cb_55) h (fun v w'' hk => by obtain ⟨t41, _, hS, _⟩ := hk; exact fun _ _ => hS) ?_
            clear hs a h
            intro v a w hk hs
            obtain ⟨t41, rfl, h⟩ := hk
            obtain ⟨hS, h⟩ := h
            obtain ⟨t42, he, h⟩ := h
            refine d_pure hs #[true, true, true, true, true, true, true, true, true, true, true, true, true, true, true, true, true, true, true, true, false, false] (i := 19) rfl rfl rfl (by decide) (by kernel_rfl) (tight_body (P := Try.prog) (fn := Try.f63)) (Pure.int he (p_sub rfl rfl rfl)) ?_
            clear hs a he; intro a hs
            refine d_pure hs #[true, true, true, true, true, true, true, true, true, true, true, true, true, true, true, true, true, true, true, true, true, false] (i := 20) rfl rfl rfl (by decide) (by kernel_rfl) (tight_body (P := Try.prog) (fn := Try.f63)) (p_gt rfl rfl rfl) ?_
            clear hs a; intro a hs
            refine d_pure hs #[true, true, true, true, true, true, true, true, true, true, true, true, true, true, true, true, true, true, true, true, true, true] (i := 21) rfl rfl rfl (by decide) (by kernel_rfl) (tight_body (P := Try.prog) (fn := Try.f63)) (p_pick_f rfl rfl rfl) ?_
            clear hs a; intro a hs
            refine d_done (by kernel_rfl) ?_ _
            clear hS
            exact J2 (decide (t42 < (data2.n : Int))) _ _ (hs.to ⟨rfl, rfl, rfl, rfl, rfl, trivial⟩) h
        · replace h := h.2 hb
          rw [hb] at hs
          clear hb
          refine d_no hs #[true, true, true, true, false, false, false, false, false, false, false, false, false, false, false, false, false, false, false, false, false, false] (i := 3) rfl rfl rfl (by decide) (by kernel_rfl) (tight_body (P := Try.prog) (fn := Try.f63)) ?_
          clear hs a; intro a hs
          refine d_no hs #[true, true, true, true, true, false, false, false, false, false, false, false, false, false, false, false, false, false, false, false, false, false] (i := 4) rfl rfl rfl (by decide) (by kernel_rfl) (tight_body (P := Try.prog) (fn := Try.f63)) ?_
          clear hs a; intro a hs
          refine d_no hs #[true, true, true, true, true, true, false, false, false, false, false, false, false, false, false, false, false, false, false, false, false, false] (i := 5) rfl rfl rfl (by decide) (by kernel_rfl) (tight_body (P := Try.prog) (fn := Try.f63)) ?_
          clear hs a; intro a hs
          refine d_no hs #[true, true, true, true, true, true, true, false, false, false, false, false, false, false, false, false, false, false, false, false, false, false] (i := 6) rfl rfl rfl (by decide) (by kernel_rfl) (tight_body (P := Try.prog) (fn := Try.f63)) ?_
          clear hs a; intro a hs
          refine d_no hs #[true, true, true, true, true, true, true, true, false, false, false, false, false, false, false, false, false, false, false, false, false, false] (i := 7) rfl rfl rfl (by decide) (by kernel_rfl) (tight_body (P := Try.prog) (fn := Try.f63)) ?_
          clear hs a; intro a hs
          replace hs := hs.to (τ := [(0, (.pointer (some t9))), (1, (.string name1)), (2, (Sl.val data2)), (7, (.int .i64 t22)), (25, (.bool false)), (30, undef)]) ⟨rfl, rfl, rfl, rfl, rfl, rfl, trivial⟩
          refine d_no hs #[true, true, true, true, true, true, true, true, true, false, false, false, false, false, false, false, false, false, false, false, false, false] (i := 8) rfl rfl rfl (by decide) (by kernel_rfl) (tight_body (P := Try.prog) (fn := Try.f63)) ?_
          clear hs a; intro a hs
          refine d_pure hs #[true, true, true, true, true, true, true, true, true, true, false, false, false, false, false, false, false, false, false, false, false, false] (i := 9) rfl rfl rfl (by decide) (by kernel_rfl) (tight_body (P := Try.prog) (fn := Try.f63)) (p_pick_f rfl rfl rfl) ?_
          clear hs a; intro a hs
          refine d_pure hs #[true, true, true, true, true, true, true, true, true, true, true, false, false, false, false, false, false, false, false, false, false, false] (i := 10) rfl rfl rfl (by decide) (by kernel_rfl) (tight_body (P := Try.prog) (fn := Try.f63)) (p_move rfl rfl) ?_
          clear hs a; intro a hs
          refine d_pure hs #[true, true, true, true, true, true, true, true, true, true, true, true, false, false, false, false, false, false, false, false, false, false] (i := 11) rfl rfl rfl (by decide) (by kernel_rfl) (tight_body (P := Try.prog) (fn := Try.f63)) (p_move rfl rfl) ?_
          clear hs a; intro a hs
          refine d_pure hs #[true, true, true, true, true, true, true, true, true, true, true, true, true, false, false, false, false, false, false, false, false, false] (i := 12) rfl rfl rfl (by decide) (by kernel_rfl) (tight_body (P := Try.prog) (fn := Try.f63)) (p_len rfl rfl sl_33) ?_
          clear hs a; intro a hs
          refine d_pure hs #[true, true, true, true, true, true, true, true, true, true, true, true, true, true, false, false, false, false, false, false, false, false] (i := 13) rfl rfl rfl (by decide) (by kernel_rfl) (tight_body (P := Try.prog) (fn := Try.f63)) (p_move rfl rfl) ?_
          clear hs a; intro a hs
          refine d_pure hs #[true, true, true, true, true, true, true, true, true, true, true, true, true, true, true, false, false, false, false, false, false, false] (i := 14) rfl rfl rfl (by decide) (by kernel_rfl) (tight_body (P := Try.prog) (fn := Try.f63)) (p_nil rfl rfl) ?_
          clear hs a; intro a hs
          refine d_pure hs #[true, true, true, true, true, true, true, true, true, true, true, true, true, true, true, true, false, false, false, false, false, false] (i := 15) rfl rfl rfl (by decide) (by kernel_rfl) (tight_body (P := Try.prog) (fn := Try.f63)) (p_fieldAddr0 rfl rfl ft_87_0) ?_
          clear hs a; intro a hs
          replace hs := hs.to (τ := [(0, (.pointer (some t9))), (1, (.string name1)), (2, (Sl.val data2)), (7, (.int .i64 t22)), (33, (.bool false)), (35, (.int .i64 (data2.n : Int))), (38, (.pointer (some t9)))]) ⟨rfl, rfl, rfl, rfl, rfl, rfl, rfl, trivial⟩
          refine d_pure hs #[true, true, true, true, true, true, true, true, true, true, true, true, true, true, true, true, false, true, false, false, false, false] (i := 17) rfl rfl rfl (by decide) (by kernel_rfl) (tight_body (P := Try.prog) (fn := Try.f63)) (p_move rfl rfl) ?_
          clear hs a; intro a hs
          obtain ⟨t39, hv, h⟩ := h
          refine d_read hs #[true, true, true, true, true, true, true, true, true, true, true, true, true, true, true, true, true, true, false, false, false, false] (i := 16) rfl rfl rfl (by decide) (by kernel_rfl) (by kernel_rfl) (tight_body (P := Try.prog) (fn := Try.f63)) hS (fun w h' => e_load rfl rfl ct_3 (hv w h')) ?_
          clear hs a hv; intro a hs
          refine d_all [18] (by kernel_rfl) (by decide) ?_
          refine AllS.cons ?_ AllS.nil
          refine d_call hs #[true, true, true, true, true, true, true, true, true, true, true, true, true, true, true, true, true, true, true, false, false, false] (i := 18) rfl rfl rfl (by decide) rfl (e_call rfl rfl rfl cb_55) h (fun v w'' hk => by obtain ⟨t41, _, hS, _⟩ := hk; exact fun _ _ => hS) ?_
          clear hs a h
          intro v a w hk hs
          obtain ⟨t41, rfl, h⟩ := hk
          obtain ⟨hS, h⟩ := h
          obtain ⟨t42, he, h⟩ := h
          refine d_pure hs #[true, true, true, true, true, true, true, true, true, true, true, true, true, true, true, true, true, true, true, true, false, false] (i := 19) rfl rfl rfl (by decide) (by kernel_rfl) (tight_body (P := Try.prog) (fn := Try.f63)) (Pure.int he (p_sub rfl rfl rfl)) ?_
          clear hs a he; intro a hs
          refine d_pure hs #[true, true, true, true, true, true, true, true, true, true, true, true, true, true, true, true, true, true, true, true, true, false] (i := 20) rfl rfl rfl (by decide) (by kernel_rfl) (tight_body (P := Try.prog) (fn := Try.f63)) (p_gt rfl rfl rfl) ?_
          clear hs a; intro a hs
          refine d_pure hs #[true, true, true, true, true, true, true, true, true, true, true, true, true, true, true, true, true, true, true, true, true, true] (i := 21) rfl rfl rfl (by decide) (by kernel_rfl) (tight_body (P := Try.prog) (fn := Try.f63)) (p_pick_f rfl rfl rfl) ?_
          clear hs a; intro a hs
          refine d_done (by kernel_rfl) ?_ _
          clear hS
          exact J2 (decide (t42 < (data2.n : Int))) _ _ (hs.to ⟨rfl, rfl, rfl, rfl, rfl, trivial⟩) h
    clear hK6
    refine wp_region_lit ?_
    refine t_pure hs rfl rfl (by decide) (p_move rfl rfl) ?_
    clear hs a; intro a hs
    refine t_pure hs rfl rfl (by decide) (p_lens rfl rfl st_9) ?_
    clear hs a; intro a hs
    refine t_pure hs rfl rfl (by decide) (p_lt rfl rfl rfl) ?_
    clear hs a; intro a hs
    refine t_pure hs rfl rfl (by decide) (p_move rfl rfl) ?_
    clear hs a; intro a hs
    refine split_bool (decide ((name1.size : Int) < 1)) (fun hb => ?_) (fun hb => ?_)
    · replace h := h.1 hb
      rw [hb] at hs
      clear hb
      refine t_no hs rfl rfl (by decide) ?_
      clear hs a; intro a hs
      refine t_no hs rfl rfl (by decide) ?_
      clear hs a; intro a hs
      refine t_no hs rfl rfl (by decide) ?_
      clear hs a; intro a hs
      refine t_pure hs rfl rfl (by decide) (p_pick_t rfl rfl rfl) ?_
      clear hs a; intro a hs
      exact J1 true _ _ (hs.to ⟨rfl, rfl, rfl, rfl, trivial⟩) h
    · replace h := h.2 hb
      rw [hb] at hs
      clear hb
      refine t_yes hs rfl ?_
      refine t_pure hs rfl rfl (by decide) (p_move rfl rfl) ?_
      clear hs a; intro a hs
      refine t_yes hs rfl ?_
      refine t_pure hs rfl rfl (by decide) (p_lens rfl rfl st_9) ?_
      clear hs a; intro a hs
      refine t_yes hs rfl ?_
      refine t_pure hs rfl rfl (by decide) (p_gt rfl rfl rfl) ?_
      clear hs a; intro a hs
      refine t_pure hs rfl rfl (by decide) (p_pick_f rfl rfl rfl) ?_
      clear hs a; intro a hs
      exact J1 (decide ((16 : Int) < (name1.size : Int))) _ _ (hs.to ⟨rfl, rfl, rfl, rfl, trivial⟩) h
def ref03_Disk_find (d0 : (Option Addr)) (name1 : ByteArray) (Q : Int → Int → K) : K :=
  Nn d0 fun t8 =>
  Ld (t8.add 3) Value.bool fun t10 =>
  Ite t10
    (Q (-1) 3)
    (ref03_Disk_At.call (some t8) name1 fun t13 =>
    Ite (decide (t13 < 0))
      (Q (-1) 60)
      (Q t13 0))
theorem ref03_Disk_find_ok (d0 : (Option Addr)) (name1 : ByteArray) (Q : Int → Int → K) (w : World) (h : ref03_Disk_find d0 name1 Q w) : ref03_Disk_find.call d0 name1 Q w := by
  unfold ref03_Disk_find.call CallF
  refine f_start (args := [(.pointer d0), (.string name1)]) Try.func74 rfl (Nat.le_of_ble_eq_true rfl) ?_
  intro a hs
  unfold ref03_Disk_find at h
  refine wp_seq_k fun K1 hK1 => ?_
  refine wp_region_lit ?_
  refine t_pure hs rfl rfl (by decide) (p_assign rfl rfl) ?_
  clear hs a; intro a hs
  refine t_pure hs rfl rfl (by decide) (p_assign rfl rfl) ?_
  clear hs a; intro a hs
  refine hK1 _ _ ?_
  refine wp_seq_k fun K2 hK2 => ?_
  refine wp_seq_k fun K3 hK3 => ?_
  refine wp_region_lit ?_
  refine t_pure hs rfl rfl (by decide) (p_move rfl rfl) ?_
  clear hs a; intro a hs
  obtain ⟨t8, rfl, h⟩ := h
  refine t_pure hs rfl rfl (by decide) (p_nil rfl rfl) ?_
  clear hs a; intro a hs
  refine t_pure hs rfl rfl (by decide) (p_fieldAddr rfl rfl ft_87_3) ?_
  clear hs a; intro a hs
  obtain ⟨t10, hv, h⟩ := h
  refine t_eff hs rfl rfl (by decide) (e_load rfl rfl ct_4 hv) ?_
  clear hs a hv; intro a hs
  refine hK3 _ _ ?_
  refine c_cond hs rfl (fun hb => ?_) (fun hb => ?_)
  · replace h := h.1 hb
    clear hb
    refine wp_seq_k fun K4 hK4 => ?_
    refine wp_region_lit ?_
    refine t_pure hs rfl rfl (by decide) (p_assign rfl rfl) ?_
    clear hs a; intro a hs
    refine t_pure hs rfl rfl (by decide) (p_assign rfl rfl) ?_
    clear hs a; intro a hs
    refine hK4 _ _ ?_
    refine wp_ret ?_
    refine f_ret (fn := Try.f74) hs (fun a hs => r_many hs (rs := [ResultVar.tmp 4, ResultVar.tmp 5]) (vs := [(.int .i64 (-1)), (.int .i64 3)]) rfl (by decide) ⟨rfl, rfl, trivial⟩) ⟨(-1), 3, rfl, h⟩
  · replace h := h.2 hb
    clear hb
    refine wp_skip ?_
    refine hK2 _ _ ?_
    refine wp_seq_k fun K5 hK5 => ?_
    refine wp_region_lit ?_
    refine t_pure hs rfl rfl (by decide) (p_move rfl rfl) ?_
    clear hs a; intro a hs
    refine t_pure hs rfl rfl (by decide) (p_move rfl rfl) ?_
    clear hs a; intro a hs
    refine t_call hs rfl rfl (by decide) (e_call rfl rfl rfl cb_78) h ?_
    clear hs a h
    intro v a w hk hs
    obtain ⟨t13, rfl, h⟩ := hk
    refine t_pure hs rfl rfl (by decide) (p_assign rfl rfl) ?_
    clear hs a; intro a hs
    refine hK5 _ _ ?_
    refine wp_seq_k fun K6 hK6 => ?_
    refine wp_seq_k fun K7 hK7 => ?_
    refine wp_region_lit ?_
    refine t_pure hs rfl rfl (by decide) (p_move rfl rfl) ?_
    clear hs a; intro a hs
    refine t_pure hs rfl rfl (by decide) (p_lt rfl rfl rfl) ?_
    clear hs a; intro a hs
    refine hK7 _ _ ?_
    refine c_cond hs rfl (fun hb => ?_) (fun hb => ?_)
    · replace h := h.1 hb
      clear hb
      refine wp_seq_k fun K8 hK8 => ?_
      refine wp_region_lit ?_
      refine t_pure hs rfl rfl (by decide) (p_assign rfl rfl) ?_
      clear hs a; intro a hs
      refine t_pure hs rfl rfl (by decide) (p_assign rfl rfl) ?_
      clear hs a; intro a hs
      refine hK8 _ _ ?_
      refine wp_ret ?_
      refine f_ret (fn := Try.f74) hs (fun a hs => r_many hs (rs := [ResultVar.tmp 4, ResultVar.tmp 5]) (vs := [(.int .i64 (-1)), (.int .i64 60)]) rfl (by decide) ⟨rfl, rfl, trivial⟩) ⟨(-1), 60, rfl, h⟩
    · replace h := h.2 hb
      clear hb
      refine wp_skip ?_
      refine hK6 _ _ ?_
      refine wp_seq_k fun K9 hK9 => ?_
      refine wp_region_lit ?_
      refine t_pure hs rfl rfl (by decide) (p_move rfl rfl) ?_
      clear hs a; intro a hs
      refine t_pure hs rfl rfl (by decide) (p_assign rfl rfl) ?_
      clear hs a; intro a hs
      refine t_pure hs rfl rfl (by decide) (p_assign rfl rfl) ?_
      clear hs a; intro a hs
      refine hK9 _ _ ?_
      refine wp_ret ?_
      refine f_ret (fn := Try.f74) hs (fun a hs => r_many hs (rs := [ResultVar.tmp 4, ResultVar.tmp 5]) (vs := [(.int .i64 t13), (.int .i64 0)]) rfl (by decide) ⟨rfl, rfl, trivial⟩) ⟨t13, 0, rfl, h⟩
end Go.Proofs.Ytgnkminakongkaa
