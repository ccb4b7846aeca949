/- Plain forms of functions, and that their code comes to them (package wal). -/
import Derived.Test.YtdpepgjbambinaaCalls
namespace Go.Proofs.Ytdpepgjbambinaa
open Go Go.Sep
set_option linter.unusedVariables false
set_option linter.unusedSimpArgs false
set_option maxRecDepth 100000
set_option maxHeartbeats 4000000
def wal_Open.s1 (Q : (Option Addr) → Int → K)  (d0_1 : (Option Addr)) (name1_1 : ByteArray) (size2_1 : Int) (t24_1 : Bool) : K :=
  Ite t24_1
    (Q none 1)
    (New 159 #[(.pointer d0_1), (.string name1_1), (.int .i64 size2_1), (.int .i64 0), (.int .i64 0), (.bool false), (Sl.val ⟨none, 0, 0⟩)] fun t29 =>
    wal_Log_load.call (some t29) fun t31 =>
    Ite (decide (t31 ≠ 0))
      (Q none t31)
      (Q (some t29) 0))
def wal_Open (d0 : (Option Addr)) (name1 : ByteArray) (size2 : Int) (Q : (Option Addr) → Int → K) : K :=
  Ite (name1.toList == (⟨#[]⟩ : ByteArray).toList)
    (wal_Open.s1 Q d0 name1 size2 true)
    (Ite (decide ((8 : Int) < (name1.size : Int)))
      (wal_Open.s1 Q d0 name1 size2 true)
      (Ite (decide (size2 < 16))
        (wal_Open.s1 Q d0 name1 size2 true)
        (wal_Open.s1 Q d0 name1 size2 (decide ((65536 : Int) < size2)))))
theorem wal_Open_ok (d0 : (Option Addr)) (name1 : ByteArray) (size2 : Int) (Q : (Option Addr) → Int → K) (w : World) (h : wal_Open d0 name1 size2 Q w) : wal_Open.call d0 name1 size2 Q w := by
  unfold wal_Open.call CallF
  refine f_start (args := [(.pointer d0), (.string name1), (.int .i64 size2)]) Try.func28 rfl (Nat.le_of_ble_eq_true rfl) ?_
  intro a hs
  unfold wal_Open at h
  refine wp_seq_k fun K1 hK1 => ?_
  refine wp_region_lit ?_
  refine t_pure hs rfl rfl (by decide) (p_assign rfl rfl) ?_
  clear hs a; intro a hs
  refine t_pure hs rfl rfl (by decide) (p_assign rfl rfl) ?_
  clear hs a; intro a hs
  refine hK1 _ _ ?_
  refine wp_seq_k fun K2 hK2 => ?_
  refine wp_seq_k fun K3 hK3 => ?_
  have J1 : ∀ (t24_1 : Bool) (a : Act) (w : World), Slots a 36 [(0, (.pointer d0)), (1, (.string name1)), (2, (.int .i64 size2)), (24, (.bool t24_1))] → wal_Open.s1 Q d0 name1 size2 t24_1 w → K3 a w := by
    clear h hs
    intro t24_1 a w hs h
    refine hK3 _ _ ?_
    unfold wal_Open.s1 at h
    refine c_cond hs rfl (fun hb => ?_) (fun hb => ?_)
    · replace h := h.1 hb
      clear hb
      refine wp_seq_k fun K4 hK4 => ?_
      refine wp_region_lit ?_
      refine t_pure hs rfl rfl (by decide) (p_assign rfl rfl) ?_
      clear hs a; intro a hs
      refine t_pure hs rfl rfl (by decide) (p_assign rfl rfl) ?_
      clear hs a; intro a hs
      refine hK4 _ _ ?_
      refine wp_ret ?_
      refine f_ret (fn := Try.f28) hs (fun a hs => r_many hs (rs := [ResultVar.tmp 6, ResultVar.tmp 7]) (vs := [(.pointer none), (.int .i64 1)]) rfl (by decide) ⟨rfl, rfl, trivial⟩) ⟨none, 1, rfl, h⟩
    · replace h := h.2 hb
      clear hb
      refine wp_skip ?_
      refine hK2 _ _ ?_
      refine wp_seq_k fun K5 hK5 => ?_
      refine wp_region_lit ?_
      refine t_pure hs rfl rfl (by decide) (p_move rfl rfl) ?_
      clear hs a; intro a hs
      refine t_pure hs rfl rfl (by decide) (p_move rfl rfl) ?_
      clear hs a; intro a hs
      refine t_pure hs rfl rfl (by decide) (p_move rfl rfl) ?_
      clear hs a; intro a hs
      refine t_pure hs rfl rfl (by decide) (e_build (cs := #[(.pointer d0), (.string name1), (.int .i64 size2), (.int .i64 0), (.int .i64 0), (.bool false), (Sl.val ⟨none, 0, 0⟩)]) rfl zt_159 pl_159 rfl rfl) ?_
      clear hs a; intro a hs
      obtain ⟨t29, w1, ha, hw, h⟩ := h
      refine t_eff hs rfl rfl (by decide) (e_box rfl rfl rfl ha hw) ?_
      clear hs a ha hw; intro a hs
      refine t_pure hs rfl rfl (by decide) (p_assign rfl rfl) ?_
      clear hs a; intro a hs
      refine hK5 _ _ ?_
      refine wp_seq_k fun K6 hK6 => ?_
      refine wp_seq_k fun K7 hK7 => ?_
      refine wp_region_lit ?_
      refine t_pure hs rfl rfl (by decide) (p_move rfl rfl) ?_
      clear hs a; intro a hs
      refine t_call hs rfl rfl (by decide) (e_call rfl rfl rfl cb_65) h ?_
      clear hs a h
      intro v a w hk hs
      obtain ⟨t31, rfl, h⟩ := hk
      refine t_pure hs rfl rfl (by decide) (p_assign rfl rfl) ?_
      clear hs a; intro a hs
      refine hK7 _ _ ?_
      refine wp_seq_k fun K8 hK8 => ?_
      refine wp_region_lit ?_
      refine t_pure hs rfl rfl (by decide) (p_move rfl rfl) ?_
      clear hs a; intro a hs
      refine t_pure hs rfl rfl (by decide) (p_ne rfl rfl rfl) ?_
      clear hs a; intro a hs
      refine hK8 _ _ ?_
      refine c_cond hs rfl (fun hb => ?_) (fun hb => ?_)
      · replace h := h.1 hb
        clear hb
        refine wp_seq_k fun K9 hK9 => ?_
        refine wp_region_lit ?_
        refine t_pure hs rfl rfl (by decide) (p_move rfl rfl) ?_
        clear hs a; intro a hs
        refine t_pure hs rfl rfl (by decide) (p_assign rfl rfl) ?_
        clear hs a; intro a hs
        refine t_pure hs rfl rfl (by decide) (p_assign rfl rfl) ?_
        clear hs a; intro a hs
        refine hK9 _ _ ?_
        refine wp_ret ?_
        refine f_ret (fn := Try.f28) hs (fun a hs => r_many hs (rs := [ResultVar.tmp 6, ResultVar.tmp 7]) (vs := [(.pointer none), (.int .i64 t31)]) rfl (by decide) ⟨rfl, rfl, trivial⟩) ⟨none, t31, rfl, h⟩
      · replace h := h.2 hb
        clear hb
        refine wp_skip ?_
        refine hK6 _ _ ?_
        refine wp_seq_k fun K10 hK10 => ?_
        refine wp_region_lit ?_
        refine t_pure hs rfl rfl (by decide) (p_move rfl rfl) ?_
        clear hs a; intro a hs
        refine t_pure hs rfl rfl (by decide) (p_assign rfl rfl) ?_
        clear hs a; intro a hs
        refine t_pure hs rfl rfl (by decide) (p_assign rfl rfl) ?_
        clear hs a; intro a hs
        refine hK10 _ _ ?_
        refine wp_ret ?_
        refine f_ret (fn := Try.f28) hs (fun a hs => r_many hs (rs := [ResultVar.tmp 6, ResultVar.tmp 7]) (vs := [(.pointer (some t29)), (.int .i64 0)]) rfl (by decide) ⟨rfl, rfl, trivial⟩) ⟨(some t29), 0, rfl, h⟩
  clear hK3
  refine wp_region_lit ?_
  refine t_pure hs rfl rfl (by decide) (p_move rfl rfl) ?_
  clear hs a; intro a hs
  refine t_pure hs rfl rfl (by decide) (p_eqs rfl rfl rfl) ?_
  clear hs a; intro a hs
  refine t_pure hs rfl rfl (by decide) (p_move rfl rfl) ?_
  clear hs a; intro a hs
  refine split_bool (name1.toList == (⟨#[]⟩ : ByteArray).toList) (fun hb => ?_) (fun hb => ?_)
  · replace h := h.1 hb
    rw [hb] at hs
    clear hb
    refine t_no hs rfl rfl (by decide) ?_
    clear hs a; intro a hs
    refine t_no hs rfl rfl (by decide) ?_
    clear hs a; intro a hs
    refine t_no hs rfl rfl (by decide) ?_
    clear hs a; intro a hs
    refine t_pure hs rfl rfl (by decide) (p_pick_t rfl rfl rfl) ?_
    clear hs a; intro a hs
    refine t_pure hs rfl rfl (by decide) (p_move rfl rfl) ?_
    clear hs a; intro a hs
    replace hs := hs.to (τ := [(0, (.pointer d0)), (1, (.string name1)), (2, (.int .i64 size2)), (17, (.bool true))]) ⟨rfl, rfl, rfl, rfl, trivial⟩
    refine t_no hs rfl rfl (by decide) ?_
    clear hs a; intro a hs
    refine t_no hs rfl rfl (by decide) ?_
    clear hs a; intro a hs
    refine t_pure hs rfl rfl (by decide) (p_pick_t rfl rfl rfl) ?_
    clear hs a; intro a hs
    refine t_pure hs rfl rfl (by decide) (p_move rfl rfl) ?_
    clear hs a; intro a hs
    refine t_no hs rfl rfl (by decide) ?_
    clear hs a; intro a hs
    refine t_no hs rfl rfl (by decide) ?_
    clear hs a; intro a hs
    refine t_pure hs rfl rfl (by decide) (p_pick_t rfl rfl rfl) ?_
    clear hs a; intro a hs
    exact J1 true _ _ (hs.to ⟨rfl, rfl, rfl, rfl, trivial⟩) h
  · replace h := h.2 hb
    rw [hb] at hs
    clear hb
    refine t_yes hs rfl ?_
    refine t_pure hs rfl rfl (by decide) (p_move rfl rfl) ?_
    clear hs a; intro a hs
    refine t_yes hs rfl ?_
    refine t_pure hs rfl rfl (by decide) (p_lens rfl rfl st_9) ?_
    clear hs a; intro a hs
    refine t_yes hs rfl ?_
    refine t_pure hs rfl rfl (by decide) (p_gt rfl rfl rfl) ?_
    clear hs a; intro a hs
    refine t_pure hs rfl rfl (by decide) (p_pick_f rfl rfl rfl) ?_
    clear hs a; intro a hs
    refine t_pure hs rfl rfl (by decide) (p_move rfl rfl) ?_
    clear hs a; intro a hs
    replace hs := hs.to (τ := [(0, (.pointer d0)), (1, (.string name1)), (2, (.int .i64 size2)), (17, (.bool (decide ((8 : Int) < (name1.size : Int)))))]) ⟨rfl, rfl, rfl, rfl, trivial⟩
    refine split_bool (decide ((8 : Int) < (name1.size : Int))) (fun hb => ?_) (fun hb => ?_)
    · replace h := h.1 hb
      rw [hb] at hs
      clear hb
      refine t_no hs rfl rfl (by decide) ?_
      clear hs a; intro a hs
      refine t_no hs rfl rfl (by decide) ?_
      clear hs a; intro a hs
      refine t_pure hs rfl rfl (by decide) (p_pick_t rfl rfl rfl) ?_
      clear hs a; intro a hs
      refine t_pure hs rfl rfl (by decide) (p_move rfl rfl) ?_
      clear hs a; intro a hs
      refine t_no hs rfl rfl (by decide) ?_
      clear hs a; intro a hs
      refine t_no hs rfl rfl (by decide) ?_
      clear hs a; intro a hs
      refine t_pure hs rfl rfl (by decide) (p_pick_t rfl rfl rfl) ?_
      clear hs a; intro a hs
      exact J1 true _ _ (hs.to ⟨rfl, rfl, rfl, rfl, trivial⟩) h
    · replace h := h.2 hb
      rw [hb] at hs
      clear hb
      refine t_yes hs rfl ?_
      refine t_pure hs rfl rfl (by decide) (p_move rfl rfl) ?_
      clear hs a; intro a hs
      refine t_yes hs rfl ?_
      refine t_pure hs rfl rfl (by decide) (p_lt rfl rfl rfl) ?_
      clear hs a; intro a hs
      refine t_pure hs rfl rfl (by decide) (p_pick_f rfl rfl rfl) ?_
      clear hs a; intro a hs
      refine t_pure hs rfl rfl (by decide) (p_move rfl rfl) ?_
      clear hs a; intro a hs
      refine split_bool (decide (size2 < 16)) (fun hb => ?_) (fun hb => ?_)
      · replace h := h.1 hb
        rw [hb] at hs
        clear hb
        refine t_no hs rfl rfl (by decide) ?_
        clear hs a; intro a hs
        refine t_no hs rfl rfl (by decide) ?_
        clear hs a; intro a hs
        refine t_pure hs rfl rfl (by decide) (p_pick_t rfl rfl rfl) ?_
        clear hs a; intro a hs
        exact J1 true _ _ (hs.to ⟨rfl, rfl, rfl, rfl, trivial⟩) h
      · replace h := h.2 hb
        rw [hb] at hs
        clear hb
        refine t_yes hs rfl ?_
        refine t_pure hs rfl rfl (by decide) (p_move rfl rfl) ?_
        clear hs a; intro a hs
        refine t_yes hs rfl ?_
        refine t_pure hs rfl rfl (by decide) (p_gt rfl rfl rfl) ?_
        clear hs a; intro a hs
        refine t_pure hs rfl rfl (by decide) (p_pick_f rfl rfl rfl) ?_
        clear hs a; intro a hs
        exact J1 (decide ((65536 : Int) < size2)) _ _ (hs.to ⟨rfl, rfl, rfl, rfl, trivial⟩) h
def wal_Log_Sync (l0 : (Option Addr)) (Q : Int → K) : K :=
  Nn l0 fun t5 =>
  Ld (t5.add 5) Value.bool fun t7 =>
  Ite (!t7)
    (Q 0)
    (Dr <| WithS fun S =>
    LdS S t5 Value.pointer fun t12 =>
    LdS S (t5.add 3) (Value.int .i64) fun t17 =>
    wal_Log_file.call (some t5) t17 fun t18 =>
    Sv S <|
    disk_Disk_Sync.call t12 t18 fun t19 =>
    St (t5.add 5) (.bool (decide (t19 ≠ 0))) <|
    Q t19)
theorem wal_Log_Sync_ok (l0 : (Option Addr)) (Q : Int → K) (w : World) (h : wal_Log_Sync l0 Q w) : wal_Log_Sync.call l0 Q w := by
  unfold wal_Log_Sync.call CallF
  refine f_start (args := [(.pointer l0)]) Try.func29 rfl (Nat.le_of_ble_eq_true rfl) ?_
  intro a hs
  unfold wal_Log_Sync at h
  refine wp_seq_k fun K1 hK1 => ?_
  refine wp_region_lit ?_
  refine t_pure hs rfl rfl (by decide) (p_assign rfl rfl) ?_
  clear hs a; intro a hs
  refine hK1 _ _ ?_
  refine wp_seq_k fun K2 hK2 => ?_
  refine wp_seq_k fun K3 hK3 => ?_
  refine wp_region_lit ?_
  refine t_pure hs rfl rfl (by decide) (p_move rfl rfl) ?_
  clear hs a; intro a hs
  obtain ⟨t5, rfl, h⟩ := h
  refine t_pure hs rfl rfl (by decide) (p_nil rfl rfl) ?_
  clear hs a; intro a hs
  refine t_pure hs rfl rfl (by decide) (p_fieldAddr rfl rfl ft_159_5) ?_
  clear hs a; intro a hs
  obtain ⟨t7, hv, h⟩ := h
  refine t_eff hs rfl rfl (by decide) (e_load rfl rfl ct_4 hv) ?_
  clear hs a hv; intro a hs
  refine t_pure hs rfl rfl (by decide) (p_not rfl rfl) ?_
  clear hs a; intro a hs
  refine hK3 _ _ ?_
  refine c_cond hs rfl (fun hb => ?_) (fun hb => ?_)
  · replace h := h.1 hb
    clear hb
    refine wp_seq_k fun K4 hK4 => ?_
    refine wp_region_lit ?_
    refine t_pure hs rfl rfl (by decide) (p_assign rfl rfl) ?_
    clear hs a; intro a hs
    refine hK4 _ _ ?_
    refine wp_ret ?_
    refine f_ret (fn := Try.f29) hs (fun a hs => r_one hs rfl (rfl)) ⟨0, rfl, h⟩
  · replace h := h.2 hb
    clear hb
    refine wp_skip ?_
    refine hK2 _ _ ?_
    refine wp_seq_k fun K5 hK5 => ?_
    obtain ⟨w1, hw1, h⟩ := h
    obtain ⟨S, hS, h⟩ := h
    subst hw1
    refine d_start (S := S) (ds := [10]) #[false, false, false, false, false, false, false, false, false, false, false, false] mixed rfl rfl ?_
    refine d_pure hs #[true, false, false, false, false, false, false, false, false, false, false, false] (i := 0) rfl rfl rfl (by decide) (by kernel_rfl) (tight_body (P := Try.prog) (fn := Try.f29)) (p_move rfl rfl) ?_
    clear hs a; intro a hs
    refine d_pure hs #[true, true, false, false, false, false, false, false, false, false, false, false] (i := 1) rfl rfl rfl (by decide) (by kernel_rfl) (tight_body (P := Try.prog) (fn := Try.f29)) (p_nil rfl rfl) ?_
    clear hs a; intro a hs
    refine d_pure hs #[true, true, true, false, false, false, false, false, false, false, false, false] (i := 2) rfl rfl rfl (by decide) (by kernel_rfl) (tight_body (P := Try.prog) (fn := Try.f29)) (p_fieldAddr0 rfl rfl ft_159_0) ?_
    clear hs a; intro a hs
    refine d_pure hs #[true, true, true, false, true, false, false, false, false, false, false, false] (i := 4) rfl rfl rfl (by decide) (by kernel_rfl) (tight_body (P := Try.prog) (fn := Try.f29)) (p_move rfl rfl) ?_
    clear hs a; intro a hs
    refine d_pure hs #[true, true, true, false, true, true, false, false, false, false, false, false] (i := 5) rfl rfl rfl (by decide) (by kernel_rfl) (tight_body (P := Try.prog) (fn := Try.f29)) (p_move rfl rfl) ?_
    clear hs a; intro a hs
    refine d_pure hs #[true, true, true, false, true, true, true, false, false, false, false, false] (i := 6) rfl rfl rfl (by decide) (by kernel_rfl) (tight_body (P := Try.prog) (fn := Try.f29)) (p_nil rfl rfl) ?_
    clear hs a; intro a hs
    refine d_pure hs #[true, true, true, false, true, true, true, true, false, false, false, false] (i := 7) rfl rfl rfl (by decide) (by kernel_rfl) (tight_body (P := Try.prog) (fn := Try.f29)) (p_fieldAddr rfl rfl ft_159_3) ?_
    clear hs a; intro a hs
    obtain ⟨t12, hv, h⟩ := h
    refine d_read hs #[true, true, true, true, true, true, true, true, false, false, false, false] (i := 3) rfl rfl rfl (by decide) (by kernel_rfl) (by kernel_rfl) (tight_body (P := Try.prog) (fn := Try.f29)) hS (fun w h' => e_load rfl rfl ct_57 (hv w h')) ?_
    clear hs a hv; intro a hs
    replace hs := hs.to (τ := [(0, (.pointer (some t5))), (12, (.pointer t12)), (13, (.pointer (some t5))), (16, (.pointer (some (t5.add 3))))]) ⟨rfl, rfl, rfl, rfl, trivial⟩
    obtain ⟨t17, hv, h⟩ := h
    refine d_read hs #[true, true, true, true, true, true, true, true, true, false, false, false] (i := 8) rfl rfl rfl (by decide) (by kernel_rfl) (by kernel_rfl) (tight_body (P := Try.prog) (fn := Try.f29)) hS (fun w h' => e_load rfl rfl ct_3 (hv w h')) ?_
    clear hs a hv; intro a hs
    refine d_all [9] (by kernel_rfl) (by decide) ?_
    refine AllS.cons ?_ AllS.nil
    refine d_call hs #[true, true, true, true, true, true, true, true, true, true, false, false] (i := 9) rfl rfl rfl (by decide) rfl (e_call rfl rfl rfl cb_66) h (fun v w'' hk => by obtain ⟨t18, _, hS, _⟩ := hk; exact fun _ _ => hS) ?_
    clear hs a h
    intro v a w hk hs
    obtain ⟨t18, rfl, h⟩ := hk
    obtain ⟨hS, h⟩ := h
    refine d_all [10] (by kernel_rfl) (by decide) ?_
    refine AllS.cons ?_ AllS.nil
    refine d_call hs #[true, true, true, true, true, true, true, true, true, true, true, false] (i := 10) rfl rfl rfl (by decide) rfl (e_call rfl rfl rfl cb_35) h (fun _ _ _ hn => (hn (by decide)).elim) ?_
    clear hs a h
    intro v a w hk hs
    obtain ⟨t19, rfl, h⟩ := hk
    refine d_pure hs #[true, true, true, true, true, true, true, true, true, true, true, true] (i := 11) rfl rfl rfl (by decide) (by kernel_rfl) (tight_body (P := Try.prog) (fn := Try.f29)) (p_assign rfl rfl) ?_
    clear hs a; intro a hs
    refine d_done (by kernel_rfl) ?_ _
    clear hS
    refine hK5 _ _ ?_
    refine wp_seq_k fun K6 hK6 => ?_
    refine wp_region_lit ?_
    refine t_pure hs rfl rfl (by decide) (p_move rfl rfl) ?_
    clear hs a; intro a hs
    refine t_pure hs rfl rfl (by decide) (p_move rfl rfl) ?_
    clear hs a; intro a hs
    refine t_pure hs rfl rfl (by decide) (p_ne rfl rfl rfl) ?_
    clear hs a; intro a hs
    refine t_pure hs rfl rfl (by decide) (p_nil rfl rfl) ?_
    clear hs a; intro a hs
    refine t_pure hs rfl rfl (by decide) (p_fieldAddr rfl rfl ft_159_5) ?_
    clear hs a; intro a hs
    obtain ⟨w1, hw, hc, hf, hv, h⟩ := h
    refine t_skip hs rfl rfl (e_store rfl rfl rfl sz_4 hw hc hf hv) ?_
    clear hs a hw hc hf hv; intro a hs
    refine hK6 _ _ ?_
    refine wp_seq_k fun K7 hK7 => ?_
    refine wp_region_lit ?_
    refine t_pure hs rfl rfl (by decide) (p_move rfl rfl) ?_
    clear hs a; intro a hs
    refine t_pure hs rfl rfl (by decide) (p_assign rfl rfl) ?_
    clear hs a; intro a hs
    refine hK7 _ _ ?_
    refine wp_ret ?_
    refine f_ret (fn := Try.f29) hs (fun a hs => r_one hs rfl (rfl)) ⟨t19, rfl, h⟩
def wal_Log_Records.b1 (Q : Sl → K)  (X1 : Sl → Int → K) (t8_1 : Sl) (t9_1 : Int) (out2_1 : Sl) (t10_1 : Int) : K :=
  Ite (decide (t10_1 < t9_1))
    (Idx t8_1 t10_1 1 fun t12 =>
    Ld t12 Sl.val fun t13 =>
    slices_Clone_s_byte_byte.call t13 fun t16 =>
    New 22 #[(Sl.val t16)] fun t17 =>
    Do Try.prog (Builtin.append_ #[54, 54] 54 #[(Sl.val out2_1), (Sl.val (Sl.mk (some t17) 1 1))]) Sl.val fun t18 =>
    Ar (IntKind.wrap .i64 (t10_1 + 1)) fun t19 =>
    X1 t18 t19)
    (Q out2_1)
def wal_Log_Records (l0 : (Option Addr)) (Q : Sl → K) : K :=
  Nn l0 fun t6 =>
  Ld (t6.add 6) Sl.val fun t8 =>
  LoopK (α := Sl × Int) (fun X x => wal_Log_Records.b1 Q (fun out2_1 t10_1 => X (out2_1, t10_1)) t8 (t8.n : Int) x.1 x.2) ((Sl.mk none 0 0), 0)
theorem wal_Log_Records_ok (l0 : (Option Addr)) (Q : Sl → K) (w : World) (h : wal_Log_Records l0 Q w) : wal_Log_Records.call l0 Q w := by
  unfold wal_Log_Records.call CallF
  refine f_start (args := [(.pointer l0)]) Try.func30 rfl (Nat.le_of_ble_eq_true rfl) ?_
  intro a hs
  unfold wal_Log_Records at h
  refine wp_seq_k fun K1 hK1 => ?_
  refine wp_region_lit ?_
  refine t_pure hs rfl rfl (by decide) (p_assign rfl rfl) ?_
  clear hs a; intro a hs
  refine hK1 _ _ ?_
  refine wp_seq_k fun K2 hK2 => ?_
  refine wp_seq_k fun K3 hK3 => ?_
  refine wp_region_lit ?_
  refine t_pure hs rfl rfl (by decide) (p_move rfl rfl) ?_
  clear hs a; intro a hs
  obtain ⟨t6, rfl, h⟩ := h
  refine t_pure hs rfl rfl (by decide) (p_nil rfl rfl) ?_
  clear hs a; intro a hs
  refine t_pure hs rfl rfl (by decide) (p_fieldAddr rfl rfl ft_159_6) ?_
  clear hs a; intro a hs
  obtain ⟨t8, hv, h⟩ := h
  refine t_eff hs rfl rfl (by decide) (e_load rfl rfl ct_54 hv) ?_
  clear hs a hv; intro a hs
  refine t_pure hs rfl rfl (by decide) (p_len rfl rfl sl_54) ?_
  clear hs a; intro a hs
  refine t_pure hs rfl rfl (by decide) (p_move rfl rfl) ?_
  clear hs a; intro a hs
  refine hK3 _ _ ?_
  refine wp_block ?_
  obtain ⟨I1, μ1, h0, hr⟩ := h
  refine c_loop (α := Sl × Int) I1 μ1 (fun x a => Slots a 21 [(2, (Sl.val x.1)), (8, (Sl.val t8)), (9, (.int .i64 (t8.n : Int))), (10, (.int .i64 x.2))]) ((Sl.mk none 0 0), 0) h0 (hs.to ⟨rfl, rfl, rfl, rfl, trivial⟩) ?_
  clear h0 hs a
  rintro ⟨out2_1, t10_1⟩ a w hI hs
  have h : wal_Log_Records.b1 Q (fun out2_1n t10_1n w' => I1 (out2_1n, t10_1n) w' ∧ μ1 (out2_1n, t10_1n) w' < μ1 (out2_1, t10_1) w) t8 (t8.n : Int) out2_1 t10_1 w := hr (out2_1, t10_1) w hI
  clear hr hI
  generalize hX1 : (fun out2_1n t10_1n w' => I1 (out2_1n, t10_1n) w' ∧ μ1 (out2_1n, t10_1n) w' < μ1 (out2_1, t10_1) w) = X1 at h
  unfold wal_Log_Records.b1 at h
  replace hs : Slots a 21 [(2, (Sl.val out2_1)), (8, (Sl.val t8)), (9, (.int .i64 (t8.n : Int))), (10, (.int .i64 t10_1))] := hs
  refine wp_seq_k fun K4 hK4 => ?_
  refine wp_region_lit ?_
  refine t_pure hs rfl rfl (by decide) (p_lt rfl rfl rfl) ?_
  clear hs a; intro a hs
  refine hK4 _ _ ?_
  refine wp_seq_k fun K5 hK5 => ?_
  refine c_cond hs rfl (fun hb => ?_) (fun hb => ?_)
  · replace h := h.1 hb
    clear hb
    refine wp_skip ?_
    refine hK5 _ _ ?_
    refine wp_seq_k fun K6 hK6 => ?_
    refine wp_block ?_
    refine wp_seq_k fun K7 hK7 => ?_
    refine wp_region_lit ?_
    obtain ⟨qt12, t12, ha, h0, h1, he, h⟩ := h
    refine t_pure hs rfl rfl (by decide) (Pure.adr he (p_idx rfl rfl rfl sl_54 ha h0 h1)) ?_
    clear hs a ha h0 h1 he; intro a hs
    obtain ⟨t13, hv, h⟩ := h
    refine t_eff hs rfl rfl (by decide) (e_load rfl rfl ct_22 hv) ?_
    clear hs a hv; intro a hs
    refine t_pure hs rfl rfl (by decide) (p_assign rfl rfl) ?_
    clear hs a; intro a hs
    refine hK7 _ _ ?_
    refine wp_region_lit ?_
    refine t_pure hs rfl rfl (by decide) (p_move rfl rfl) ?_
    clear hs a; intro a hs
    refine t_pure hs rfl rfl (by decide) (p_move rfl rfl) ?_
    clear hs a; intro a hs
    refine t_call hs rfl rfl (by decide) (e_call rfl rfl rfl cb_67) h ?_
    clear hs a h
    intro v a w hk hs
    obtain ⟨t16, rfl, h⟩ := hk
    obtain ⟨t17, w1, ha, hw, h⟩ := h
    refine t_eff hs rfl rfl (by decide) (e_buildSlice (z := #[(Sl.val ⟨none, 0, 0⟩)]) (cs := #[(Sl.val t16)]) rfl sl_54 zt_22 (by decide) rfl rz_22_1 (by rfl) ha hw) ?_
    clear hs a ha hw; intro a hs
    obtain ⟨t18, w1, hd, h⟩ := h
    refine t_eff hs rfl rfl (by decide) (e_append rfl rfl rfl rfl hd) ?_
    clear hs a hd; intro a hs
    refine t_pure hs rfl rfl (by decide) (p_assign rfl rfl) ?_
    clear hs a; intro a hs
    refine hK6 _ _ ?_
    refine wp_region_lit ?_
    obtain ⟨t19, he, h⟩ := h
    refine t_pure hs rfl rfl (by decide) (Pure.int he (p_add rfl rfl rfl)) ?_
    clear hs a he; intro a hs
    refine t_pure hs rfl rfl (by decide) (p_move rfl rfl) ?_
    clear hs a; intro a hs
    rw [← hX1] at h
    exact ⟨(t18, t19), hs.to ⟨rfl, rfl, rfl, rfl, trivial⟩, h⟩
  · replace h := h.2 hb
    clear hb
    refine wp_exit ?_
    refine hK2 _ _ ?_
    refine wp_seq_k fun K8 hK8 => ?_
    refine wp_region_lit ?_
    refine t_pure hs rfl rfl (by decide) (p_move rfl rfl) ?_
    clear hs a; intro a hs
    refine t_pure hs rfl rfl (by decide) (p_assign rfl rfl) ?_
    clear hs a; intro a hs
    refine hK8 _ _ ?_
    refine wp_ret ?_
    refine f_ret (fn := Try.f30) hs (fun a hs => r_one hs rfl (rfl)) ⟨out2_1, rfl, h⟩
def wal_Log_Append.s1 (Q : Int → K)  (l0_1 : Addr) (record1_1 : Sl) (f5_1 : Sl) (part7_1 : Int) (used8_1 : Int) : K :=
  Dr <| WithS fun S =>
  LdS S l0_1 Value.pointer fun t52 =>
  wal_Log_file.call (some l0_1) part7_1 fun t55 =>
  Sv S <|
  disk_Disk_Append.call t52 t55 f5_1 fun t57 =>
  Ite (decide (t57 ≠ 0))
    (Q t57)
    (Ar (IntKind.wrap .i64 (used8_1 + (f5_1.n : Int))) fun t68 =>
    St (l0_1.add 3) (.int .i64 part7_1) <|
    St (l0_1.add 4) (.int .i64 t68) <|
    St (l0_1.add 5) (.bool true) <|
    Dr <| WithS fun S =>
    LdS S (l0_1.add 6) Sl.val fun t79 =>
    slices_Clone_s_byte_byte.call record1_1 fun t81 =>
    Sv S <|
    New 22 #[(Sl.val t81)] fun t82 =>
    Sv S <|
    Do Try.prog (Builtin.append_ #[54, 54] 54 #[(Sl.val t79), (Sl.val (Sl.mk (some t82) 1 1))]) Sl.val fun t83 =>
    St (l0_1.add 6) (Sl.val t83) <|
    Q 0)
def wal_Log_Append.s2 (Q : Int → K)  (l0_2 : Addr) (record1_2 : Sl) (f5_2 : Sl) (part7_2 : Int) (used8_2 : Int) (t39_2 : Bool) : K :=
  Ite t39_2
    (Ar (IntKind.wrap .i64 (part7_2 + 1)) fun t41 =>
    Ite (decide (t41 = 10))
      (Q 2)
      (wal_Log_Sync.call (some l0_2) fun t45 =>
      Ite (decide (t45 ≠ 0))
        (Q t45)
        (wal_Log_Append.s1 Q l0_2 record1_2 f5_2 t41 0)))
    (wal_Log_Append.s1 Q l0_2 record1_2 f5_2 part7_2 used8_2)
def wal_Log_Append (l0 : (Option Addr)) (record1 : Sl) (Q : Int → K) : K :=
  code_Frame.call record1 fun t13x0 t13x1 =>
  Ite (decide (t13x1 ≠ 0))
    (Q t13x1)
    (Dr <|
    Nn l0 fun t20 =>
    Ld (t20.add 3) (Value.int .i64) fun t22 =>
    Ld (t20.add 4) (Value.int .i64) fun t26 =>
    Ite (decide ((0 : Int) < t26))
      (Ar (IntKind.wrap .i64 (t26 + (t13x0.n : Int))) fun t33 =>
      Ld (t20.add 2) (Value.int .i64) fun t37 =>
      wal_Log_Append.s2 Q t20 record1 t13x0 t22 t26 (decide (t37 < t33)))
      (wal_Log_Append.s2 Q t20 record1 t13x0 t22 t26 false))
theorem wal_Log_Append_ok (l0 : (Option Addr)) (record1 : Sl) (Q : Int → K) (w : World) (h : wal_Log_Append l0 record1 Q w) : wal_Log_Append.call l0 record1 Q w := by
  unfold wal_Log_Append.call CallF
  refine f_start (args := [(.pointer l0), (Sl.val record1)]) Try.func31 rfl (Nat.le_of_ble_eq_true rfl) ?_
  intro a hs
  unfold wal_Log_Append at h
  refine wp_seq_k fun K1 hK1 => ?_
  refine wp_region_lit ?_
  refine t_pure hs rfl rfl (by decide) (p_assign rfl rfl) ?_
  clear hs a; intro a hs
  refine hK1 _ _ ?_
  refine wp_seq_k fun K2 hK2 => ?_
  refine wp_region_lit ?_
  refine t_pure hs rfl rfl (by decide) (p_move rfl rfl) ?_
  clear hs a; intro a hs
  refine t_call hs rfl rfl (by decide) (e_call rfl rfl rfl cb_68) h ?_
  clear hs a h
  intro v a w hk hs
  obtain ⟨t13x0, t13x1, rfl, h⟩ := hk
  refine t_pure hs rfl rfl (by decide) (p_move rfl rfl) ?_
  clear hs a; intro a hs
  refine t_pure hs rfl rfl (by decide) (p_extract rfl rfl rfl) ?_
  clear hs a; intro a hs
  refine t_pure hs rfl rfl (by decide) (p_extract rfl rfl rfl) ?_
  clear hs a; intro a hs
  refine t_pure hs rfl rfl (by decide) (p_assign rfl rfl) ?_
  clear hs a; intro a hs
  refine t_pure hs rfl rfl (by decide) (p_assign rfl rfl) ?_
  clear hs a; intro a hs
  refine hK2 _ _ ?_
  refine wp_seq_k fun K3 hK3 => ?_
  refine wp_seq_k fun K4 hK4 => ?_
  refine wp_region_lit ?_
  refine t_pure hs rfl rfl (by decide) (p_move rfl rfl) ?_
  clear hs a; intro a hs
  refine t_pure hs rfl rfl (by decide) (p_ne rfl rfl rfl) ?_
  clear hs a; intro a hs
  refine hK4 _ _ ?_
  refine c_cond hs rfl (fun hb => ?_) (fun hb => ?_)
  · replace h := h.1 hb
    clear hb
    refine wp_seq_k fun K5 hK5 => ?_
    refine wp_region_lit ?_
    refine t_pure hs rfl rfl (by decide) (p_move rfl rfl) ?_
    clear hs a; intro a hs
    refine t_pure hs rfl rfl (by decide) (p_assign rfl rfl) ?_
    clear hs a; intro a hs
    refine hK5 _ _ ?_
    refine wp_ret ?_
    refine f_ret (fn := Try.f31) hs (fun a hs => r_one hs rfl (rfl)) ⟨t13x1, rfl, h⟩
  · replace h := h.2 hb
    clear hb
    refine wp_skip ?_
    refine hK3 _ _ ?_
    refine wp_seq_k fun K6 hK6 => ?_
    obtain ⟨w1, hw1, h⟩ := h
    refine s_start mixed (by kernel_rfl) hw1 ?_
    clear hw1
    refine s_pure hs rfl rfl (by decide) (p_move rfl rfl) ?_
    clear hs a; intro a hs
    obtain ⟨t20, rfl, h⟩ := h
    refine s_pure hs rfl rfl (by decide) (p_nil rfl rfl) ?_
    clear hs a; intro a hs
    refine s_pure hs rfl rfl (by decide) (p_fieldAddr rfl rfl ft_159_3) ?_
    clear hs a; intro a hs
    obtain ⟨t22, hv, h⟩ := h
    refine s_eff hs rfl rfl (by decide) (e_load rfl rfl ct_3 hv) ?_
    clear hs a hv; intro a hs
    refine s_pure hs rfl rfl (by decide) (p_move rfl rfl) ?_
    clear hs a; intro a hs
    refine s_pure hs rfl rfl (by decide) (p_nil rfl rfl) ?_
    clear hs a; intro a hs
    refine s_pure hs rfl rfl (by decide) (p_fieldAddr rfl rfl ft_159_4) ?_
    clear hs a; intro a hs
    obtain ⟨t26, hv, h⟩ := h
    refine s_eff hs rfl rfl (by decide) (e_load rfl rfl ct_3 hv) ?_
    clear hs a hv; intro a hs
    replace hs := hs.to (τ := [(0, (.pointer (some t20))), (1, (Sl.val record1)), (5, (Sl.val t13x0)), (22, (.int .i64 t22)), (26, (.int .i64 t26))]) ⟨rfl, rfl, rfl, rfl, rfl, trivial⟩
    refine s_pure hs rfl rfl (by decide) (p_assign rfl rfl) ?_
    clear hs a; intro a hs
    refine s_pure hs rfl rfl (by decide) (p_assign rfl rfl) ?_
    clear hs a; intro a hs
    refine hK6 _ _ ?_
    refine wp_seq_k fun K7 hK7 => ?_
    have J1 : ∀ (part7_1 : Int) (used8_1 : Int) (a : Act) (w : World), Slots a 86 [(0, (.pointer (some t20))), (1, (Sl.val record1)), (5, (Sl.val t13x0)), (7, (.int .i64 part7_1)), (8, (.int .i64 used8_1))] → wal_Log_Append.s1 Q t20 record1 t13x0 part7_1 used8_1 w → K7 a w := by
      clear h hs
      intro part7_1 used8_1 a w hs h
      refine hK7 _ _ ?_
      unfold wal_Log_Append.s1 at h
      refine wp_seq_k fun K8 hK8 => ?_
      refine wp_seq_k fun K9 hK9 => ?_
      obtain ⟨w1, hw1, h⟩ := h
      obtain ⟨S, hS, h⟩ := h
      subst hw1
      refine d_start (S := S) (ds := [8]) #[false, false, false, false, false, false, false, false, false, false] mixed rfl rfl ?_
      refine d_pure hs #[true, false, false, false, false, false, false, false, false, false] (i := 0) rfl rfl rfl (by decide) (by kernel_rfl) (tight_body (P := Try.prog) (fn := Try.f31)) (p_move rfl rfl) ?_
      clear hs a; intro a hs
      refine d_pure hs #[true, true, false, false, false, false, false, false, false, false] (i := 1) rfl rfl rfl (by decide) (by kernel_rfl) (tight_body (P := Try.prog) (fn := Try.f31)) (p_nil rfl rfl) ?_
      clear hs a; intro a hs
      refine d_pure hs #[true, true, true, false, false, false, false, false, false, false] (i := 2) rfl rfl rfl (by decide) (by kernel_rfl) (tight_body (P := Try.prog) (fn := Try.f31)) (p_fieldAddr0 rfl rfl ft_159_0) ?_
      clear hs a; intro a hs
      refine d_pure hs #[true, true, true, false, true, false, false, false, false, false] (i := 4) rfl rfl rfl (by decide) (by kernel_rfl) (tight_body (P := Try.prog) (fn := Try.f31)) (p_move rfl rfl) ?_
      clear hs a; intro a hs
      refine d_pure hs #[true, true, true, false, true, true, false, false, false, false] (i := 5) rfl rfl rfl (by decide) (by kernel_rfl) (tight_body (P := Try.prog) (fn := Try.f31)) (p_move rfl rfl) ?_
      clear hs a; intro a hs
      refine d_pure hs #[true, true, true, false, true, true, false, true, false, false] (i := 7) rfl rfl rfl (by decide) (by kernel_rfl) (tight_body (P := Try.prog) (fn := Try.f31)) (p_move rfl rfl) ?_
      clear hs a; intro a hs
      obtain ⟨t52, hv, h⟩ := h
      refine d_read hs #[true, true, true, true, true, true, false, true, false, false] (i := 3) rfl rfl rfl (by decide) (by kernel_rfl) (by kernel_rfl) (tight_body (P := Try.prog) (fn := Try.f31)) hS (fun w h' => e_load rfl rfl ct_57 (hv w h')) ?_
      clear hs a hv; intro a hs
      refine d_all [6] (by kernel_rfl) (by decide) ?_
      refine AllS.cons ?_ AllS.nil
      refine d_call hs #[true, true, true, true, true, true, true, true, false, false] (i := 6) rfl rfl rfl (by decide) rfl (e_call rfl rfl rfl cb_66) h (fun v w'' hk => by obtain ⟨t55, _, hS, _⟩ := hk; exact fun _ _ => hS) ?_
      clear hs a h
      intro v a w hk hs
      obtain ⟨t55, rfl, h⟩ := hk
      obtain ⟨hS, h⟩ := h
      replace hs := hs.to (τ := [(0, (.pointer (some t20))), (1, (Sl.val record1)), (5, (Sl.val t13x0)), (7, (.int .i64 part7_1)), (8, (.int .i64 used8_1)), (52, (.pointer t52)), (55, (.string t55)), (56, (Sl.val t13x0))]) ⟨rfl, rfl, rfl, rfl, rfl, rfl, rfl, rfl, trivial⟩
      refine d_all [8] (by kernel_rfl) (by decide) ?_
      refine AllS.cons ?_ AllS.nil
      refine d_call hs #[true, true, true, true, true, true, true, true, true, false] (i := 8) rfl rfl rfl (by decide) rfl (e_call rfl rfl rfl cb_34) h (fun _ _ _ hn => (hn (by decide)).elim) ?_
      clear hs a h
      intro v a w hk hs
      obtain ⟨t57, rfl, h⟩ := hk
      refine d_pure hs #[true, true, true, true, true, true, true, true, true, true] (i := 9) rfl rfl rfl (by decide) (by kernel_rfl) (tight_body (P := Try.prog) (fn := Try.f31)) (p_assign rfl rfl) ?_
      clear hs a; intro a hs
      refine d_done (by kernel_rfl) ?_ _
      clear hS
      refine hK9 _ _ ?_
      refine wp_seq_k fun K10 hK10 => ?_
      refine wp_region_lit ?_
      refine t_pure hs rfl rfl (by decide) (p_move rfl rfl) ?_
      clear hs a; intro a hs
      refine t_pure hs rfl rfl (by decide) (p_ne rfl rfl rfl) ?_
      clear hs a; intro a hs
      refine hK10 _ _ ?_
      refine c_cond hs rfl (fun hb => ?_) (fun hb => ?_)
      · replace h := h.1 hb
        clear hb
        refine wp_seq_k fun K11 hK11 => ?_
        refine wp_region_lit ?_
        refine t_pure hs rfl rfl (by decide) (p_move rfl rfl) ?_
        clear hs a; intro a hs
        refine t_pure hs rfl rfl (by decide) (p_assign rfl rfl) ?_
        clear hs a; intro a hs
        refine hK11 _ _ ?_
        refine wp_ret ?_
        refine f_ret (fn := Try.f31) hs (fun a hs => r_one hs rfl (rfl)) ⟨t57, rfl, h⟩
      · replace h := h.2 hb
        clear hb
        refine wp_skip ?_
        refine hK8 _ _ ?_
        refine wp_seq_k fun K12 hK12 => ?_
        refine wp_region_lit ?_
        refine t_pure hs rfl rfl (by decide) (p_move rfl rfl) ?_
        clear hs a; intro a hs
        refine t_pure hs rfl rfl (by decide) (p_move rfl rfl) ?_
        clear hs a; intro a hs
        refine t_pure hs rfl rfl (by decide) (p_move rfl rfl) ?_
        clear hs a; intro a hs
        refine t_pure hs rfl rfl (by decide) (p_move rfl rfl) ?_
        clear hs a; intro a hs
        refine t_pure hs rfl rfl (by decide) (p_move rfl rfl) ?_
        clear hs a; intro a hs
        refine t_pure hs rfl rfl (by decide) (p_move rfl rfl) ?_
        clear hs a; intro a hs
        refine t_pure hs rfl rfl (by decide) (p_len rfl rfl sl_22) ?_
        clear hs a; intro a hs
        obtain ⟨t68, he, h⟩ := h
        refine t_pure hs rfl rfl (by decide) (Pure.int he (p_add rfl rfl rfl)) ?_
        clear hs a he; intro a hs
        replace hs := hs.to (τ := [(0, (.pointer (some t20))), (1, (Sl.val record1)), (61, (.pointer (some t20))), (62, (.pointer (some t20))), (63, (.pointer (some t20))), (64, (.int .i64 part7_1)), (68, (.int .i64 t68))]) ⟨rfl, rfl, rfl, rfl, rfl, rfl, rfl, trivial⟩
        refine t_pure hs rfl rfl (by decide) (p_nil rfl rfl) ?_
        clear hs a; intro a hs
        refine t_pure hs rfl rfl (by decide) (p_fieldAddr rfl rfl ft_159_3) ?_
        clear hs a; intro a hs
        obtain ⟨w1, hw, hc, hf, hv, h⟩ := h
        refine t_skip hs rfl rfl (e_store rfl rfl rfl sz_3 hw hc hf hv) ?_
        clear hs a hw hc hf hv; intro a hs
        refine t_pure hs rfl rfl (by decide) (p_nil rfl rfl) ?_
        clear hs a; intro a hs
        refine t_pure hs rfl rfl (by decide) (p_fieldAddr rfl rfl ft_159_4) ?_
        clear hs a; intro a hs
        obtain ⟨w1, hw, hc, hf, hv, h⟩ := h
        refine t_skip hs rfl rfl (e_store rfl rfl rfl sz_3 hw hc hf hv) ?_
        clear hs a hw hc hf hv; intro a hs
        refine t_pure hs rfl rfl (by decide) (p_nil rfl rfl) ?_
        clear hs a; intro a hs
        refine t_pure hs rfl rfl (by decide) (p_fieldAddr rfl rfl ft_159_5) ?_
        clear hs a; intro a hs
        replace hs := hs.to (τ := [(0, (.pointer (some t20))), (1, (Sl.val record1)), (74, (.pointer (some (t20.add 5))))]) ⟨rfl, rfl, rfl, trivial⟩
        obtain ⟨w1, hw, hc, hf, hv, h⟩ := h
        refine t_skip hs rfl rfl (e_store rfl rfl rfl sz_4 hw hc hf hv) ?_
        clear hs a hw hc hf hv; intro a hs
        refine hK12 _ _ ?_
        refine wp_seq_k fun K13 hK13 => ?_
        obtain ⟨w1, hw1, h⟩ := h
        obtain ⟨S, hS, h⟩ := h
        subst hw1
        refine d_start (S := S) (ds := [8, 11]) #[false, false, false, false, false, false, false, false, false, false, false, false] mixed rfl rfl ?_
        refine d_pure hs #[true, false, false, false, false, false, false, false, false, false, false, false] (i := 0) rfl rfl rfl (by decide) (by kernel_rfl) (tight_body (P := Try.prog) (fn := Try.f31)) (p_move rfl rfl) ?_
        clear hs a; intro a hs
        refine d_pure hs #[true, true, false, false, false, false, false, false, false, false, false, false] (i := 1) rfl rfl rfl (by decide) (by kernel_rfl) (tight_body (P := Try.prog) (fn := Try.f31)) (p_move rfl rfl) ?_
        clear hs a; intro a hs
        refine d_pure hs #[true, true, true, false, false, false, false, false, false, false, false, false] (i := 2) rfl rfl rfl (by decide) (by kernel_rfl) (tight_body (P := Try.prog) (fn := Try.f31)) (p_nil rfl rfl) ?_
        clear hs a; intro a hs
        refine d_pure hs #[true, true, true, true, false, false, false, false, false, false, false, false] (i := 3) rfl rfl rfl (by decide) (by kernel_rfl) (tight_body (P := Try.prog) (fn := Try.f31)) (p_fieldAddr rfl rfl ft_159_6) ?_
        clear hs a; intro a hs
        refine d_pure hs #[true, true, true, true, false, true, false, false, false, false, false, false] (i := 5) rfl rfl rfl (by decide) (by kernel_rfl) (tight_body (P := Try.prog) (fn := Try.f31)) (p_move rfl rfl) ?_
        clear hs a; intro a hs
        obtain ⟨t79, hv, h⟩ := h
        refine d_read hs #[true, true, true, true, true, true, false, false, false, false, false, false] (i := 4) rfl rfl rfl (by decide) (by kernel_rfl) (by kernel_rfl) (tight_body (P := Try.prog) (fn := Try.f31)) hS (fun w h' => e_load rfl rfl ct_54 (hv w h')) ?_
        clear hs a hv; intro a hs
        refine d_all [6] (by kernel_rfl) (by decide) ?_
        refine AllS.cons ?_ AllS.nil
        refine d_call hs #[true, true, true, true, true, true, true, false, false, false, false, false] (i := 6) rfl rfl rfl (by decide) rfl (e_call rfl rfl rfl cb_67) h (fun v w'' hk => by obtain ⟨t81, _, hS, _⟩ := hk; exact fun _ _ => hS) ?_
        clear hs a h
        intro v a w hk hs
        obtain ⟨t81, rfl, h⟩ := hk
        obtain ⟨hS, h⟩ := h
        refine d_all [7] (by kernel_rfl) (by decide) ?_
        refine AllS.cons ?_ AllS.nil
        obtain ⟨t82, w1, ha, hw, h⟩ := h
        obtain ⟨hS, h⟩ := h
        refine d_eff hs #[true, true, true, true, true, true, true, true, false, false, false, false] (i := 7) rfl rfl rfl (by decide) rfl (e_buildSlice (z := #[(Sl.val ⟨none, 0, 0⟩)]) (cs := #[(Sl.val t81)]) rfl sl_54 zt_22 (by decide) rfl rz_22_1 (by rfl) ha hw) (fun _ _ => hS) ?_
        clear hs a ha hw; intro a hs
        replace hs := hs.to (τ := [(75, (.pointer (some t20))), (79, (Sl.val t79)), (82, (Sl.val (Sl.mk (some t82) 1 1)))]) ⟨rfl, rfl, rfl, trivial⟩
        refine d_all [8] (by kernel_rfl) (by decide) ?_
        refine AllS.cons ?_ AllS.nil
        obtain ⟨t83, w1, hd, h⟩ := h
        refine d_eff hs #[true, true, true, true, true, true, true, true, true, false, false, false] (i := 8) rfl rfl rfl (by decide) rfl (e_append rfl rfl rfl rfl hd) (fun hn => (hn (by decide)).elim) ?_
        clear hs a hd; intro a hs
        refine d_pure hs #[true, true, true, true, true, true, true, true, true, true, false, false] (i := 9) rfl rfl rfl (by decide) (by kernel_rfl) (tight_body (P := Try.prog) (fn := Try.f31)) (p_nil rfl rfl) ?_
        clear hs a; intro a hs
        refine d_pure hs #[true, true, true, true, true, true, true, true, true, true, true, false] (i := 10) rfl rfl rfl (by decide) (by kernel_rfl) (tight_body (P := Try.prog) (fn := Try.f31)) (p_fieldAddr rfl rfl ft_159_6) ?_
        clear hs a; intro a hs
        refine d_all [11] (by kernel_rfl) (by decide) ?_
        refine AllS.cons ?_ AllS.nil
        obtain ⟨w1, hw, hc, hf, hv, h⟩ := h
        refine d_skip hs #[true, true, true, true, true, true, true, true, true, true, true, true] (i := 11) rfl rfl rfl rfl (e_store rfl rfl rfl sz_54 hw hc hf hv) (fun hn => (hn (by decide)).elim) ?_
        clear hs a hw hc hf hv; intro a hs
        refine d_done (by kernel_rfl) ?_ _
        clear hS
        refine hK13 _ _ ?_
        refine wp_seq_k fun K14 hK14 => ?_
        refine wp_region_lit ?_
        refine t_pure hs rfl rfl (by decide) (p_assign rfl rfl) ?_
        clear hs a; intro a hs
        refine hK14 _ _ ?_
        refine wp_ret ?_
        refine f_ret (fn := Try.f31) hs (fun a hs => r_one hs rfl (rfl)) ⟨0, rfl, h⟩
    clear hK7
    refine wp_seq_k fun K15 hK15 => ?_
    have J2 : ∀ (t39_2 : Bool) (a : Act) (w : World), Slots a 86 [(0, (.pointer (some t20))), (1, (Sl.val record1)), (5, (Sl.val t13x0)), (7, (.int .i64 t22)), (8, (.int .i64 t26)), (39, (.bool t39_2))] → wal_Log_Append.s2 Q t20 record1 t13x0 t22 t26 t39_2 w → K15 a w := by
      clear h hs
      intro t39_2 a w hs h
      refine hK15 _ _ ?_
      unfold wal_Log_Append.s2 at h
      refine c_cond hs rfl (fun hb => ?_) (fun hb => ?_)
      · replace h := h.1 hb
        clear hb
        refine wp_seq_k fun K16 hK16 => ?_
        refine wp_seq_k fun K17 hK17 => ?_
        refine wp_region_lit ?_
        refine t_pure hs rfl rfl (by decide) (p_move rfl rfl) ?_
        clear hs a; intro a hs
        obtain ⟨t41, he, h⟩ := h
        refine t_pure hs rfl rfl (by decide) (Pure.int he (p_add rfl rfl rfl)) ?_
        clear hs a he; intro a hs
        refine t_pure hs rfl rfl (by decide) (p_assign rfl rfl) ?_
        clear hs a; intro a hs
        refine t_pure hs rfl rfl (by decide) (p_assign rfl rfl) ?_
        clear hs a; intro a hs
        refine hK17 _ _ ?_
        refine wp_seq_k fun K18 hK18 => ?_
        refine wp_region_lit ?_
        refine t_pure hs rfl rfl (by decide) (p_move rfl rfl) ?_
        clear hs a; intro a hs
        refine t_pure hs rfl rfl (by decide) (p_eq rfl rfl rfl) ?_
        clear hs a; intro a hs
        refine hK18 _ _ ?_
        refine c_cond hs rfl (fun hb => ?_) (fun hb => ?_)
        · replace h := h.1 hb
          clear hb
          refine wp_seq_k fun K19 hK19 => ?_
          refine wp_region_lit ?_
          refine t_pure hs rfl rfl (by decide) (p_assign rfl rfl) ?_
          clear hs a; intro a hs
          refine hK19 _ _ ?_
          refine wp_ret ?_
          refine f_ret (fn := Try.f31) hs (fun a hs => r_one hs rfl (rfl)) ⟨2, rfl, h⟩
        · replace h := h.2 hb
          clear hb
          refine wp_skip ?_
          refine hK16 _ _ ?_
          refine wp_seq_k fun K20 hK20 => ?_
          refine wp_region_lit ?_
          refine t_pure hs rfl rfl (by decide) (p_move rfl rfl) ?_
          clear hs a; intro a hs
          refine t_call hs rfl rfl (by decide) (e_call rfl rfl rfl cb_29) h ?_
          clear hs a h
          intro v a w hk hs
          obtain ⟨t45, rfl, h⟩ := hk
          refine t_pure hs rfl rfl (by decide) (p_assign rfl rfl) ?_
          clear hs a; intro a hs
          refine hK20 _ _ ?_
          refine wp_seq_k fun K21 hK21 => ?_
          refine wp_region_lit ?_
          refine t_pure hs rfl rfl (by decide) (p_move rfl rfl) ?_
          clear hs a; intro a hs
          refine t_pure hs rfl rfl (by decide) (p_ne rfl rfl rfl) ?_
          clear hs a; intro a hs
          refine hK21 _ _ ?_
          refine c_cond hs rfl (fun hb => ?_) (fun hb => ?_)
          · replace h := h.1 hb
            clear hb
            refine wp_seq_k fun K22 hK22 => ?_
            refine wp_region_lit ?_
            refine t_pure hs rfl rfl (by decide) (p_move rfl rfl) ?_
            clear hs a; intro a hs
            refine t_pure hs rfl rfl (by decide) (p_assign rfl rfl) ?_
            clear hs a; intro a hs
            refine hK22 _ _ ?_
            refine wp_ret ?_
            refine f_ret (fn := Try.f31) hs (fun a hs => r_one hs rfl (rfl)) ⟨t45, rfl, h⟩
          · replace h := h.2 hb
            clear hb
            refine wp_skip ?_
            exact J1 t41 0 _ _ (hs.to ⟨rfl, rfl, rfl, rfl, rfl, trivial⟩) h
      · replace h := h.2 hb
        clear hb
        refine wp_skip ?_
        exact J1 t22 t26 _ _ (hs.to ⟨rfl, rfl, rfl, rfl, rfl, trivial⟩) h
    clear hK15
    refine wp_region_lit ?_
    refine t_pure hs rfl rfl (by decide) (p_move rfl rfl) ?_
    clear hs a; intro a hs
    refine t_pure hs rfl rfl (by decide) (p_gt rfl rfl rfl) ?_
    clear hs a; intro a hs
    refine t_pure hs rfl rfl (by decide) (p_move rfl rfl) ?_
    clear hs a; intro a hs
    refine split_bool (decide ((0 : Int) < t26)) (fun hb => ?_) (fun hb => ?_)
    · replace h := h.1 hb
      rw [hb] at hs
      clear hb
      refine t_yes hs rfl ?_
      refine t_pure hs rfl rfl (by decide) (p_move rfl rfl) ?_
      clear hs a; intro a hs
      refine t_yes hs rfl ?_
      refine t_pure hs rfl rfl (by decide) (p_move rfl rfl) ?_
      clear hs a; intro a hs
      refine t_yes hs rfl ?_
      refine t_pure hs rfl rfl (by decide) (p_len rfl rfl sl_22) ?_
      clear hs a; intro a hs
      refine t_yes hs rfl ?_
      obtain ⟨t33, he, h⟩ := h
      refine t_pure hs rfl rfl (by decide) (Pure.int he (p_add rfl rfl rfl)) ?_
      clear hs a he; intro a hs
      refine t_yes hs rfl ?_
      refine t_pure hs rfl rfl (by decide) (p_move rfl rfl) ?_
      clear hs a; intro a hs
      replace hs := hs.to (τ := [(0, (.pointer (some t20))), (1, (Sl.val record1)), (5, (Sl.val t13x0)), (7, (.int .i64 t22)), (8, (.int .i64 t26)), (29, (.bool true)), (33, (.int .i64 t33)), (34, (.pointer (some t20)))]) ⟨rfl, rfl, rfl, rfl, rfl, rfl, rfl, rfl, trivial⟩
      refine t_yes hs rfl ?_
      refine t_pure hs rfl rfl (by decide) (p_nil rfl rfl) ?_
      clear hs a; intro a hs
      refine t_yes hs rfl ?_
      refine t_pure hs rfl rfl (by decide) (p_fieldAddr rfl rfl ft_159_2) ?_
      clear hs a; intro a hs
      refine t_yes hs rfl ?_
      obtain ⟨t37, hv, h⟩ := h
      refine t_eff hs rfl rfl (by decide) (e_load rfl rfl ct_3 hv) ?_
      clear hs a hv; intro a hs
      refine t_yes hs rfl ?_
      refine t_pure hs rfl rfl (by decide) (p_gt rfl rfl rfl) ?_
      clear hs a; intro a hs
      refine t_pure hs rfl rfl (by decide) (p_pick_t rfl rfl rfl) ?_
      clear hs a; intro a hs
      exact J2 (decide (t37 < t33)) _ _ (hs.to ⟨rfl, rfl, rfl, rfl, rfl, rfl, trivial⟩) h
    · replace h := h.2 hb
      rw [hb] at hs
      clear hb
      refine t_no hs rfl rfl (by decide) ?_
      clear hs a; intro a hs
      refine t_no hs rfl rfl (by decide) ?_
      clear hs a; intro a hs
      refine t_no hs rfl rfl (by decide) ?_
      clear hs a; intro a hs
      refine t_no hs rfl rfl (by decide) ?_
      clear hs a; intro a hs
      refine t_no hs rfl rfl (by decide) ?_
      clear hs a; intro a hs
      replace hs := hs.to (τ := [(0, (.pointer (some t20))), (1, (Sl.val record1)), (5, (Sl.val t13x0)), (7, (.int .i64 t22)), (8, (.int .i64 t26)), (29, (.bool false)), (33, undef), (34, undef)]) ⟨rfl, rfl, rfl, rfl, rfl, rfl, rfl, rfl, trivial⟩
      refine t_no hs rfl rfl (by decide) ?_
      clear hs a; intro a hs
      refine t_no hs rfl rfl (by decide) ?_
      clear hs a; intro a hs
      refine t_no hs rfl rfl (by decide) ?_
      clear hs a; intro a hs
      refine t_no hs rfl rfl (by decide) ?_
      clear hs a; intro a hs
      refine t_pure hs rfl rfl (by decide) (p_pick_f rfl rfl rfl) ?_
      clear hs a; intro a hs
      exact J2 false _ _ (hs.to ⟨rfl, rfl, rfl, rfl, rfl, rfl, trivial⟩) h
def wal_Log_Parts.s2 (Q : Int → K) (X1 : Int → Int → K) (l0_2 : (Option Addr)) (n3_2 : Int) (t5_2 : Int) : K :=
  Ar (IntKind.wrap .i64 (t5_2 + 1)) fun t19 =>
  X1 n3_2 t19
def wal_Log_Parts.b1 (Q : Int → K)  (X1 : Int → Int → K) (l0_1 : (Option Addr)) (n3_1 : Int) (t5_1 : Int) : K :=
  Ite (decide (t5_1 < 10))
    (Nn l0_1 fun t9 =>
    Ld t9 Value.pointer fun t11 =>
    disk_Disk_Names.call t11 fun t12 =>
    wal_Log_file.call (some t9) t5_1 fun t15 =>
    slices_Contains_s_string_string.call t12 t15 fun t16 =>
    Ite t16
      (Ar (IntKind.wrap .i64 (n3_1 + 1)) fun t18 =>
      wal_Log_Parts.s2 Q X1 (some t9) t18 t5_1)
      (wal_Log_Parts.s2 Q X1 (some t9) n3_1 t5_1))
    (Q n3_1)
def wal_Log_Parts (l0 : (Option Addr)) (Q : Int → K) : K :=
  LoopK (α := Int × Int) (fun X x => wal_Log_Parts.b1 Q (fun n3_1 t5_1 => X (n3_1, t5_1)) l0 x.1 x.2) (0, 0)
theorem wal_Log_Parts_ok (l0 : (Option Addr)) (Q : Int → K) (w : World) (h : wal_Log_Parts l0 Q w) : wal_Log_Parts.call l0 Q w := by
  unfold wal_Log_Parts.call CallF
  refine f_start (args := [(.pointer l0)]) Try.func38 rfl (Nat.le_of_ble_eq_true rfl) ?_
  intro a hs
  unfold wal_Log_Parts at h
  refine wp_seq_k fun K1 hK1 => ?_
  refine wp_region_lit ?_
  refine t_pure hs rfl rfl (by decide) (p_assign rfl rfl) ?_
  clear hs a; intro a hs
  refine hK1 _ _ ?_
  refine wp_seq_k fun K2 hK2 => ?_
  refine wp_region_lit ?_
  refine t_pure hs rfl rfl (by decide) (p_assign rfl rfl) ?_
  clear hs a; intro a hs
  refine hK2 _ _ ?_
  refine wp_seq_k fun K3 hK3 => ?_
  refine wp_seq_k fun K4 hK4 => ?_
  refine wp_region_lit ?_
  refine t_pure hs rfl rfl (by decide) (p_move rfl rfl) ?_
  clear hs a; intro a hs
  refine hK4 _ _ ?_
  refine wp_block ?_
  obtain ⟨I1, μ1, h0, hr⟩ := h
  refine c_loop (α := Int × Int) I1 μ1 (fun x a => Slots a 21 [(0, (.pointer l0)), (3, (.int .i64 x.1)), (5, (.int .i64 x.2))]) (0, 0) h0 (hs.to ⟨rfl, rfl, rfl, trivial⟩) ?_
  clear h0 hs a
  rintro ⟨n3_1, t5_1⟩ a w hI hs
  have h : wal_Log_Parts.b1 Q (fun n3_1n t5_1n w' => I1 (n3_1n, t5_1n) w' ∧ μ1 (n3_1n, t5_1n) w' < μ1 (n3_1, t5_1) w) l0 n3_1 t5_1 w := hr (n3_1, t5_1) w hI
  clear hr hI
  generalize hX1 : (fun n3_1n t5_1n w' => I1 (n3_1n, t5_1n) w' ∧ μ1 (n3_1n, t5_1n) w' < μ1 (n3_1, t5_1) w) = X1 at h
  unfold wal_Log_Parts.b1 at h
  replace hs : Slots a 21 [(0, (.pointer l0)), (3, (.int .i64 n3_1)), (5, (.int .i64 t5_1))] := hs
  refine wp_seq_k fun K5 hK5 => ?_
  refine wp_region_lit ?_
  refine t_pure hs rfl rfl (by decide) (p_lt rfl rfl rfl) ?_
  clear hs a; intro a hs
  refine hK5 _ _ ?_
  refine wp_seq_k fun K6 hK6 => ?_
  refine c_cond hs rfl (fun hb => ?_) (fun hb => ?_)
  · replace h := h.1 hb
    clear hb
    refine wp_skip ?_
    refine hK6 _ _ ?_
    refine wp_seq_k fun K7 hK7 => ?_
    have J2 : ∀ (n3_2 : Int) (a : Act) (w : World), Slots a 21 [(0, (.pointer l0)), (3, (.int .i64 n3_2)), (5, (.int .i64 t5_1))] → wal_Log_Parts.s2 Q X1 l0 n3_2 t5_1 w → K7 a w := by
      clear h hs
      intro n3_2 a w hs h
      refine hK7 _ _ ?_
      unfold wal_Log_Parts.s2 at h
      refine wp_region_lit ?_
      obtain ⟨t19, he, h⟩ := h
      refine t_pure hs rfl rfl (by decide) (Pure.int he (p_add rfl rfl rfl)) ?_
      clear hs a he; intro a hs
      refine t_pure hs rfl rfl (by decide) (p_move rfl rfl) ?_
      clear hs a; intro a hs
      rw [← hX1] at h
      exact ⟨(n3_2, t19), hs.to ⟨rfl, rfl, rfl, trivial⟩, h⟩
    clear hK7
    refine wp_block ?_
    refine wp_seq_k fun K8 hK8 => ?_
    refine wp_region_lit ?_
    refine t_pure hs rfl rfl (by decide) (p_move rfl rfl) ?_
    clear hs a; intro a hs
    refine t_pure hs rfl rfl (by decide) (p_assign rfl rfl) ?_
    clear hs a; intro a hs
    refine hK8 _ _ ?_
    refine wp_seq_k fun K9 hK9 => ?_
    refine wp_region_lit ?_
    refine t_pure hs rfl rfl (by decide) (p_move rfl rfl) ?_
    clear hs a; intro a hs
    obtain ⟨t9, rfl, h⟩ := h
    refine t_pure hs rfl rfl (by decide) (p_nil rfl rfl) ?_
    clear hs a; intro a hs
    refine t_pure hs rfl rfl (by decide) (p_fieldAddr0 rfl rfl ft_159_0) ?_
    clear hs a; intro a hs
    obtain ⟨t11, hv, h⟩ := h
    refine t_eff hs rfl rfl (by decide) (e_load rfl rfl ct_57 hv) ?_
    clear hs a hv; intro a hs
    refine t_call hs rfl rfl (by decide) (e_call rfl rfl rfl cb_69) h ?_
    clear hs a h
    intro v a w hk hs
    obtain ⟨t12, rfl, h⟩ := hk
    refine t_pure hs rfl rfl (by decide) (p_move rfl rfl) ?_
    clear hs a; intro a hs
    refine t_pure hs rfl rfl (by decide) (p_move rfl rfl) ?_
    clear hs a; intro a hs
    refine t_call hs rfl rfl (by decide) (e_call rfl rfl rfl cb_66) h ?_
    clear hs a h
    intro v a w hk hs
    obtain ⟨t15, rfl, h⟩ := hk
    replace hs := hs.to (τ := [(0, (.pointer (some t9))), (3, (.int .i64 n3_1)), (5, (.int .i64 t5_1)), (12, (Sl.val t12)), (15, (.string t15))]) ⟨rfl, rfl, rfl, rfl, rfl, trivial⟩
    refine t_call hs rfl rfl (by decide) (e_call rfl rfl rfl cb_75) h ?_
    clear hs a h
    intro v a w hk hs
    obtain ⟨t16, rfl, h⟩ := hk
    refine hK9 _ _ ?_
    refine c_cond hs rfl (fun hb => ?_) (fun hb => ?_)
    · replace h := h.1 hb
      clear hb
      refine wp_region_lit ?_
      refine t_pure hs rfl rfl (by decide) (p_move rfl rfl) ?_
      clear hs a; intro a hs
      obtain ⟨t18, he, h⟩ := h
      refine t_pure hs rfl rfl (by decide) (Pure.int he (p_add rfl rfl rfl)) ?_
      clear hs a he; intro a hs
      refine t_pure hs rfl rfl (by decide) (p_assign rfl rfl) ?_
      clear hs a; intro a hs
      exact J2 t18 _ _ (hs.to ⟨rfl, rfl, rfl, trivial⟩) h
    · replace h := h.2 hb
      clear hb
      refine wp_skip ?_
      exact J2 n3_1 _ _ (hs.to ⟨rfl, rfl, rfl, trivial⟩) h
  · replace h := h.2 hb
    clear hb
    refine wp_exit ?_
    refine hK3 _ _ ?_
    refine wp_seq_k fun K10 hK10 => ?_
    refine wp_region_lit ?_
    refine t_pure hs rfl rfl (by decide) (p_move rfl rfl) ?_
    clear hs a; intro a hs
    refine t_pure hs rfl rfl (by decide) (p_assign rfl rfl) ?_
    clear hs a; intro a hs
    refine hK10 _ _ ?_
    refine wp_ret ?_
    refine f_ret (fn := Try.f38) hs (fun a hs => r_one hs rfl (rfl)) ⟨n3_1, rfl, h⟩
def wal_Log_load.s3 (Q : Int → K) (X2 : Int → K) (l0_3 : Addr) (part4_3 : Int) (k9_3 : Int) (e10_3 : Int) (t81_3 : Bool) : K :=
  Ite t81_3
    (Q e10_3)
    (Ar (IntKind.wrap .i64 (k9_3 - 1)) fun t67 =>
    X2 t67)
def wal_Log_load.b2 (Q : Int → K)  (X2 : Int → K) (l0_2 : (Option Addr)) (part4_2 : Int) (k9_2 : Int) : K :=
  Ite (decide (part4_2 ≤ k9_2))
    (Dr <| WithS fun S =>
    Nn l0_2 fun t69 =>
    LdS S t69 Value.pointer fun t71 =>
    wal_Log_file.call (some t69) k9_2 fun t74 =>
    Sv S <|
    disk_Disk_Remove.call t71 t74 fun t75 =>
    Ite (decide (t75 ≠ 0))
      (wal_Log_load.s3 Q X2 t69 part4_2 k9_2 t75 (decide (t75 ≠ 60)))
      (wal_Log_load.s3 Q X2 t69 part4_2 k9_2 t75 false))
    (Q 0)
def wal_Log_load.s1 (Q : Int → K)  (l0_1 : (Option Addr)) (part4_1 : Int) : K :=
  LoopK (α := Int) (fun X x => wal_Log_load.b2 Q X l0_1 part4_1 x) 9
def wal_Log_load.s6 (Q : Int → K) (X4 : Bool → Int → K) (l0_6 : (Option Addr)) (whole3_6 : Bool) (part4_6 : Int) : K :=
  Ar (IntKind.wrap .i64 (part4_6 + 1)) fun t17 =>
  X4 whole3_6 t17
def wal_Log_load.s5 (Q : Int → K) (X4 : Bool → Int → K) (l0_5 : (Option Addr)) (part4_5 : Int) (t15_5 : Bool) : K :=
  Ite t15_5
    (Dr <| WithS fun S =>
    Nn l0_5 fun t20 =>
    LdS S t20 Value.pointer fun t22 =>
    wal_Log_file.call (some t20) part4_5 fun t25 =>
    Sv S <|
    disk_Disk_Read.call t22 t25 fun t26x0 t26x1 =>
    Ite (decide (t26x1 = 60))
      (wal_Log_load.s1 Q (some t20) part4_5)
      (Ite (decide (t26x1 ≠ 0))
        (Q t26x1)
        (wal_Log_parse.call (some t20) t26x0 fun t36 =>
        St (t20.add 3) (.int .i64 part4_5) <|
        St (t20.add 4) (.int .i64 t36) <|
        Ite (!(decide (t36 = (t26x0.n : Int))))
          (Dr <| WithS fun S =>
          LdS S t20 Value.pointer fun t54 =>
          wal_Log_file.call (some t20) part4_5 fun t57 =>
          Sv S <|
          disk_Disk_Cut.call t54 t57 t36 fun t59 =>
          Ite (decide (t59 ≠ 0))
            (Q t59)
            (wal_Log_load.s6 Q X4 (some t20) (decide (t36 = (t26x0.n : Int))) part4_5))
          (wal_Log_load.s6 Q X4 (some t20) (decide (t36 = (t26x0.n : Int))) part4_5))))
    (wal_Log_load.s1 Q l0_5 part4_5)
def wal_Log_load.b4 (Q : Int → K)  (X4 : Bool → Int → K) (l0_4 : (Option Addr)) (whole3_4 : Bool) (part4_4 : Int) : K :=
  Ite whole3_4
    (wal_Log_load.s5 Q X4 l0_4 part4_4 (decide (part4_4 < 10)))
    (wal_Log_load.s5 Q X4 l0_4 part4_4 false)
def wal_Log_load (l0 : (Option Addr)) (Q : Int → K) : K :=
  LoopK (α := Bool × Int) (fun X x => wal_Log_load.b4 Q (fun whole3_4 part4_4 => X (whole3_4, part4_4)) l0 x.1 x.2) (true, 0)
theorem wal_Log_load_ok (l0 : (Option Addr)) (Q : Int → K) (w : World) (h : wal_Log_load l0 Q w) : wal_Log_load.call l0 Q w := by
  unfold wal_Log_load.call CallF
  refine f_start (args := [(.pointer l0)]) Try.func65 rfl (Nat.le_of_ble_eq_true rfl) ?_
  intro a hs
  unfold wal_Log_load at h
  refine wp_seq_k fun K1 hK1 => ?_
  refine wp_region_lit ?_
  refine t_pure hs rfl rfl (by decide) (p_assign rfl rfl) ?_
  clear hs a; intro a hs
  refine hK1 _ _ ?_
  refine wp_seq_k fun K2 hK2 => ?_
  refine wp_region_lit ?_
  refine t_pure hs rfl rfl (by decide) (p_assign rfl rfl) ?_
  clear hs a; intro a hs
  refine t_pure hs rfl rfl (by decide) (p_assign rfl rfl) ?_
  clear hs a; intro a hs
  refine hK2 _ _ ?_
  refine wp_seq_k fun K3 hK3 => ?_
  have J1 : ∀ (part4_1 : Int) (a : Act) (w : World), Slots a 83 [(0, (.pointer l0)), (4, (.int .i64 part4_1))] → wal_Log_load.s1 Q l0 part4_1 w → K3 a w := by
    clear h hs
    intro part4_1 a w hs h
    refine hK3 _ _ ?_
    unfold wal_Log_load.s1 at h
    refine wp_seq_k fun K4 hK4 => ?_
    refine wp_seq_k fun K5 hK5 => ?_
    refine wp_region_lit ?_
    refine t_pure hs rfl rfl (by decide) (p_assign rfl rfl) ?_
    clear hs a; intro a hs
    refine hK5 _ _ ?_
    refine wp_block ?_
    obtain ⟨I2, μ2, h0, hr⟩ := h
    refine c_loop (α := Int) I2 μ2 (fun x a => Slots a 83 [(0, (.pointer l0)), (4, (.int .i64 part4_1)), (9, (.int .i64 x))]) 9 h0 (hs.to ⟨rfl, rfl, rfl, trivial⟩) ?_
    clear h0 hs a
    intro k9_2 a w hI hs
    have h : wal_Log_load.b2 Q (fun k9_2n w' => I2 k9_2n w' ∧ μ2 k9_2n w' < μ2 k9_2 w) l0 part4_1 k9_2 w := hr k9_2 w hI
    clear hr hI
    generalize hX2 : (fun k9_2n w' => I2 k9_2n w' ∧ μ2 k9_2n w' < μ2 k9_2 w) = X2 at h
    unfold wal_Log_load.b2 at h
    replace hs : Slots a 83 [(0, (.pointer l0)), (4, (.int .i64 part4_1)), (9, (.int .i64 k9_2))] := hs
    refine wp_seq_k fun K6 hK6 => ?_
    refine wp_seq_k fun K7 hK7 => ?_
    refine wp_region_lit ?_
    refine t_pure hs rfl rfl (by decide) (p_move rfl rfl) ?_
    clear hs a; intro a hs
    refine t_pure hs rfl rfl (by decide) (p_move rfl rfl) ?_
    clear hs a; intro a hs
    refine t_pure hs rfl rfl (by decide) (p_ge rfl rfl rfl) ?_
    clear hs a; intro a hs
    refine hK7 _ _ ?_
    refine c_cond hs rfl (fun hb => ?_) (fun hb => ?_)
    · replace h := h.1 hb
      clear hb
      refine wp_skip ?_
      refine hK6 _ _ ?_
      refine wp_seq_k fun K8 hK8 => ?_
      refine wp_block ?_
      refine wp_seq_k fun K9 hK9 => ?_
      obtain ⟨w1, hw1, h⟩ := h
      obtain ⟨S, hS, h⟩ := h
      subst hw1
      refine d_start (S := S) (ds := [7]) #[false, false, false, false, false, false, false, false, false] mixed rfl rfl ?_
      refine d_pure hs #[true, false, false, false, false, false, false, false, false] (i := 0) rfl rfl rfl (by decide) (by kernel_rfl) (tight_body (P := Try.prog) (fn := Try.f65)) (p_move rfl rfl) ?_
      clear hs a; intro a hs
      obtain ⟨t69, rfl, h⟩ := h
      refine d_pure hs #[true, true, false, false, false, false, false, false, false] (i := 1) rfl rfl rfl (by decide) (by kernel_rfl) (tight_body (P := Try.prog) (fn := Try.f65)) (p_nil rfl rfl) ?_
      clear hs a; intro a hs
      refine d_pure hs #[true, true, true, false, false, false, false, false, false] (i := 2) rfl rfl rfl (by decide) (by kernel_rfl) (tight_body (P := Try.prog) (fn := Try.f65)) (p_fieldAddr0 rfl rfl ft_159_0) ?_
      clear hs a; intro a hs
      refine d_pure hs #[true, true, true, false, true, false, false, false, false] (i := 4) rfl rfl rfl (by decide) (by kernel_rfl) (tight_body (P := Try.prog) (fn := Try.f65)) (p_move rfl rfl) ?_
      clear hs a; intro a hs
      refine d_pure hs #[true, true, true, false, true, true, false, false, false] (i := 5) rfl rfl rfl (by decide) (by kernel_rfl) (tight_body (P := Try.prog) (fn := Try.f65)) (p_move rfl rfl) ?_
      clear hs a; intro a hs
      obtain ⟨t71, hv, h⟩ := h
      refine d_read hs #[true, true, true, true, true, true, false, false, false] (i := 3) rfl rfl rfl (by decide) (by kernel_rfl) (by kernel_rfl) (tight_body (P := Try.prog) (fn := Try.f65)) hS (fun w h' => e_load rfl rfl ct_57 (hv w h')) ?_
      clear hs a hv; intro a hs
      refine d_all [6] (by kernel_rfl) (by decide) ?_
      refine AllS.cons ?_ AllS.nil
      refine d_call hs #[true, true, true, true, true, true, true, false, false] (i := 6) rfl rfl rfl (by decide) rfl (e_call rfl rfl rfl cb_66) h (fun v w'' hk => by obtain ⟨t74, _, hS, _⟩ := hk; exact fun _ _ => hS) ?_
      clear hs a h
      intro v a w hk hs
      obtain ⟨t74, rfl, h⟩ := hk
      obtain ⟨hS, h⟩ := h
      refine d_all [7] (by kernel_rfl) (by decide) ?_
      refine AllS.cons ?_ AllS.nil
      refine d_call hs #[true, true, true, true, true, true, true, true, false] (i := 7) rfl rfl rfl (by decide) rfl (e_call rfl rfl rfl cb_98) h (fun _ _ _ hn => (hn (by decide)).elim) ?_
      clear hs a h
      intro v a w hk hs
      obtain ⟨t75, rfl, h⟩ := hk
      replace hs := hs.to (τ := [(0, (.pointer (some t69))), (4, (.int .i64 part4_1)), (9, (.int .i64 k9_2)), (75, (.int .i64 t75))]) ⟨rfl, rfl, rfl, rfl, trivial⟩
      refine d_pure hs #[true, true, true, true, true, true, true, true, true] (i := 8) rfl rfl rfl (by decide) (by kernel_rfl) (tight_body (P := Try.prog) (fn := Try.f65)) (p_assign rfl rfl) ?_
      clear hs a; intro a hs
      refine d_done (by kernel_rfl) ?_ _
      clear hS
      refine hK9 _ _ ?_
      refine wp_seq_k fun K10 hK10 => ?_
      have J3 : ∀ (t81_3 : Bool) (a : Act) (w : World), Slots a 83 [(0, (.pointer (some t69))), (4, (.int .i64 part4_1)), (9, (.int .i64 k9_2)), (10, (.int .i64 t75)), (81, (.bool t81_3))] → wal_Log_load.s3 Q X2 t69 part4_1 k9_2 t75 t81_3 w → K10 a w := by
        clear h hs
        intro t81_3 a w hs h
        refine hK10 _ _ ?_
        unfold wal_Log_load.s3 at h
        refine c_cond hs rfl (fun hb => ?_) (fun hb => ?_)
        · replace h := h.1 hb
          clear hb
          refine wp_seq_k fun K11 hK11 => ?_
          refine wp_region_lit ?_
          refine t_pure hs rfl rfl (by decide) (p_move rfl rfl) ?_
          clear hs a; intro a hs
          refine t_pure hs rfl rfl (by decide) (p_assign rfl rfl) ?_
          clear hs a; intro a hs
          refine hK11 _ _ ?_
          refine wp_ret ?_
          refine f_ret (fn := Try.f65) hs (fun a hs => r_one hs rfl (rfl)) ⟨t75, rfl, h⟩
        · replace h := h.2 hb
          clear hb
          refine wp_skip ?_
          refine hK8 _ _ ?_
          refine wp_region_lit ?_
          refine t_pure hs rfl rfl (by decide) (p_move rfl rfl) ?_
          clear hs a; intro a hs
          obtain ⟨t67, he, h⟩ := h
          refine t_pure hs rfl rfl (by decide) (Pure.int he (p_sub rfl rfl rfl)) ?_
          clear hs a he; intro a hs
          refine t_pure hs rfl rfl (by decide) (p_assign rfl rfl) ?_
          clear hs a; intro a hs
          rw [← hX2] at h
          exact ⟨t67, hs.to ⟨rfl, rfl, rfl, trivial⟩, h⟩
      clear hK10
      refine wp_region_lit ?_
      refine t_pure hs rfl rfl (by decide) (p_move rfl rfl) ?_
      clear hs a; intro a hs
      refine t_pure hs rfl rfl (by decide) (p_ne rfl rfl rfl) ?_
      clear hs a; intro a hs
      refine t_pure hs rfl rfl (by decide) (p_move rfl rfl) ?_
      clear hs a; intro a hs
      refine split_bool (decide (t75 ≠ 0)) (fun hb => ?_) (fun hb => ?_)
      · replace h := h.1 hb
        rw [hb] at hs
        clear hb
        refine t_yes hs rfl ?_
        refine t_pure hs rfl rfl (by decide) (p_move rfl rfl) ?_
        clear hs a; intro a hs
        refine t_yes hs rfl ?_
        refine t_pure hs rfl rfl (by decide) (p_ne rfl rfl rfl) ?_
        clear hs a; intro a hs
        refine t_pure hs rfl rfl (by decide) (p_pick_t rfl rfl rfl) ?_
        clear hs a; intro a hs
        exact J3 (decide (t75 ≠ 60)) _ _ (hs.to ⟨rfl, rfl, rfl, rfl, rfl, trivial⟩) h
      · replace h := h.2 hb
        rw [hb] at hs
        clear hb
        refine t_no hs rfl rfl (by decide) ?_
        clear hs a; intro a hs
        refine t_no hs rfl rfl (by decide) ?_
        clear hs a; intro a hs
        refine t_pure hs rfl rfl (by decide) (p_pick_f rfl rfl rfl) ?_
        clear hs a; intro a hs
        exact J3 false _ _ (hs.to ⟨rfl, rfl, rfl, rfl, rfl, trivial⟩) h
    · replace h := h.2 hb
      clear hb
      refine wp_exit ?_
      refine hK4 _ _ ?_
      refine wp_seq_k fun K12 hK12 => ?_
      refine wp_region_lit ?_
      refine t_pure hs rfl rfl (by decide) (p_assign rfl rfl) ?_
      clear hs a; intro a hs
      refine hK12 _ _ ?_
      refine wp_ret ?_
      refine f_ret (fn := Try.f65) hs (fun a hs => r_one hs rfl (rfl)) ⟨0, rfl, h⟩
  clear hK3
  refine wp_block ?_
  obtain ⟨I4, μ4, h0, hr⟩ := h
  refine c_loop (α := Bool × Int) I4 μ4 (fun x a => Slots a 83 [(0, (.pointer l0)), (3, (.bool x.1)), (4, (.int .i64 x.2))]) (true, 0) h0 (hs.to ⟨rfl, rfl, rfl, trivial⟩) ?_
  clear h0 hs a
  rintro ⟨whole3_4, part4_4⟩ a w hI hs
  have h : wal_Log_load.b4 Q (fun whole3_4n part4_4n w' => I4 (whole3_4n, part4_4n) w' ∧ μ4 (whole3_4n, part4_4n) w' < μ4 (whole3_4, part4_4) w) l0 whole3_4 part4_4 w := hr (whole3_4, part4_4) w hI
  clear hr hI
  generalize hX4 : (fun whole3_4n part4_4n w' => I4 (whole3_4n, part4_4n) w' ∧ μ4 (whole3_4n, part4_4n) w' < μ4 (whole3_4, part4_4) w) = X4 at h
  unfold wal_Log_load.b4 at h
  replace hs : Slots a 83 [(0, (.pointer l0)), (3, (.bool whole3_4)), (4, (.int .i64 part4_4))] := hs
  refine wp_seq_k fun K13 hK13 => ?_
  refine wp_seq_k fun K14 hK14 => ?_
  have J5 : ∀ (t15_5 : Bool) (a : Act) (w : World), Slots a 83 [(0, (.pointer l0)), (4, (.int .i64 part4_4)), (15, (.bool t15_5))] → wal_Log_load.s5 Q X4 l0 part4_4 t15_5 w → K14 a w := by
    clear h hs
    intro t15_5 a w hs h
    refine hK14 _ _ ?_
    unfold wal_Log_load.s5 at h
    refine c_cond hs rfl (fun hb => ?_) (fun hb => ?_)
    · replace h := h.1 hb
      clear hb
      refine wp_skip ?_
      refine hK13 _ _ ?_
      refine wp_seq_k fun K15 hK15 => ?_
      have J6 : ∀ (whole3_6 : Bool) (a : Act) (w : World), Slots a 83 [(0, (.pointer l0)), (3, (.bool whole3_6)), (4, (.int .i64 part4_4))] → wal_Log_load.s6 Q X4 l0 whole3_6 part4_4 w → K15 a w := by
        clear h hs
        intro whole3_6 a w hs h
        refine hK15 _ _ ?_
        unfold wal_Log_load.s6 at h
        refine wp_region_lit ?_
        refine t_pure hs rfl rfl (by decide) (p_move rfl rfl) ?_
        clear hs a; intro a hs
        obtain ⟨t17, he, h⟩ := h
        refine t_pure hs rfl rfl (by decide) (Pure.int he (p_add rfl rfl rfl)) ?_
        clear hs a he; intro a hs
        refine t_pure hs rfl rfl (by decide) (p_assign rfl rfl) ?_
        clear hs a; intro a hs
        rw [← hX4] at h
        exact ⟨(whole3_6, t17), hs.to ⟨rfl, rfl, rfl, trivial⟩, h⟩
      clear hK15
      refine wp_block ?_
      refine wp_seq_k fun K16 hK16 => ?_
      obtain ⟨w1, hw1, h⟩ := h
      obtain ⟨S, hS, h⟩ := h
      subst hw1
      refine d_start (S := S) (ds := [7]) #[false, false, false, false, false, false, false, false, false, false, false, false, false] mixed rfl rfl ?_
      refine d_pure hs #[true, false, false, false, false, false, false, false, false, false, false, false, false] (i := 0) rfl rfl rfl (by decide) (by kernel_rfl) (tight_body (P := Try.prog) (fn := Try.f65)) (p_move rfl rfl) ?_
      clear hs a; intro a hs
      obtain ⟨t20, rfl, h⟩ := h
      refine d_pure hs #[true, true, false, false, false, false, false, false, false, false, false, false, false] (i := 1) rfl rfl rfl (by decide) (by kernel_rfl) (tight_body (P := Try.prog) (fn := Try.f65)) (p_nil rfl rfl) ?_
      clear hs a; intro a hs
      refine d_pure hs #[true, true, true, false, false, false, false, false, false, false, false, false, false] (i := 2) rfl rfl rfl (by decide) (by kernel_rfl) (tight_body (P := Try.prog) (fn := Try.f65)) (p_fieldAddr0 rfl rfl ft_159_0) ?_
      clear hs a; intro a hs
      refine d_pure hs #[true, true, true, false, true, false, false, false, false, false, false, false, false] (i := 4) rfl rfl rfl (by decide) (by kernel_rfl) (tight_body (P := Try.prog) (fn := Try.f65)) (p_move rfl rfl) ?_
      clear hs a; intro a hs
      refine d_pure hs #[true, true, true, false, true, true, false, false, false, false, false, false, false] (i := 5) rfl rfl rfl (by decide) (by kernel_rfl) (tight_body (P := Try.prog) (fn := Try.f65)) (p_move rfl rfl) ?_
      clear hs a; intro a hs
      obtain ⟨t22, hv, h⟩ := h
      refine d_read hs #[true, true, true, true, true, true, false, false, false, false, false, false, false] (i := 3) rfl rfl rfl (by decide) (by kernel_rfl) (by kernel_rfl) (tight_body (P := Try.prog) (fn := Try.f65)) hS (fun w h' => e_load rfl rfl ct_57 (hv w h')) ?_
      clear hs a hv; intro a hs
      refine d_all [6] (by kernel_rfl) (by decide) ?_
      refine AllS.cons ?_ AllS.nil
      refine d_call hs #[true, true, true, true, true, true, true, false, false, false, false, false, false] (i := 6) rfl rfl rfl (by decide) rfl (e_call rfl rfl rfl cb_66) h (fun v w'' hk => by obtain ⟨t25, _, hS, _⟩ := hk; exact fun _ _ => hS) ?_
      clear hs a h
      intro v a w hk hs
      obtain ⟨t25, rfl, h⟩ := hk
      obtain ⟨hS, h⟩ := h
      refine d_all [7] (by kernel_rfl) (by decide) ?_
      refine AllS.cons ?_ AllS.nil
      refine d_call hs #[true, true, true, true, true, true, true, true, false, false, false, false, false] (i := 7) rfl rfl rfl (by decide) rfl (e_call rfl rfl rfl cb_36) h (fun _ _ _ hn => (hn (by decide)).elim) ?_
      clear hs a h
      intro v a w hk hs
      obtain ⟨t26x0, t26x1, rfl, h⟩ := hk
      replace hs := hs.to (τ := [(0, (.pointer (some t20))), (4, (.int .i64 part4_4)), (26, (.tuple #[(Sl.val t26x0), (.int .i64 t26x1)]))]) ⟨rfl, rfl, rfl, trivial⟩
      refine d_pure hs #[true, true, true, true, true, true, true, true, true, false, false, false, false] (i := 8) rfl rfl rfl (by decide) (by kernel_rfl) (tight_body (P := Try.prog) (fn := Try.f65)) (p_move rfl rfl) ?_
      clear hs a; intro a hs
      refine d_pure hs #[true, true, true, true, true, true, true, true, true, true, false, false, false] (i := 9) rfl rfl rfl (by decide) (by kernel_rfl) (tight_body (P := Try.prog) (fn := Try.f65)) (p_extract rfl rfl rfl) ?_
      clear hs a; intro a hs
      refine d_pure hs #[true, true, true, true, true, true, true, true, true, true, true, false, false] (i := 10) rfl rfl rfl (by decide) (by kernel_rfl) (tight_body (P := Try.prog) (fn := Try.f65)) (p_extract rfl rfl rfl) ?_
      clear hs a; intro a hs
      refine d_pure hs #[true, true, true, true, true, true, true, true, true, true, true, true, false] (i := 11) rfl rfl rfl (by decide) (by kernel_rfl) (tight_body (P := Try.prog) (fn := Try.f65)) (p_assign rfl rfl) ?_
      clear hs a; intro a hs
      refine d_pure hs #[true, true, true, true, true, true, true, true, true, true, true, true, true] (i := 12) rfl rfl rfl (by decide) (by kernel_rfl) (tight_body (P := Try.prog) (fn := Try.f65)) (p_assign rfl rfl) ?_
      clear hs a; intro a hs
      refine d_done (by kernel_rfl) ?_ _
      clear hS
      refine hK16 _ _ ?_
      refine wp_seq_k fun K17 hK17 => ?_
      refine wp_seq_k fun K18 hK18 => ?_
      refine wp_region_lit ?_
      refine t_pure hs rfl rfl (by decide) (p_move rfl rfl) ?_
      clear hs a; intro a hs
      refine t_pure hs rfl rfl (by decide) (p_eq rfl rfl rfl) ?_
      clear hs a; intro a hs
      refine hK18 _ _ ?_
      refine c_cond hs rfl (fun hb => ?_) (fun hb => ?_)
      · replace h := h.1 hb
        clear hb
        refine wp_exit ?_
        exact J1 part4_4 _ _ (hs.to ⟨rfl, rfl, trivial⟩) h
      · replace h := h.2 hb
        clear hb
        refine wp_skip ?_
        refine hK17 _ _ ?_
        refine wp_seq_k fun K19 hK19 => ?_
        refine wp_seq_k fun K20 hK20 => ?_
        refine wp_region_lit ?_
        refine t_pure hs rfl rfl (by decide) (p_move rfl rfl) ?_
        clear hs a; intro a hs
        refine t_pure hs rfl rfl (by decide) (p_ne rfl rfl rfl) ?_
        clear hs a; intro a hs
        refine hK20 _ _ ?_
        refine c_cond hs rfl (fun hb => ?_) (fun hb => ?_)
        · replace h := h.1 hb
          clear hb
          refine wp_seq_k fun K21 hK21 => ?_
          refine wp_region_lit ?_
          refine t_pure hs rfl rfl (by decide) (p_move rfl rfl) ?_
          clear hs a; intro a hs
          refine t_pure hs rfl rfl (by decide) (p_assign rfl rfl) ?_
          clear hs a; intro a hs
          refine hK21 _ _ ?_
          refine wp_ret ?_
          refine f_ret (fn := Try.f65) hs (fun a hs => r_one hs rfl (rfl)) ⟨t26x1, rfl, h⟩
        · replace h := h.2 hb
          clear hb
          refine wp_skip ?_
          refine hK19 _ _ ?_
          refine wp_seq_k fun K22 hK22 => ?_
          refine wp_region_lit ?_
          refine t_pure hs rfl rfl (by decide) (p_move rfl rfl) ?_
          clear hs a; intro a hs
          refine t_pure hs rfl rfl (by decide) (p_move rfl rfl) ?_
          clear hs a; intro a hs
          refine t_call hs rfl rfl (by decide) (e_call rfl rfl rfl cb_96) h ?_
          clear hs a h
          intro v a w hk hs
          obtain ⟨t36, rfl, h⟩ := hk
          refine t_pure hs rfl rfl (by decide) (p_assign rfl rfl) ?_
          clear hs a; intro a hs
          refine hK22 _ _ ?_
          refine wp_seq_k fun K23 hK23 => ?_
          refine wp_region_lit ?_
          refine t_pure hs rfl rfl (by decide) (p_move rfl rfl) ?_
          clear hs a; intro a hs
          refine t_pure hs rfl rfl (by decide) (p_move rfl rfl) ?_
          clear hs a; intro a hs
          refine t_pure hs rfl rfl (by decide) (p_move rfl rfl) ?_
          clear hs a; intro a hs
          refine t_pure hs rfl rfl (by decide) (p_move rfl rfl) ?_
          clear hs a; intro a hs
          refine t_pure hs rfl rfl (by decide) (p_move rfl rfl) ?_
          clear hs a; intro a hs
          refine t_pure hs rfl rfl (by decide) (p_move rfl rfl) ?_
          clear hs a; intro a hs
          refine t_pure hs rfl rfl (by decide) (p_len rfl rfl sl_22) ?_
          clear hs a; intro a hs
          refine t_pure hs rfl rfl (by decide) (p_eq rfl rfl rfl) ?_
          clear hs a; intro a hs
          replace hs := hs.to (τ := [(0, (.pointer (some t20))), (4, (.int .i64 part4_4)), (7, (.int .i64 t36)), (37, (.pointer (some t20))), (38, (.pointer (some t20))), (39, (.int .i64 part4_4)), (40, (.int .i64 t36)), (44, (.bool (decide (t36 = (t26x0.n : Int)))))]) ⟨rfl, rfl, rfl, rfl, rfl, rfl, rfl, rfl, trivial⟩
          refine t_pure hs rfl rfl (by decide) (p_nil rfl rfl) ?_
          clear hs a; intro a hs
          refine t_pure hs rfl rfl (by decide) (p_fieldAddr rfl rfl ft_159_3) ?_
          clear hs a; intro a hs
          obtain ⟨w1, hw, hc, hf, hv, h⟩ := h
          refine t_skip hs rfl rfl (e_store rfl rfl rfl sz_3 hw hc hf hv) ?_
          clear hs a hw hc hf hv; intro a hs
          refine t_pure hs rfl rfl (by decide) (p_nil rfl rfl) ?_
          clear hs a; intro a hs
          refine t_pure hs rfl rfl (by decide) (p_fieldAddr rfl rfl ft_159_4) ?_
          clear hs a; intro a hs
          obtain ⟨w1, hw, hc, hf, hv, h⟩ := h
          refine t_skip hs rfl rfl (e_store rfl rfl rfl sz_3 hw hc hf hv) ?_
          clear hs a hw hc hf hv; intro a hs
          refine t_pure hs rfl rfl (by decide) (p_assign rfl rfl) ?_
          clear hs a; intro a hs
          refine hK23 _ _ ?_
          refine wp_seq_k fun K24 hK24 => ?_
          refine wp_region_lit ?_
          refine t_pure hs rfl rfl (by decide) (p_move rfl rfl) ?_
          clear hs a; intro a hs
          refine t_pure hs rfl rfl (by decide) (p_not rfl rfl) ?_
          clear hs a; intro a hs
          refine hK24 _ _ ?_
          refine c_cond hs rfl (fun hb => ?_) (fun hb => ?_)
          · replace h := h.1 hb
            clear hb
            refine wp_seq_k fun K25 hK25 => ?_
            obtain ⟨w1, hw1, h⟩ := h
            obtain ⟨S, hS, h⟩ := h
            subst hw1
            refine d_start (S := S) (ds := [8]) #[false, false, false, false, false, false, false, false, false, false] mixed rfl rfl ?_
            refine d_pure hs #[true, false, false, false, false, false, false, false, false, false] (i := 0) rfl rfl rfl (by decide) (by kernel_rfl) (tight_body (P := Try.prog) (fn := Try.f65)) (p_move rfl rfl) ?_
            clear hs a; intro a hs
            refine d_pure hs #[true, true, false, false, false, false, false, false, false, false] (i := 1) rfl rfl rfl (by decide) (by kernel_rfl) (tight_body (P := Try.prog) (fn := Try.f65)) (p_nil rfl rfl) ?_
            clear hs a; intro a hs
            refine d_pure hs #[true, true, true, false, false, false, false, false, false, false] (i := 2) rfl rfl rfl (by decide) (by kernel_rfl) (tight_body (P := Try.prog) (fn := Try.f65)) (p_fieldAddr0 rfl rfl ft_159_0) ?_
            clear hs a; intro a hs
            refine d_pure hs #[true, true, true, false, true, false, false, false, false, false] (i := 4) rfl rfl rfl (by decide) (by kernel_rfl) (tight_body (P := Try.prog) (fn := Try.f65)) (p_move rfl rfl) ?_
            clear hs a; intro a hs
            refine d_pure hs #[true, true, true, false, true, true, false, false, false, false] (i := 5) rfl rfl rfl (by decide) (by kernel_rfl) (tight_body (P := Try.prog) (fn := Try.f65)) (p_move rfl rfl) ?_
            clear hs a; intro a hs
            refine d_pure hs #[true, true, true, false, true, true, false, true, false, false] (i := 7) rfl rfl rfl (by decide) (by kernel_rfl) (tight_body (P := Try.prog) (fn := Try.f65)) (p_move rfl rfl) ?_
            clear hs a; intro a hs
            obtain ⟨t54, hv, h⟩ := h
            refine d_read hs #[true, true, true, true, true, true, false, true, false, false] (i := 3) rfl rfl rfl (by decide) (by kernel_rfl) (by kernel_rfl) (tight_body (P := Try.prog) (fn := Try.f65)) hS (fun w h' => e_load rfl rfl ct_57 (hv w h')) ?_
            clear hs a hv; intro a hs
            refine d_all [6] (by kernel_rfl) (by decide) ?_
            refine AllS.cons ?_ AllS.nil
            refine d_call hs #[true, true, true, true, true, true, true, true, false, false] (i := 6) rfl rfl rfl (by decide) rfl (e_call rfl rfl rfl cb_66) h (fun v w'' hk => by obtain ⟨t57, _, hS, _⟩ := hk; exact fun _ _ => hS) ?_
            clear hs a h
            intro v a w hk hs
            obtain ⟨t57, rfl, h⟩ := hk
            obtain ⟨hS, h⟩ := h
            replace hs := hs.to (τ := [(0, (.pointer (some t20))), (3, (.bool (decide (t36 = (t26x0.n : Int))))), (4, (.int .i64 part4_4)), (54, (.pointer t54)), (57, (.string t57)), (58, (.int .i64 t36))]) ⟨rfl, rfl, rfl, rfl, rfl, rfl, trivial⟩
            refine d_all [8] (by kernel_rfl) (by decide) ?_
            refine AllS.cons ?_ AllS.nil
            refine d_call hs #[true, true, true, true, true, true, true, true, true, false] (i := 8) rfl rfl rfl (by decide) rfl (e_call rfl rfl rfl cb_97) h (fun _ _ _ hn => (hn (by decide)).elim) ?_
            clear hs a h
            intro v a w hk hs
            obtain ⟨t59, rfl, h⟩ := hk
            refine d_pure hs #[true, true, true, true, true, true, true, true, true, true] (i := 9) rfl rfl rfl (by decide) (by kernel_rfl) (tight_body (P := Try.prog) (fn := Try.f65)) (p_assign rfl rfl) ?_
            clear hs a; intro a hs
            refine d_done (by kernel_rfl) ?_ _
            clear hS
            refine hK25 _ _ ?_
            refine wp_seq_k fun K26 hK26 => ?_
            refine wp_region_lit ?_
            refine t_pure hs rfl rfl (by decide) (p_move rfl rfl) ?_
            clear hs a; intro a hs
            refine t_pure hs rfl rfl (by decide) (p_ne rfl rfl rfl) ?_
            clear hs a; intro a hs
            refine hK26 _ _ ?_
            refine c_cond hs rfl (fun hb => ?_) (fun hb => ?_)
            · replace h := h.1 hb
              clear hb
              refine wp_seq_k fun K27 hK27 => ?_
              refine wp_region_lit ?_
              refine t_pure hs rfl rfl (by decide) (p_move rfl rfl) ?_
              clear hs a; intro a hs
              refine t_pure hs rfl rfl (by decide) (p_assign rfl rfl) ?_
              clear hs a; intro a hs
              refine hK27 _ _ ?_
              refine wp_ret ?_
              refine f_ret (fn := Try.f65) hs (fun a hs => r_one hs rfl (rfl)) ⟨t59, rfl, h⟩
            · replace h := h.2 hb
              clear hb
              refine wp_skip ?_
              exact J6 (decide (t36 = (t26x0.n : Int))) _ _ (hs.to ⟨rfl, rfl, rfl, trivial⟩) h
          · replace h := h.2 hb
            clear hb
            refine wp_skip ?_
            exact J6 (decide (t36 = (t26x0.n : Int))) _ _ (hs.to ⟨rfl, rfl, rfl, trivial⟩) h
    · replace h := h.2 hb
      clear hb
      refine wp_exit ?_
      exact J1 part4_4 _ _ (hs.to ⟨rfl, rfl, trivial⟩) h
  clear hK14
  refine wp_region_lit ?_
  refine t_pure hs rfl rfl (by decide) (p_move rfl rfl) ?_
  clear hs a; intro a hs
  refine t_pure hs rfl rfl (by decide) (p_move rfl rfl) ?_
  clear hs a; intro a hs
  refine split_bool whole3_4 (fun hb => ?_) (fun hb => ?_)
  · replace h := h.1 hb
    rw [hb] at hs
    clear hb
    refine t_yes hs rfl ?_
    refine t_pure hs rfl rfl (by decide) (p_move rfl rfl) ?_
    clear hs a; intro a hs
    refine t_yes hs rfl ?_
    refine t_pure hs rfl rfl (by decide) (p_lt rfl rfl rfl) ?_
    clear hs a; intro a hs
    refine t_pure hs rfl rfl (by decide) (p_pick_t rfl rfl rfl) ?_
    clear hs a; intro a hs
    exact J5 (decide (part4_4 < 10)) _ _ (hs.to ⟨rfl, rfl, rfl, trivial⟩) h
  · replace h := h.2 hb
    rw [hb] at hs
    clear hb
    refine t_no hs rfl rfl (by decide) ?_
    clear hs a; intro a hs
    refine t_no hs rfl rfl (by decide) ?_
    clear hs a; intro a hs
    refine t_pure hs rfl rfl (by decide) (p_pick_f rfl rfl rfl) ?_
    clear hs a; intro a hs
    exact J5 false _ _ (hs.to ⟨rfl, rfl, rfl, trivial⟩) h
def wal_Log_file (l0 : (Option Addr)) (part1 : Int) (Q : ByteArray → K) : K :=
  Nn l0 fun t6 =>
  Ld (t6.add 1) Value.string fun t8 =>
  Ar (IntKind.wrap .i64 (48 + part1)) fun t10 =>
  Ar (IntKind.wrap .i32 t10) fun t11 =>
  Rd Try.prog (convert 21 9 (.int .i32 t11)) Value.string fun t12 =>
  Cat t8 t12 fun t13 =>
  Q t13
theorem wal_Log_file_ok (l0 : (Option Addr)) (part1 : Int) (Q : ByteArray → K) (w : World) (h : wal_Log_file l0 part1 Q w) : wal_Log_file.call l0 part1 Q w := by
  unfold wal_Log_file.call CallF
  refine f_start (args := [(.pointer l0), (.int .i64 part1)]) Try.func66 rfl (Nat.le_of_ble_eq_true rfl) ?_
  intro a hs
  unfold wal_Log_file at h
  refine wp_seq_k fun K1 hK1 => ?_
  refine wp_region_lit ?_
  refine t_pure hs rfl rfl (by decide) (p_assign rfl rfl) ?_
  clear hs a; intro a hs
  refine hK1 _ _ ?_
  refine wp_seq_k fun K2 hK2 => ?_
  refine wp_region_lit ?_
  refine t_pure hs rfl rfl (by decide) (p_move rfl rfl) ?_
  clear hs a; intro a hs
  obtain ⟨t6, rfl, h⟩ := h
  refine t_pure hs rfl rfl (by decide) (p_nil rfl rfl) ?_
  clear hs a; intro a hs
  refine t_pure hs rfl rfl (by decide) (p_fieldAddr rfl rfl ft_159_1) ?_
  clear hs a; intro a hs
  obtain ⟨t8, hv, h⟩ := h
  refine t_eff hs rfl rfl (by decide) (e_load rfl rfl ct_9 hv) ?_
  clear hs a hv; intro a hs
  refine t_pure hs rfl rfl (by decide) (p_move rfl rfl) ?_
  clear hs a; intro a hs
  obtain ⟨t10, he, h⟩ := h
  refine t_pure hs rfl rfl (by decide) (Pure.int he (p_add rfl rfl rfl)) ?_
  clear hs a he; intro a hs
  obtain ⟨t11, he, h⟩ := h
  refine t_pure hs rfl rfl (by decide) (Pure.int he (p_conv_int rfl rfl in_3 in_21)) ?_
  clear hs a he; intro a hs
  obtain ⟨t12, hd, h⟩ := h
  refine t_eff hs rfl rfl (by decide) (e_convert rfl rfl hd) ?_
  clear hs a hd; intro a hs
  replace hs := hs.to (τ := [(8, (.string t8)), (12, (.string t12))]) ⟨rfl, rfl, trivial⟩
  obtain ⟨t13, h0, he, h⟩ := h
  refine t_pure hs rfl rfl (by decide) (Pure.str he (p_cats rfl rfl rfl h0)) ?_
  clear hs a h0 he; intro a hs
  refine t_pure hs rfl rfl (by decide) (p_assign rfl rfl) ?_
  clear hs a; intro a hs
  refine hK2 _ _ ?_
  refine wp_ret ?_
  refine f_ret (fn := Try.f66) hs (fun a hs => r_one hs rfl (rfl)) ⟨t13, rfl, h⟩
def wal_Log_parse.s1 (Q : Int → K)  (good4_1 : Int) : K :=
  Q good4_1
def wal_Log_parse.b2 (Q : Int → K)  (X2 : Int → K) (l0_2 : (Option Addr)) (data1_2 : Sl) (good4_2 : Int) : K :=
  Ite (decide (good4_2 < (data1_2.n : Int)))
    (Slc data1_2 good4_2 (data1_2.n : Int) (data1_2.c : Int) 1 fun t15 =>
    code_Unframe.call t15 fun t16x0 t16x1 t16x2 =>
    Ite (decide (t16x2 ≠ 0))
      (wal_Log_parse.s1 Q good4_2)
      (Nn l0_2 fun t24 =>
      Ld (t24.add 6) Sl.val fun t26 =>
      New 22 #[(Sl.val t16x0)] fun t28 =>
      Do Try.prog (Builtin.append_ #[54, 54] 54 #[(Sl.val t26), (Sl.val (Sl.mk (some t28) 1 1))]) Sl.val fun t29 =>
      St (t24.add 6) (Sl.val t29) <|
      Ar (IntKind.wrap .i64 (good4_2 + t16x1)) fun t34 =>
      X2 t34))
    (wal_Log_parse.s1 Q good4_2)
def wal_Log_parse (l0 : (Option Addr)) (data1 : Sl) (Q : Int → K) : K :=
  LoopK (α := Int) (fun X x => wal_Log_parse.b2 Q X l0 data1 x) 0
theorem wal_Log_parse_ok (l0 : (Option Addr)) (data1 : Sl) (Q : Int → K) (w : World) (h : wal_Log_parse l0 data1 Q w) : wal_Log_parse.call l0 data1 Q w := by
  unfold wal_Log_parse.call CallF
  refine f_start (args := [(.pointer l0), (Sl.val data1)]) Try.func96 rfl (Nat.le_of_ble_eq_true rfl) ?_
  intro a hs
  unfold wal_Log_parse at h
  refine wp_seq_k fun K1 hK1 => ?_
  refine wp_region_lit ?_
  refine t_pure hs rfl rfl (by decide) (p_assign rfl rfl) ?_
  clear hs a; intro a hs
  refine hK1 _ _ ?_
  refine wp_seq_k fun K2 hK2 => ?_
  have J1 : ∀ (good4_1 : Int) (a : Act) (w : World), Slots a 36 [(4, (.int .i64 good4_1))] → wal_Log_parse.s1 Q good4_1 w → K2 a w := by
    clear h hs
    intro good4_1 a w hs h
    refine hK2 _ _ ?_
    unfold wal_Log_parse.s1 at h
    refine wp_seq_k fun K3 hK3 => ?_
    refine wp_region_lit ?_
    refine t_pure hs rfl rfl (by decide) (p_move rfl rfl) ?_
    clear hs a; intro a hs
    refine t_pure hs rfl rfl (by decide) (p_assign rfl rfl) ?_
    clear hs a; intro a hs
    refine hK3 _ _ ?_
    refine wp_ret ?_
    refine f_ret (fn := Try.f96) hs (fun a hs => r_one hs rfl (rfl)) ⟨good4_1, rfl, h⟩
  clear hK2
  refine wp_block ?_
  obtain ⟨I2, μ2, h0, hr⟩ := h
  refine c_loop (α := Int) I2 μ2 (fun x a => Slots a 36 [(0, (.pointer l0)), (1, (Sl.val data1)), (4, (.int .i64 x))]) 0 h0 (hs.to ⟨rfl, rfl, rfl, trivial⟩) ?_
  clear h0 hs a
  intro good4_2 a w hI hs
  have h : wal_Log_parse.b2 Q (fun good4_2n w' => I2 good4_2n w' ∧ μ2 good4_2n w' < μ2 good4_2 w) l0 data1 good4_2 w := hr good4_2 w hI
  clear hr hI
  generalize hX2 : (fun good4_2n w' => I2 good4_2n w' ∧ μ2 good4_2n w' < μ2 good4_2 w) = X2 at h
  unfold wal_Log_parse.b2 at h
  replace hs : Slots a 36 [(0, (.pointer l0)), (1, (Sl.val data1)), (4, (.int .i64 good4_2))] := hs
  refine wp_seq_k fun K4 hK4 => ?_
  refine wp_seq_k fun K5 hK5 => ?_
  refine wp_region_lit ?_
  refine t_pure hs rfl rfl (by decide) (p_move rfl rfl) ?_
  clear hs a; intro a hs
  refine t_pure hs rfl rfl (by decide) (p_move rfl rfl) ?_
  clear hs a; intro a hs
  refine t_pure hs rfl rfl (by decide) (p_len rfl rfl sl_22) ?_
  clear hs a; intro a hs
  refine t_pure hs rfl rfl (by decide) (p_lt rfl rfl rfl) ?_
  clear hs a; intro a hs
  refine hK5 _ _ ?_
  refine c_cond hs rfl (fun hb => ?_) (fun hb => ?_)
  · replace h := h.1 hb
    clear hb
    refine wp_skip ?_
    refine hK4 _ _ ?_
    refine wp_block ?_
    refine wp_seq_k fun K6 hK6 => ?_
    refine wp_region_lit ?_
    refine t_pure hs rfl rfl (by decide) (p_move rfl rfl) ?_
    clear hs a; intro a hs
    refine t_pure hs rfl rfl (by decide) (p_move rfl rfl) ?_
    clear hs a; intro a hs
    obtain ⟨t15, h0, h1, h2, h3, he, h⟩ := h
    refine t_pure hs rfl rfl (by decide) (Pure.sl he (p_slc rfl rfl sl_22 ⟨_, rfl⟩ rfl rfl (by decide) h0 h1 h2 h3)) ?_
    clear hs a h0 h1 h2 h3 he; intro a hs
    refine t_call hs rfl rfl (by decide) (e_call rfl rfl rfl cb_123) h ?_
    clear hs a h
    intro v a w hk hs
    obtain ⟨t16x0, t16x1, t16x2, rfl, h⟩ := hk
    refine t_pure hs rfl rfl (by decide) (p_move rfl rfl) ?_
    clear hs a; intro a hs
    refine t_pure hs rfl rfl (by decide) (p_extract rfl rfl rfl) ?_
    clear hs a; intro a hs
    refine t_pure hs rfl rfl (by decide) (p_extract rfl rfl rfl) ?_
    clear hs a; intro a hs
    refine t_pure hs rfl rfl (by decide) (p_extract rfl rfl rfl) ?_
    clear hs a; intro a hs
    replace hs := hs.to (τ := [(0, (.pointer l0)), (1, (Sl.val data1)), (4, (.int .i64 good4_2)), (17, (Sl.val t16x0)), (18, (.int .i64 t16x1)), (19, (.int .i64 t16x2))]) ⟨rfl, rfl, rfl, rfl, rfl, rfl, trivial⟩
    refine t_pure hs rfl rfl (by decide) (p_assign rfl rfl) ?_
    clear hs a; intro a hs
    refine t_pure hs rfl rfl (by decide) (p_assign rfl rfl) ?_
    clear hs a; intro a hs
    refine t_pure hs rfl rfl (by decide) (p_assign rfl rfl) ?_
    clear hs a; intro a hs
    refine hK6 _ _ ?_
    refine wp_seq_k fun K7 hK7 => ?_
    refine wp_seq_k fun K8 hK8 => ?_
    refine wp_region_lit ?_
    refine t_pure hs rfl rfl (by decide) (p_move rfl rfl) ?_
    clear hs a; intro a hs
    refine t_pure hs rfl rfl (by decide) (p_ne rfl rfl rfl) ?_
    clear hs a; intro a hs
    refine hK8 _ _ ?_
    refine c_cond hs rfl (fun hb => ?_) (fun hb => ?_)
    · replace h := h.1 hb
      clear hb
      refine wp_exit ?_
      exact J1 good4_2 _ _ (hs.to ⟨rfl, trivial⟩) h
    · replace h := h.2 hb
      clear hb
      refine wp_skip ?_
      refine hK7 _ _ ?_
      refine wp_seq_k fun K9 hK9 => ?_
      refine wp_region_lit ?_
      refine t_pure hs rfl rfl (by decide) (p_move rfl rfl) ?_
      clear hs a; intro a hs
      refine t_pure hs rfl rfl (by decide) (p_move rfl rfl) ?_
      clear hs a; intro a hs
      obtain ⟨t24, rfl, h⟩ := h
      refine t_pure hs rfl rfl (by decide) (p_nil rfl rfl) ?_
      clear hs a; intro a hs
      refine t_pure hs rfl rfl (by decide) (p_fieldAddr rfl rfl ft_159_6) ?_
      clear hs a; intro a hs
      obtain ⟨t26, hv, h⟩ := h
      refine t_eff hs rfl rfl (by decide) (e_load rfl rfl ct_54 hv) ?_
      clear hs a hv; intro a hs
      refine t_pure hs rfl rfl (by decide) (p_move rfl rfl) ?_
      clear hs a; intro a hs
      obtain ⟨t28, w1, ha, hw, h⟩ := h
      refine t_eff hs rfl rfl (by decide) (e_buildSlice (z := #[(Sl.val ⟨none, 0, 0⟩)]) (cs := #[(Sl.val t16x0)]) rfl sl_54 zt_22 (by decide) rfl rz_22_1 (by rfl) ha hw) ?_
      clear hs a ha hw; intro a hs
      obtain ⟨t29, w1, hd, h⟩ := h
      refine t_eff hs rfl rfl (by decide) (e_append rfl rfl rfl rfl hd) ?_
      clear hs a hd; intro a hs
      replace hs := hs.to (τ := [(0, (.pointer (some t24))), (1, (Sl.val data1)), (4, (.int .i64 good4_2)), (6, (.int .i64 t16x1)), (22, (.pointer (some t24))), (29, (Sl.val t29))]) ⟨rfl, rfl, rfl, rfl, rfl, rfl, trivial⟩
      refine t_pure hs rfl rfl (by decide) (p_nil rfl rfl) ?_
      clear hs a; intro a hs
      refine t_pure hs rfl rfl (by decide) (p_fieldAddr rfl rfl ft_159_6) ?_
      clear hs a; intro a hs
      obtain ⟨w1, hw, hc, hf, hv, h⟩ := h
      refine t_skip hs rfl rfl (e_store rfl rfl rfl sz_54 hw hc hf hv) ?_
      clear hs a hw hc hf hv; intro a hs
      refine hK9 _ _ ?_
      refine wp_region_lit ?_
      refine t_pure hs rfl rfl (by decide) (p_move rfl rfl) ?_
      clear hs a; intro a hs
      refine t_pure hs rfl rfl (by decide) (p_move rfl rfl) ?_
      clear hs a; intro a hs
      obtain ⟨t34, he, h⟩ := h
      refine t_pure hs rfl rfl (by decide) (Pure.int he (p_add rfl rfl rfl)) ?_
      clear hs a he; intro a hs
      refine t_pure hs rfl rfl (by decide) (p_assign rfl rfl) ?_
      clear hs a; intro a hs
      rw [← hX2] at h
      exact ⟨t34, hs.to ⟨rfl, rfl, rfl, trivial⟩, h⟩
  · replace h := h.2 hb
    clear hb
    refine wp_exit ?_
    exact J1 good4_2 _ _ (hs.to ⟨rfl, trivial⟩) h
end Go.Proofs.Ytdpepgjbambinaa
