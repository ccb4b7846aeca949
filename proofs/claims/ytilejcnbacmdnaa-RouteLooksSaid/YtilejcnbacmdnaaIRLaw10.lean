/- Plain forms of functions, and that their code comes to them (package law10). -/
import Derived.Test.YtilejcnbacmdnaaCalls
namespace Go.Proofs.Ytilejcnbacmdnaa
open Go Go.Sep
set_option linter.unusedVariables false
set_option linter.unusedSimpArgs false
set_option maxRecDepth 100000
set_option maxHeartbeats 4000000
def law10_RouteLooks.s1 (Q : Bool → K)  (t4_1 : Bool) : K :=
  Q t4_1
def law10_RouteLooks (r0 : (Array Value)) (m1 : (Array Value)) (Q : Bool → K) : K :=
  New 25 r0 fun r2 =>
  New 27 m1 fun m3 =>
  Dr <| WithS fun S =>
  law10_speaks.call  fun t5 =>
  Sv S <|
  Ite t5
    (LdNS S r2 4 fun t7 =>
    LdNS S m3 3 fun t8 =>
    LdNS S r2 4 fun t10 =>
    LdNS S m3 3 fun t11 =>
    route_Look.call t7 t8 fun t9 =>
    Sv S <|
    ref10_Look.call t10 t11 fun t12 =>
    law10_RouteLooks.s1 Q (decide (t9 = t12)))
    (law10_RouteLooks.s1 Q false)
theorem law10_RouteLooks_ok (r0 : (Array Value)) (m1 : (Array Value)) (Q : Bool → K) (w : World) (h : law10_RouteLooks r0 m1 Q w) : law10_RouteLooks.call r0 m1 Q w := by
  unfold law10_RouteLooks.call CallF
  refine f_start (args := [(.agg r0), (.agg m1)]) Try.func3 rfl (Nat.le_of_ble_eq_true rfl) ?_
  intro a hs
  unfold law10_RouteLooks at h
  refine wp_seq_k fun K1 hK1 => ?_
  refine wp_region_lit ?_
  obtain ⟨r2, w1, ha, hw, h⟩ := h
  refine t_eff hs rfl rfl (by decide) (e_box rfl rfl rfl ha hw) ?_
  clear hs a ha hw
  intro a hs
  obtain ⟨m3, w1, ha, hw, h⟩ := h
  refine t_eff hs rfl rfl (by decide) (e_box rfl rfl rfl ha hw) ?_
  clear hs a ha hw
  intro a hs
  refine t_pure hs rfl rfl (by decide) (p_assign rfl rfl) ?_
  clear hs a
  intro a hs
  refine hK1 _ _ ?_
  refine wp_seq_k fun K2 hK2 => ?_
  have J1 : ∀ (t4_1 : Bool) (a : Act) (w : World), Slots a 15 [(4, (.bool t4_1))] → law10_RouteLooks.s1 Q t4_1 w → K2 a w := by
    clear h hs
    intro t4_1 a w hs h
    refine hK2 _ _ ?_
    unfold law10_RouteLooks.s1 at h
    refine wp_ret ?_
    refine f_ret (fn := Try.f3) hs (fun a hs => r_one hs rfl (rfl)) ⟨t4_1, rfl, h⟩
  clear hK2
  obtain ⟨w1, hw1, h⟩ := h
  obtain ⟨S, hS, h⟩ := h
  subst hw1
  refine d_start (S := S) (ds := [7]) #[false, false, false, false, false, false, false, false, false, false, false] mixed rfl rfl ?_
  refine d_all [0] (by kernel_rfl) (by decide) ?_
  refine AllS.cons ?_ AllS.nil
  refine d_call hs #[true, false, false, false, false, false, false, false, false, false, false] (i := 0) rfl rfl rfl (by decide) rfl (e_call rfl rfl rfl cb_14) h (fun v w'' hk => by obtain ⟨t5, _, hS, _⟩ := hk; exact fun _ _ => hS) ?_
  clear hs a h
  intro v a w hk hs
  obtain ⟨t5, rfl, h⟩ := hk
  obtain ⟨hS, h⟩ := h
  refine d_pure hs #[true, true, false, false, false, false, false, false, false, false, false] (i := 1) rfl rfl rfl (by decide) (by kernel_rfl) (tight_body (P := Try.prog) (fn := Try.f3)) (p_move rfl rfl) ?_
  clear hs a
  intro a hs
  refine split_bool t5 (fun hb => ?_) (fun hb => ?_)
  · replace h := h.1 hb
    rw [hb] at hs
    clear hb
    obtain ⟨t7, hn, hv, h⟩ := h
    refine d_read hs #[true, true, true, false, false, false, false, false, false, false, false] (i := 2) rfl rfl rfl (by decide) (by kernel_rfl) (by kernel_rfl) (tight_body (P := Try.prog) (fn := Try.f3)) hS (fun w h' => e_loadN rfl rfl at_25 hn (hv w h')) ?_
    clear hs a hn hv
    intro a hs
    obtain ⟨t8, hn, hv, h⟩ := h
    refine d_read hs #[true, true, true, true, false, false, false, false, false, false, false] (i := 3) rfl rfl rfl (by decide) (by kernel_rfl) (by kernel_rfl) (tight_body (P := Try.prog) (fn := Try.f3)) hS (fun w h' => e_loadN rfl rfl at_27 hn (hv w h')) ?_
    clear hs a hn hv
    intro a hs
    obtain ⟨t10, hn, hv, h⟩ := h
    refine d_read hs #[true, true, true, true, false, true, false, false, false, false, false] (i := 5) rfl rfl rfl (by decide) (by kernel_rfl) (by kernel_rfl) (tight_body (P := Try.prog) (fn := Try.f3)) hS (fun w h' => e_loadN rfl rfl at_25 hn (hv w h')) ?_
    clear hs a hn hv
    intro a hs
    obtain ⟨t11, hn, hv, h⟩ := h
    refine d_read hs #[true, true, true, true, false, true, true, false, false, false, false] (i := 6) rfl rfl rfl (by decide) (by kernel_rfl) (by kernel_rfl) (tight_body (P := Try.prog) (fn := Try.f3)) hS (fun w h' => e_loadN rfl rfl at_27 hn (hv w h')) ?_
    clear hs a hn hv
    intro a hs
    refine d_all [4] (by kernel_rfl) (by decide) ?_
    refine AllS.cons ?_ AllS.nil
    refine d_call hs #[true, true, true, true, true, true, true, false, false, false, false] (i := 4) rfl rfl rfl (by decide) rfl (e_call rfl rfl rfl cb_15) h (fun v w'' hk => by obtain ⟨t9, _, hS, _⟩ := hk; exact fun _ _ => hS) ?_
    clear hs a h
    intro v a w hk hs
    obtain ⟨t9, rfl, h⟩ := hk
    obtain ⟨hS, h⟩ := h
    refine d_all [7] (by kernel_rfl) (by decide) ?_
    refine AllS.cons ?_ AllS.nil
    refine d_call hs #[true, true, true, true, true, true, true, true, false, false, false] (i := 7) rfl rfl rfl (by decide) rfl (e_call rfl rfl rfl cb_16) h (fun _ _ _ hn => (hn (by decide)).elim) ?_
    clear hs a h
    intro v a w hk hs
    obtain ⟨t12, rfl, h⟩ := hk
    replace hs := hs.to (τ := [(4, (.bool false)), (6, (.bool true)), (9, (.int .i64 t9)), (12, (.int .i64 t12))]) ⟨rfl, rfl, rfl, rfl, trivial⟩
    refine d_pure hs #[true, true, true, true, true, true, true, true, true, false, false] (i := 8) rfl rfl rfl (by decide) (by kernel_rfl) (tight_body (P := Try.prog) (fn := Try.f3)) (p_eq rfl rfl rfl) ?_
    clear hs a
    intro a hs
    refine d_pure hs #[true, true, true, true, true, true, true, true, true, true, false] (i := 9) rfl rfl rfl (by decide) (by kernel_rfl) (tight_body (P := Try.prog) (fn := Try.f3)) (p_pick_t rfl rfl rfl) ?_
    clear hs a
    intro a hs
    refine d_pure hs #[true, true, true, true, true, true, true, true, true, true, true] (i := 10) rfl rfl rfl (by decide) (by kernel_rfl) (tight_body (P := Try.prog) (fn := Try.f3)) (p_assign rfl rfl) ?_
    clear hs a
    intro a hs
    refine d_done (by kernel_rfl) ?_ _
    clear hS
    exact J1 (decide (t9 = t12)) _ _ (hs.to ⟨rfl, trivial⟩) h
  · replace h := h.2 hb
    rw [hb] at hs
    clear hb
    refine d_no hs #[true, true, true, false, false, false, false, false, false, false, false] (i := 2) rfl rfl rfl (by decide) (by kernel_rfl) (tight_body (P := Try.prog) (fn := Try.f3)) ?_
    clear hs a
    intro a hs
    refine d_no hs #[true, true, true, true, false, false, false, false, false, false, false] (i := 3) rfl rfl rfl (by decide) (by kernel_rfl) (tight_body (P := Try.prog) (fn := Try.f3)) ?_
    clear hs a
    intro a hs
    refine d_no hs #[true, true, true, true, true, false, false, false, false, false, false] (i := 4) rfl rfl rfl (by decide) (by kernel_rfl) (tight_body (P := Try.prog) (fn := Try.f3)) ?_
    clear hs a
    intro a hs
    refine d_no hs #[true, true, true, true, true, true, false, false, false, false, false] (i := 5) rfl rfl rfl (by decide) (by kernel_rfl) (tight_body (P := Try.prog) (fn := Try.f3)) ?_
    clear hs a
    intro a hs
    refine d_no hs #[true, true, true, true, true, true, true, false, false, false, false] (i := 6) rfl rfl rfl (by decide) (by kernel_rfl) (tight_body (P := Try.prog) (fn := Try.f3)) ?_
    clear hs a
    intro a hs
    refine d_no hs #[true, true, true, true, true, true, true, true, false, false, false] (i := 7) rfl rfl rfl (by decide) (by kernel_rfl) (tight_body (P := Try.prog) (fn := Try.f3)) ?_
    clear hs a
    intro a hs
    replace hs := hs.to (τ := [(4, (.bool false)), (6, (.bool false)), (9, undef), (12, undef)]) ⟨rfl, rfl, rfl, rfl, trivial⟩
    refine d_no hs #[true, true, true, true, true, true, true, true, true, false, false] (i := 8) rfl rfl rfl (by decide) (by kernel_rfl) (tight_body (P := Try.prog) (fn := Try.f3)) ?_
    clear hs a
    intro a hs
    refine d_pure hs #[true, true, true, true, true, true, true, true, true, true, false] (i := 9) rfl rfl rfl (by decide) (by kernel_rfl) (tight_body (P := Try.prog) (fn := Try.f3)) (p_pick_f rfl rfl rfl) ?_
    clear hs a
    intro a hs
    refine d_pure hs #[true, true, true, true, true, true, true, true, true, true, true] (i := 10) rfl rfl rfl (by decide) (by kernel_rfl) (tight_body (P := Try.prog) (fn := Try.f3)) (p_assign rfl rfl) ?_
    clear hs a
    intro a hs
    refine d_done (by kernel_rfl) ?_ _
    clear hS
    exact J1 false _ _ (hs.to ⟨rfl, trivial⟩) h
def law10_speaks.s1 (Q : Bool → K)  (t0_1 : Bool) : K :=
  Q t0_1
def law10_speaks  (Q : Bool → K) : K :=
  New 25 #[(.bool false), (Sl.val ⟨none, 0, 0⟩), (.int .i64 0), (.int .u64 0)] fun r1 =>
  StN r1 4 #[(.bool false), (Sl.val ⟨none, 0, 0⟩), (.int .i64 1), (.int .u64 2)] <|
  LdN r1 4 fun t3 =>
  route_Look.call t3 #[(.string ⟨#[]⟩), (.int .i64 1), (.int .u64 2)] fun t5 =>
  Ite (decide (t5 = 0))
    (LdN r1 4 fun t8 =>
    route_Look.call t8 #[(.string ⟨#[]⟩), (.int .i64 0), (.int .u64 3)] fun t10 =>
    Ite (decide (t10 = 1))
      (LdN r1 4 fun t14 =>
      route_Look.call t14 #[(.string ⟨#[]⟩), (.int .i64 0), (.int .u64 2)] fun t16 =>
      Ite (decide (t16 = 2))
        (LdN r1 4 fun t20 =>
        route_Look.call t20 #[(.string ⟨#[]⟩), (.int .i64 1), (.int .u64 1)] fun t22 =>
        law10_speaks.s1 Q (bif (bif (bif (decide (t22 = 2)) then true else false) then true else false) then true else false))
        (law10_speaks.s1 Q false))
      (law10_speaks.s1 Q false))
    (law10_speaks.s1 Q false)
theorem law10_speaks_ok  (Q : Bool → K) (w : World) (h : law10_speaks  Q w) : law10_speaks.call  Q w := by
  unfold law10_speaks.call CallF
  refine f_start (args := []) Try.func14 rfl (Nat.le_of_ble_eq_true rfl) ?_
  intro a hs
  unfold law10_speaks at h
  refine wp_seq_k fun K1 hK1 => ?_
  refine wp_region_lit ?_
  refine t_pure hs rfl rfl (by decide) (p_assign rfl rfl) ?_
  clear hs a
  intro a hs
  refine hK1 _ _ ?_
  refine wp_seq_k fun K2 hK2 => ?_
  refine wp_region_lit ?_
  refine t_pure hs rfl rfl (by decide) (e_build (cs := #[(.bool false), (Sl.val ⟨none, 0, 0⟩), (.int .i64 1), (.int .u64 2)]) rfl zt_25 pl_25 rfl rfl) ?_
  clear hs a
  intro a hs
  obtain ⟨r1, w1, ha, hw, h⟩ := h
  refine t_eff hs rfl rfl (by decide) (e_alloc rfl zt_25 rfl ha hw) ?_
  clear hs a ha hw
  intro a hs
  obtain ⟨w1, hw, hn, hc, hv, h⟩ := h
  refine t_skip hs rfl rfl (e_storeN rfl rfl rfl sz_25 hw hn hc hv) ?_
  clear hs a hw hn hc hv
  intro a hs
  refine hK2 _ _ ?_
  refine wp_seq_k fun K3 hK3 => ?_
  have J1 : ∀ (t0_1 : Bool) (a : Act) (w : World), Slots a 31 [(0, (.bool t0_1))] → law10_speaks.s1 Q t0_1 w → K3 a w := by
    clear h hs
    intro t0_1 a w hs h
    refine hK3 _ _ ?_
    unfold law10_speaks.s1 at h
    refine wp_ret ?_
    refine f_ret (fn := Try.f14) hs (fun a hs => r_one hs rfl (rfl)) ⟨t0_1, rfl, h⟩
  clear hK3
  refine wp_region_lit ?_
  obtain ⟨t3, hn, hv, h⟩ := h
  refine t_eff hs rfl rfl (by decide) (e_loadN rfl rfl at_25 hn hv) ?_
  clear hs a hn hv
  intro a hs
  refine t_pure hs rfl rfl (by decide) (e_build (cs := #[(.string ⟨#[]⟩), (.int .i64 1), (.int .u64 2)]) rfl zt_27 pl_27 rfl rfl) ?_
  clear hs a
  intro a hs
  refine t_call hs rfl rfl (by decide) (e_call rfl rfl rfl cb_15) h ?_
  clear hs a h
  intro v a w hk hs
  obtain ⟨t5, rfl, h⟩ := hk
  refine t_pure hs rfl rfl (by decide) (p_eq rfl rfl rfl) ?_
  clear hs a
  intro a hs
  refine t_pure hs rfl rfl (by decide) (p_move rfl rfl) ?_
  clear hs a
  intro a hs
  refine split_bool (decide (t5 = 0)) (fun hb => ?_) (fun hb => ?_)
  · replace h := h.1 hb
    rw [hb] at hs
    clear hb
    refine t_yes hs rfl ?_
    obtain ⟨t8, hn, hv, h⟩ := h
    refine t_eff hs rfl rfl (by decide) (e_loadN rfl rfl at_25 hn hv) ?_
    clear hs a hn hv
    intro a hs
    refine t_yes hs rfl ?_
    refine t_pure hs rfl rfl (by decide) (e_build (cs := #[(.string ⟨#[]⟩), (.int .i64 0), (.int .u64 3)]) rfl zt_27 pl_27 rfl rfl) ?_
    clear hs a
    intro a hs
    refine t_yes hs rfl ?_
    refine t_call hs rfl rfl (by decide) (e_call rfl rfl rfl cb_15) h ?_
    clear hs a h
    intro v a w hk hs
    obtain ⟨t10, rfl, h⟩ := hk
    replace hs := hs.to (τ := [(1, (.pointer (some r1))), (7, (.bool true)), (10, (.int .i64 t10))]) ⟨rfl, rfl, rfl, trivial⟩
    refine t_yes hs rfl ?_
    refine t_pure hs rfl rfl (by decide) (p_eq rfl rfl rfl) ?_
    clear hs a
    intro a hs
    refine t_pure hs rfl rfl (by decide) (p_pick_t rfl rfl rfl) ?_
    clear hs a
    intro a hs
    refine t_pure hs rfl rfl (by decide) (p_move rfl rfl) ?_
    clear hs a
    intro a hs
    refine split_bool (decide (t10 = 1)) (fun hb => ?_) (fun hb => ?_)
    · replace h := h.1 hb
      rw [hb] at hs
      clear hb
      refine t_yes hs rfl ?_
      obtain ⟨t14, hn, hv, h⟩ := h
      refine t_eff hs rfl rfl (by decide) (e_loadN rfl rfl at_25 hn hv) ?_
      clear hs a hn hv
      intro a hs
      refine t_yes hs rfl ?_
      refine t_pure hs rfl rfl (by decide) (e_build (cs := #[(.string ⟨#[]⟩), (.int .i64 0), (.int .u64 2)]) rfl zt_27 pl_27 rfl rfl) ?_
      clear hs a
      intro a hs
      refine t_yes hs rfl ?_
      refine t_call hs rfl rfl (by decide) (e_call rfl rfl rfl cb_15) h ?_
      clear hs a h
      intro v a w hk hs
      obtain ⟨t16, rfl, h⟩ := hk
      refine t_yes hs rfl ?_
      refine t_pure hs rfl rfl (by decide) (p_eq rfl rfl rfl) ?_
      clear hs a
      intro a hs
      refine t_pure hs rfl rfl (by decide) (p_pick_t rfl rfl rfl) ?_
      clear hs a
      intro a hs
      replace hs := hs.to (τ := [(1, (.pointer (some r1))), (18, (.bool (decide (t16 = 2))))]) ⟨rfl, rfl, trivial⟩
      refine t_pure hs rfl rfl (by decide) (p_move rfl rfl) ?_
      clear hs a
      intro a hs
      refine split_bool (decide (t16 = 2)) (fun hb => ?_) (fun hb => ?_)
      · replace h := h.1 hb
        rw [hb] at hs
        clear hb
        refine t_yes hs rfl ?_
        obtain ⟨t20, hn, hv, h⟩ := h
        refine t_eff hs rfl rfl (by decide) (e_loadN rfl rfl at_25 hn hv) ?_
        clear hs a hn hv
        intro a hs
        refine t_yes hs rfl ?_
        refine t_pure hs rfl rfl (by decide) (e_build (cs := #[(.string ⟨#[]⟩), (.int .i64 1), (.int .u64 1)]) rfl zt_27 pl_27 rfl rfl) ?_
        clear hs a
        intro a hs
        refine t_yes hs rfl ?_
        refine t_call hs rfl rfl (by decide) (e_call rfl rfl rfl cb_15) h ?_
        clear hs a h
        intro v a w hk hs
        obtain ⟨t22, rfl, h⟩ := hk
        refine t_yes hs rfl ?_
        refine t_pure hs rfl rfl (by decide) (p_eq rfl rfl rfl) ?_
        clear hs a
        intro a hs
        refine t_pure hs rfl rfl (by decide) (p_pick_t rfl rfl rfl) ?_
        clear hs a
        intro a hs
        refine t_pure hs rfl rfl (by decide) (p_move rfl rfl) ?_
        clear hs a
        intro a hs
        refine t_pure hs rfl rfl (by decide) (p_pick_b rfl rfl rfl rfl) ?_
        clear hs a
        intro a hs
        replace hs := hs.to (τ := [(26, (.bool (bif (decide (t22 = 2)) then true else false)))]) ⟨rfl, trivial⟩
        refine t_pure hs rfl rfl (by decide) (p_move rfl rfl) ?_
        clear hs a
        intro a hs
        refine t_pure hs rfl rfl (by decide) (p_pick_b rfl rfl rfl rfl) ?_
        clear hs a
        intro a hs
        refine t_pure hs rfl rfl (by decide) (p_move rfl rfl) ?_
        clear hs a
        intro a hs
        refine t_pure hs rfl rfl (by decide) (p_pick_b rfl rfl rfl rfl) ?_
        clear hs a
        intro a hs
        refine t_pure hs rfl rfl (by decide) (p_assign rfl rfl) ?_
        clear hs a
        intro a hs
        exact J1 (bif (bif (bif (decide (t22 = 2)) then true else false) then true else false) then true else false) _ _ (hs.to ⟨rfl, trivial⟩) h
      · replace h := h.2 hb
        rw [hb] at hs
        clear hb
        refine t_no hs rfl rfl (by decide) ?_
        clear hs a
        intro a hs
        refine t_no hs rfl rfl (by decide) ?_
        clear hs a
        intro a hs
        refine t_no hs rfl rfl (by decide) ?_
        clear hs a
        intro a hs
        refine t_no hs rfl rfl (by decide) ?_
        clear hs a
        intro a hs
        refine t_pure hs rfl rfl (by decide) (p_pick_f rfl rfl rfl) ?_
        clear hs a
        intro a hs
        refine t_pure hs rfl rfl (by decide) (p_move rfl rfl) ?_
        clear hs a
        intro a hs
        refine t_pure hs rfl rfl (by decide) (p_pick_f rfl rfl rfl) ?_
        clear hs a
        intro a hs
        replace hs := hs.to (τ := [(26, (.bool false))]) ⟨rfl, trivial⟩
        refine t_pure hs rfl rfl (by decide) (p_move rfl rfl) ?_
        clear hs a
        intro a hs
        refine t_pure hs rfl rfl (by decide) (p_pick_f rfl rfl rfl) ?_
        clear hs a
        intro a hs
        refine t_pure hs rfl rfl (by decide) (p_move rfl rfl) ?_
        clear hs a
        intro a hs
        refine t_pure hs rfl rfl (by decide) (p_pick_f rfl rfl rfl) ?_
        clear hs a
        intro a hs
        refine t_pure hs rfl rfl (by decide) (p_assign rfl rfl) ?_
        clear hs a
        intro a hs
        exact J1 false _ _ (hs.to ⟨rfl, trivial⟩) h
    · replace h := h.2 hb
      rw [hb] at hs
      clear hb
      refine t_no hs rfl rfl (by decide) ?_
      clear hs a
      intro a hs
      refine t_no hs rfl rfl (by decide) ?_
      clear hs a
      intro a hs
      refine t_no hs rfl rfl (by decide) ?_
      clear hs a
      intro a hs
      refine t_no hs rfl rfl (by decide) ?_
      clear hs a
      intro a hs
      refine t_pure hs rfl rfl (by decide) (p_pick_f rfl rfl rfl) ?_
      clear hs a
      intro a hs
      replace hs := hs.to (τ := [(1, (.pointer (some r1))), (18, (.bool false))]) ⟨rfl, rfl, trivial⟩
      refine t_pure hs rfl rfl (by decide) (p_move rfl rfl) ?_
      clear hs a
      intro a hs
      refine t_no hs rfl rfl (by decide) ?_
      clear hs a
      intro a hs
      refine t_no hs rfl rfl (by decide) ?_
      clear hs a
      intro a hs
      refine t_no hs rfl rfl (by decide) ?_
      clear hs a
      intro a hs
      refine t_no hs rfl rfl (by decide) ?_
      clear hs a
      intro a hs
      refine t_pure hs rfl rfl (by decide) (p_pick_f rfl rfl rfl) ?_
      clear hs a
      intro a hs
      refine t_pure hs rfl rfl (by decide) (p_move rfl rfl) ?_
      clear hs a
      intro a hs
      refine t_pure hs rfl rfl (by decide) (p_pick_f rfl rfl rfl) ?_
      clear hs a
      intro a hs
      replace hs := hs.to (τ := [(26, (.bool false))]) ⟨rfl, trivial⟩
      refine t_pure hs rfl rfl (by decide) (p_move rfl rfl) ?_
      clear hs a
      intro a hs
      refine t_pure hs rfl rfl (by decide) (p_pick_f rfl rfl rfl) ?_
      clear hs a
      intro a hs
      refine t_pure hs rfl rfl (by decide) (p_move rfl rfl) ?_
      clear hs a
      intro a hs
      refine t_pure hs rfl rfl (by decide) (p_pick_f rfl rfl rfl) ?_
      clear hs a
      intro a hs
      refine t_pure hs rfl rfl (by decide) (p_assign rfl rfl) ?_
      clear hs a
      intro a hs
      exact J1 false _ _ (hs.to ⟨rfl, trivial⟩) h
  · replace h := h.2 hb
    rw [hb] at hs
    clear hb
    refine t_no hs rfl rfl (by decide) ?_
    clear hs a
    intro a hs
    refine t_no hs rfl rfl (by decide) ?_
    clear hs a
    intro a hs
    refine t_no hs rfl rfl (by decide) ?_
    clear hs a
    intro a hs
    replace hs := hs.to (τ := [(1, (.pointer (some r1))), (7, (.bool false)), (10, undef)]) ⟨rfl, rfl, rfl, trivial⟩
    refine t_no hs rfl rfl (by decide) ?_
    clear hs a
    intro a hs
    refine t_pure hs rfl rfl (by decide) (p_pick_f rfl rfl rfl) ?_
    clear hs a
    intro a hs
    refine t_pure hs rfl rfl (by decide) (p_move rfl rfl) ?_
    clear hs a
    intro a hs
    refine t_no hs rfl rfl (by decide) ?_
    clear hs a
    intro a hs
    refine t_no hs rfl rfl (by decide) ?_
    clear hs a
    intro a hs
    refine t_no hs rfl rfl (by decide) ?_
    clear hs a
    intro a hs
    refine t_no hs rfl rfl (by decide) ?_
    clear hs a
    intro a hs
    refine t_pure hs rfl rfl (by decide) (p_pick_f rfl rfl rfl) ?_
    clear hs a
    intro a hs
    replace hs := hs.to (τ := [(1, (.pointer (some r1))), (18, (.bool false))]) ⟨rfl, rfl, trivial⟩
    refine t_pure hs rfl rfl (by decide) (p_move rfl rfl) ?_
    clear hs a
    intro a hs
    refine t_no hs rfl rfl (by decide) ?_
    clear hs a
    intro a hs
    refine t_no hs rfl rfl (by decide) ?_
    clear hs a
    intro a hs
    refine t_no hs rfl rfl (by decide) ?_
    clear hs a
    intro a hs
    refine t_no hs rfl rfl (by decide) ?_
    clear hs a
    intro a hs
    refine t_pure hs rfl rfl (by decide) (p_pick_f rfl rfl rfl) ?_
    clear hs a
    intro a hs
    refine t_pure hs rfl rfl (by decide) (p_move rfl rfl) ?_
    clear hs a
    intro a hs
    refine t_pure hs rfl rfl (by decide) (p_pick_f rfl rfl rfl) ?_
    clear hs a
    intro a hs
    replace hs := hs.to (τ := [(26, (.bool false))]) ⟨rfl, trivial⟩
    refine t_pure hs rfl rfl (by decide) (p_move rfl rfl) ?_
    clear hs a
    intro a hs
    refine t_pure hs rfl rfl (by decide) (p_pick_f rfl rfl rfl) ?_
    clear hs a
    intro a hs
    refine t_pure hs rfl rfl (by decide) (p_move rfl rfl) ?_
    clear hs a
    intro a hs
    refine t_pure hs rfl rfl (by decide) (p_pick_f rfl rfl rfl) ?_
    clear hs a
    intro a hs
    refine t_pure hs rfl rfl (by decide) (p_assign rfl rfl) ?_
    clear hs a
    intro a hs
    exact J1 false _ _ (hs.to ⟨rfl, trivial⟩) h
end Go.Proofs.Ytilejcnbacmdnaa
