/- Plain forms of functions, and that their code comes to them (package route). -/
import Derived.Test.YtilejcnbacmdnaaCalls
namespace Go.Proofs.Ytilejcnbacmdnaa
open Go Go.Sep
set_option linter.unusedVariables false
set_option linter.unusedSimpArgs false
set_option maxRecDepth 100000
set_option maxHeartbeats 4000000
def route_Look.s1 (Q : Int → K)  (t11_1 : Bool) : K :=
  Ite t11_1
    (Q 0)
    (Q 2)
def route_Look (r0 : (Array Value)) (m1 : (Array Value)) (Q : Int → K) : K :=
  New 25 r0 fun r2 =>
  New 27 m1 fun m3 =>
  Ld (m3.add 2) (Value.int .u64) fun t7 =>
  Ld (r2.add 3) (Value.int .u64) fun t9 =>
  Ite (decide (t9 < t7))
    (Q 1)
    (Ld (m3.add 2) (Value.int .u64) fun t13 =>
    Ld (r2.add 3) (Value.int .u64) fun t15 =>
    Ite (decide (t13 = t15))
      (Ld (m3.add 1) (Value.int .i64) fun t19 =>
      Ld (r2.add 2) (Value.int .i64) fun t21 =>
      route_Look.s1 Q (decide (t19 = t21)))
      (route_Look.s1 Q false))
theorem route_Look_ok (r0 : (Array Value)) (m1 : (Array Value)) (Q : Int → K) (w : World) (h : route_Look r0 m1 Q w) : route_Look.call r0 m1 Q w := by
  unfold route_Look.call CallF
  refine f_start (args := [(.agg r0), (.agg m1)]) Try.func15 rfl (Nat.le_of_ble_eq_true rfl) ?_
  intro a hs
  unfold route_Look at h
  refine wp_seq_k fun K1 hK1 => ?_
  refine wp_region_lit ?_
  obtain ⟨r2, w1, ha, hw, h⟩ := h
  refine t_eff hs rfl rfl (by decide) (e_box rfl rfl rfl ha hw) ?_
  clear hs a ha hw
  intro a hs
  obtain ⟨m3, w1, ha, hw, h⟩ := h
  refine t_eff hs rfl rfl (by decide) (e_box rfl rfl rfl ha hw) ?_
  clear hs a ha hw
  intro a hs
  refine t_pure hs rfl rfl (by decide) (p_assign rfl rfl) ?_
  clear hs a
  intro a hs
  refine hK1 _ _ ?_
  refine wp_seq_k fun K2 hK2 => ?_
  refine wp_block ?_
  refine wp_seq_k fun K3 hK3 => ?_
  refine wp_region_lit ?_
  refine t_pure hs rfl rfl (by decide) (p_fieldAddr rfl rfl ft_27_2) ?_
  clear hs a
  intro a hs
  obtain ⟨t7, hv, h⟩ := h
  refine t_eff hs rfl rfl (by decide) (e_load rfl rfl ct_23 hv) ?_
  clear hs a hv
  intro a hs
  refine t_pure hs rfl rfl (by decide) (p_fieldAddr rfl rfl ft_25_3) ?_
  clear hs a
  intro a hs
  obtain ⟨t9, hv, h⟩ := h
  refine t_eff hs rfl rfl (by decide) (e_load rfl rfl ct_23 hv) ?_
  clear hs a hv
  intro a hs
  refine t_pure hs rfl rfl (by decide) (p_gt rfl rfl rfl) ?_
  clear hs a
  intro a hs
  refine t_pure hs rfl rfl (by decide) (p_assign rfl rfl) ?_
  clear hs a
  intro a hs
  refine hK3 _ _ ?_
  refine c_cond hs rfl (fun hb => ?_) (fun hb => ?_)
  · replace h := h.1 hb
    clear hb
    refine wp_seq_k fun K4 hK4 => ?_
    refine wp_region_lit ?_
    refine t_pure hs rfl rfl (by decide) (p_assign rfl rfl) ?_
    clear hs a
    intro a hs
    refine hK4 _ _ ?_
    refine wp_ret ?_
    refine f_ret (fn := Try.f15) hs (fun a hs => r_one hs rfl (rfl)) ⟨1, rfl, h⟩
  · replace h := h.2 hb
    clear hb
    refine wp_seq_k fun K5 hK5 => ?_
    have J1 : ∀ (t11_1 : Bool) (a : Act) (w : World), Slots a 24 [(11, (.bool t11_1))] → route_Look.s1 Q t11_1 w → K5 a w := by
      clear h hs
      intro t11_1 a w hs h
      refine hK5 _ _ ?_
      unfold route_Look.s1 at h
      refine c_cond hs rfl (fun hb => ?_) (fun hb => ?_)
      · replace h := h.1 hb
        clear hb
        refine wp_seq_k fun K6 hK6 => ?_
        refine wp_region_lit ?_
        refine t_pure hs rfl rfl (by decide) (p_assign rfl rfl) ?_
        clear hs a
        intro a hs
        refine hK6 _ _ ?_
        refine wp_ret ?_
        refine f_ret (fn := Try.f15) hs (fun a hs => r_one hs rfl (rfl)) ⟨0, rfl, h⟩
      · replace h := h.2 hb
        clear hb
        refine wp_skip ?_
        refine hK2 _ _ ?_
        refine wp_seq_k fun K7 hK7 => ?_
        refine wp_region_lit ?_
        refine t_pure hs rfl rfl (by decide) (p_assign rfl rfl) ?_
        clear hs a
        intro a hs
        refine hK7 _ _ ?_
        refine wp_ret ?_
        refine f_ret (fn := Try.f15) hs (fun a hs => r_one hs rfl (rfl)) ⟨2, rfl, h⟩
    clear hK5
    refine wp_region_lit ?_
    refine t_pure hs rfl rfl (by decide) (p_fieldAddr rfl rfl ft_27_2) ?_
    clear hs a
    intro a hs
    obtain ⟨t13, hv, h⟩ := h
    refine t_eff hs rfl rfl (by decide) (e_load rfl rfl ct_23 hv) ?_
    clear hs a hv
    intro a hs
    refine t_pure hs rfl rfl (by decide) (p_fieldAddr rfl rfl ft_25_3) ?_
    clear hs a
    intro a hs
    obtain ⟨t15, hv, h⟩ := h
    refine t_eff hs rfl rfl (by decide) (e_load rfl rfl ct_23 hv) ?_
    clear hs a hv
    intro a hs
    refine t_pure hs rfl rfl (by decide) (p_eq rfl rfl rfl) ?_
    clear hs a
    intro a hs
    refine t_pure hs rfl rfl (by decide) (p_move rfl rfl) ?_
    clear hs a
    intro a hs
    refine split_bool (decide (t13 = t15)) (fun hb => ?_) (fun hb => ?_)
    · replace h := h.1 hb
      rw [hb] at hs
      clear hb
      refine t_yes hs rfl ?_
      refine t_pure hs rfl rfl (by decide) (p_fieldAddr rfl rfl ft_27_1) ?_
      clear hs a
      intro a hs
      refine t_yes hs rfl ?_
      obtain ⟨t19, hv, h⟩ := h
      refine t_eff hs rfl rfl (by decide) (e_load rfl rfl ct_3 hv) ?_
      clear hs a hv
      intro a hs
      replace hs := hs.to (τ := [(2, (.pointer (some r2))), (17, (.bool true)), (19, (.int .i64 t19))]) ⟨rfl, rfl, rfl, trivial⟩
      refine t_yes hs rfl ?_
      refine t_pure hs rfl rfl (by decide) (p_fieldAddr rfl rfl ft_25_2) ?_
      clear hs a
      intro a hs
      refine t_yes hs rfl ?_
      obtain ⟨t21, hv, h⟩ := h
      refine t_eff hs rfl rfl (by decide) (e_load rfl rfl ct_3 hv) ?_
      clear hs a hv
      intro a hs
      refine t_yes hs rfl ?_
      refine t_pure hs rfl rfl (by decide) (p_eq rfl rfl rfl) ?_
      clear hs a
      intro a hs
      refine t_pure hs rfl rfl (by decide) (p_pick_t rfl rfl rfl) ?_
      clear hs a
      intro a hs
      refine t_pure hs rfl rfl (by decide) (p_assign rfl rfl) ?_
      clear hs a
      intro a hs
      exact J1 (decide (t19 = t21)) _ _ (hs.to ⟨rfl, trivial⟩) h
    · replace h := h.2 hb
      rw [hb] at hs
      clear hb
      refine t_no hs rfl rfl (by decide) ?_
      clear hs a
      intro a hs
      refine t_no hs rfl rfl (by decide) ?_
      clear hs a
      intro a hs
      replace hs := hs.to (τ := [(2, (.pointer (some r2))), (17, (.bool false)), (19, undef)]) ⟨rfl, rfl, rfl, trivial⟩
      refine t_no hs rfl rfl (by decide) ?_
      clear hs a
      intro a hs
      refine t_no hs rfl rfl (by decide) ?_
      clear hs a
      intro a hs
      refine t_no hs rfl rfl (by decide) ?_
      clear hs a
      intro a hs
      refine t_pure hs rfl rfl (by decide) (p_pick_f rfl rfl rfl) ?_
      clear hs a
      intro a hs
      refine t_pure hs rfl rfl (by decide) (p_assign rfl rfl) ?_
      clear hs a
      intro a hs
      exact J1 false _ _ (hs.to ⟨rfl, trivial⟩) h
end Go.Proofs.Ytilejcnbacmdnaa
