/- Plain forms of functions, and that their code comes to them (package ref20). -/
import Derived.Test.YtilejcnbacmdnaaCalls
namespace Go.Proofs.Ytilejcnbacmdnaa
open Go Go.Sep
set_option linter.unusedVariables false
set_option linter.unusedSimpArgs false
set_option maxRecDepth 100000
set_option maxHeartbeats 4000000
def ref20_Same.s2 (Q : Bool → K)  (t4_2 : Bool) : K :=
  Q t4_2
def ref20_Same.s1 (Q : Bool → K)  (a2_1 : Addr) (b3_1 : Addr) (x5_1 : Addr) (y6_1 : Addr) : K :=
  Ld a2_1 (Value.int .i64) fun t12 =>
  Ld b3_1 (Value.int .i64) fun t14 =>
  Ite (decide (t12 = t14))
    (Ld (a2_1.add 1) (Value.int .i64) fun t18 =>
    Ld (b3_1.add 1) (Value.int .i64) fun t20 =>
    Ite (decide (t18 = t20))
      (Ld x5_1 (Value.int .u64) fun t25 =>
      Ld y6_1 (Value.int .u64) fun t27 =>
      Ite (decide (t25 = t27))
        (Ld (x5_1.add 1) (Value.int .u64) fun t32 =>
        Ld (y6_1.add 1) (Value.int .u64) fun t34 =>
        Ite (decide (t32 = t34))
          (Ld (x5_1.add 2) (Value.int .u64) fun t39 =>
          Ld (y6_1.add 2) (Value.int .u64) fun t41 =>
          Ite (decide (t39 = t41))
            (Ld (x5_1.add 3) (Value.int .u64) fun t46 =>
            Ld (y6_1.add 3) (Value.int .u64) fun t48 =>
            Ite (decide (t46 = t48))
              (Ld (x5_1.add 4) Sl.val fun t53 =>
              Rd Try.prog (convert 22 9 (Sl.val t53)) Value.string fun t54 =>
              Ld (y6_1.add 4) Sl.val fun t56 =>
              Rd Try.prog (convert 22 9 (Sl.val t56)) Value.string fun t57 =>
              ref20_Same.s2 Q (t54.toList == t57.toList))
              (ref20_Same.s2 Q false))
            (ref20_Same.s2 Q false))
          (ref20_Same.s2 Q false))
        (ref20_Same.s2 Q false))
      (ref20_Same.s2 Q false))
    (ref20_Same.s2 Q false)
def ref20_Same (a0 : (Array Value)) (b1 : (Array Value)) (Q : Bool → K) : K :=
  New 38 a0 fun a2 =>
  New 38 b1 fun b3 =>
  Dr <| WithS fun S =>
  LdNS S (a2.add 2) 5 fun t8 =>
  LdNS S (b3.add 2) 5 fun t10 =>
  All [
    (New 36 #[(.int .u64 0), (.int .u64 0), (.int .u64 0), (.int .u64 0), (Sl.val ⟨none, 0, 0⟩)] fun x5 =>
    Sv S <|
    New 36 #[(.int .u64 0), (.int .u64 0), (.int .u64 0), (.int .u64 0), (Sl.val ⟨none, 0, 0⟩)] fun y6 =>
    Sv S <|
    StN x5 5 t8 <|
    Sv S <|
    StN y6 5 t10 <|
    ref20_Same.s1 Q a2 b3 x5 y6),
    (New 36 #[(.int .u64 0), (.int .u64 0), (.int .u64 0), (.int .u64 0), (Sl.val ⟨none, 0, 0⟩)] fun y6 =>
    Sv S <|
    New 36 #[(.int .u64 0), (.int .u64 0), (.int .u64 0), (.int .u64 0), (Sl.val ⟨none, 0, 0⟩)] fun x5 =>
    Sv S <|
    StN x5 5 t8 <|
    Sv S <|
    StN y6 5 t10 <|
    ref20_Same.s1 Q a2 b3 x5 y6)
    ]
theorem ref20_Same_ok (a0 : (Array Value)) (b1 : (Array Value)) (Q : Bool → K) (w : World) (h : ref20_Same a0 b1 Q w) : ref20_Same.call a0 b1 Q w := by
  unfold ref20_Same.call CallF
  refine f_start (args := [(.agg a0), (.agg b1)]) Try.func23 rfl (Nat.le_of_ble_eq_true rfl) ?_
  intro a hs
  unfold ref20_Same at h
  refine wp_seq_k fun K1 hK1 => ?_
  refine wp_region_lit ?_
  obtain ⟨a2, w1, ha, hw, h⟩ := h
  refine t_eff hs rfl rfl (by decide) (e_box rfl rfl rfl ha hw) ?_
  clear hs a ha hw
  intro a hs
  obtain ⟨b3, w1, ha, hw, h⟩ := h
  refine t_eff hs rfl rfl (by decide) (e_box rfl rfl rfl ha hw) ?_
  clear hs a ha hw
  intro a hs
  refine t_pure hs rfl rfl (by decide) (p_assign rfl rfl) ?_
  clear hs a
  intro a hs
  refine hK1 _ _ ?_
  refine wp_seq_k fun K2 hK2 => ?_
  have J1 : ∀ (x5_1 : Addr) (y6_1 : Addr) (a : Act) (w : World), Slots a 60 [(2, (.pointer (some a2))), (3, (.pointer (some b3))), (5, (.pointer (some x5_1))), (6, (.pointer (some y6_1)))] → ref20_Same.s1 Q a2 b3 x5_1 y6_1 w → K2 a w := by
    clear h hs
    intro x5_1 y6_1 a w hs h
    refine hK2 _ _ ?_
    unfold ref20_Same.s1 at h
    refine wp_seq_k fun K3 hK3 => ?_
    have J2 : ∀ (t4_2 : Bool) (a : Act) (w : World), Slots a 60 [(4, (.bool t4_2))] → ref20_Same.s2 Q t4_2 w → K3 a w := by
      clear h hs
      intro t4_2 a w hs h
      refine hK3 _ _ ?_
      unfold ref20_Same.s2 at h
      refine wp_ret ?_
      refine f_ret (fn := Try.f23) hs (fun a hs => r_one hs rfl (rfl)) ⟨t4_2, rfl, h⟩
    clear hK3
    refine wp_region_lit ?_
    refine t_pure hs rfl rfl (by decide) (p_fieldAddr0 rfl rfl ft_38_0) ?_
    clear hs a
    intro a hs
    obtain ⟨t12, hv, h⟩ := h
    refine t_eff hs rfl rfl (by decide) (e_load rfl rfl ct_3 hv) ?_
    clear hs a hv
    intro a hs
    refine t_pure hs rfl rfl (by decide) (p_fieldAddr0 rfl rfl ft_38_0) ?_
    clear hs a
    intro a hs
    obtain ⟨t14, hv, h⟩ := h
    refine t_eff hs rfl rfl (by decide) (e_load rfl rfl ct_3 hv) ?_
    clear hs a hv
    intro a hs
    refine t_pure hs rfl rfl (by decide) (p_eq rfl rfl rfl) ?_
    clear hs a
    intro a hs
    refine t_pure hs rfl rfl (by decide) (p_move rfl rfl) ?_
    clear hs a
    intro a hs
    refine split_bool (decide (t12 = t14)) (fun hb => ?_) (fun hb => ?_)
    · replace h := h.1 hb
      rw [hb] at hs
      clear hb
      refine t_yes hs rfl ?_
      refine t_pure hs rfl rfl (by decide) (p_fieldAddr rfl rfl ft_38_1) ?_
      clear hs a
      intro a hs
      refine t_yes hs rfl ?_
      obtain ⟨t18, hv, h⟩ := h
      refine t_eff hs rfl rfl (by decide) (e_load rfl rfl ct_3 hv) ?_
      clear hs a hv
      intro a hs
      replace hs := hs.to (τ := [(3, (.pointer (some b3))), (5, (.pointer (some x5_1))), (6, (.pointer (some y6_1))), (16, (.bool true)), (18, (.int .i64 t18))]) ⟨rfl, rfl, rfl, rfl, rfl, trivial⟩
      refine t_yes hs rfl ?_
      refine t_pure hs rfl rfl (by decide) (p_fieldAddr rfl rfl ft_38_1) ?_
      clear hs a
      intro a hs
      refine t_yes hs rfl ?_
      obtain ⟨t20, hv, h⟩ := h
      refine t_eff hs rfl rfl (by decide) (e_load rfl rfl ct_3 hv) ?_
      clear hs a hv
      intro a hs
      refine t_yes hs rfl ?_
      refine t_pure hs rfl rfl (by decide) (p_eq rfl rfl rfl) ?_
      clear hs a
      intro a hs
      refine t_pure hs rfl rfl (by decide) (p_pick_t rfl rfl rfl) ?_
      clear hs a
      intro a hs
      refine t_pure hs rfl rfl (by decide) (p_move rfl rfl) ?_
      clear hs a
      intro a hs
      refine split_bool (decide (t18 = t20)) (fun hb => ?_) (fun hb => ?_)
      · replace h := h.1 hb
        rw [hb] at hs
        clear hb
        refine t_yes hs rfl ?_
        refine t_pure hs rfl rfl (by decide) (p_fieldAddr0 rfl rfl ft_36_0) ?_
        clear hs a
        intro a hs
        refine t_yes hs rfl ?_
        obtain ⟨t25, hv, h⟩ := h
        refine t_eff hs rfl rfl (by decide) (e_load rfl rfl ct_23 hv) ?_
        clear hs a hv
        intro a hs
        refine t_yes hs rfl ?_
        refine t_pure hs rfl rfl (by decide) (p_fieldAddr0 rfl rfl ft_36_0) ?_
        clear hs a
        intro a hs
        replace hs := hs.to (τ := [(5, (.pointer (some x5_1))), (6, (.pointer (some y6_1))), (23, (.bool true)), (25, (.int .u64 t25)), (26, (.pointer (some y6_1)))]) ⟨rfl, rfl, rfl, rfl, rfl, trivial⟩
        refine t_yes hs rfl ?_
        obtain ⟨t27, hv, h⟩ := h
        refine t_eff hs rfl rfl (by decide) (e_load rfl rfl ct_23 hv) ?_
        clear hs a hv
        intro a hs
        refine t_yes hs rfl ?_
        refine t_pure hs rfl rfl (by decide) (p_eq rfl rfl rfl) ?_
        clear hs a
        intro a hs
        refine t_pure hs rfl rfl (by decide) (p_pick_t rfl rfl rfl) ?_
        clear hs a
        intro a hs
        refine t_pure hs rfl rfl (by decide) (p_move rfl rfl) ?_
        clear hs a
        intro a hs
        refine split_bool (decide (t25 = t27)) (fun hb => ?_) (fun hb => ?_)
        · replace h := h.1 hb
          rw [hb] at hs
          clear hb
          refine t_yes hs rfl ?_
          refine t_pure hs rfl rfl (by decide) (p_fieldAddr rfl rfl ft_36_1) ?_
          clear hs a
          intro a hs
          refine t_yes hs rfl ?_
          obtain ⟨t32, hv, h⟩ := h
          refine t_eff hs rfl rfl (by decide) (e_load rfl rfl ct_23 hv) ?_
          clear hs a hv
          intro a hs
          refine t_yes hs rfl ?_
          refine t_pure hs rfl rfl (by decide) (p_fieldAddr rfl rfl ft_36_1) ?_
          clear hs a
          intro a hs
          refine t_yes hs rfl ?_
          obtain ⟨t34, hv, h⟩ := h
          refine t_eff hs rfl rfl (by decide) (e_load rfl rfl ct_23 hv) ?_
          clear hs a hv
          intro a hs
          replace hs := hs.to (τ := [(5, (.pointer (some x5_1))), (6, (.pointer (some y6_1))), (30, (.bool true)), (32, (.int .u64 t32)), (34, (.int .u64 t34))]) ⟨rfl, rfl, rfl, rfl, rfl, trivial⟩
          refine t_yes hs rfl ?_
          refine t_pure hs rfl rfl (by decide) (p_eq rfl rfl rfl) ?_
          clear hs a
          intro a hs
          refine t_pure hs rfl rfl (by decide) (p_pick_t rfl rfl rfl) ?_
          clear hs a
          intro a hs
          refine t_pure hs rfl rfl (by decide) (p_move rfl rfl) ?_
          clear hs a
          intro a hs
          refine split_bool (decide (t32 = t34)) (fun hb => ?_) (fun hb => ?_)
          · replace h := h.1 hb
            rw [hb] at hs
            clear hb
            refine t_yes hs rfl ?_
            refine t_pure hs rfl rfl (by decide) (p_fieldAddr rfl rfl ft_36_2) ?_
            clear hs a
            intro a hs
            refine t_yes hs rfl ?_
            obtain ⟨t39, hv, h⟩ := h
            refine t_eff hs rfl rfl (by decide) (e_load rfl rfl ct_23 hv) ?_
            clear hs a hv
            intro a hs
            refine t_yes hs rfl ?_
            refine t_pure hs rfl rfl (by decide) (p_fieldAddr rfl rfl ft_36_2) ?_
            clear hs a
            intro a hs
            refine t_yes hs rfl ?_
            obtain ⟨t41, hv, h⟩ := h
            refine t_eff hs rfl rfl (by decide) (e_load rfl rfl ct_23 hv) ?_
            clear hs a hv
            intro a hs
            refine t_yes hs rfl ?_
            refine t_pure hs rfl rfl (by decide) (p_eq rfl rfl rfl) ?_
            clear hs a
            intro a hs
            replace hs := hs.to (τ := [(5, (.pointer (some x5_1))), (6, (.pointer (some y6_1))), (37, (.bool true)), (42, (.bool (decide (t39 = t41))))]) ⟨rfl, rfl, rfl, rfl, trivial⟩
            refine t_pure hs rfl rfl (by decide) (p_pick_t rfl rfl rfl) ?_
            clear hs a
            intro a hs
            refine t_pure hs rfl rfl (by decide) (p_move rfl rfl) ?_
            clear hs a
            intro a hs
            refine split_bool (decide (t39 = t41)) (fun hb => ?_) (fun hb => ?_)
            · replace h := h.1 hb
              rw [hb] at hs
              clear hb
              refine t_yes hs rfl ?_
              refine t_pure hs rfl rfl (by decide) (p_fieldAddr rfl rfl ft_36_3) ?_
              clear hs a
              intro a hs
              refine t_yes hs rfl ?_
              obtain ⟨t46, hv, h⟩ := h
              refine t_eff hs rfl rfl (by decide) (e_load rfl rfl ct_23 hv) ?_
              clear hs a hv
              intro a hs
              refine t_yes hs rfl ?_
              refine t_pure hs rfl rfl (by decide) (p_fieldAddr rfl rfl ft_36_3) ?_
              clear hs a
              intro a hs
              refine t_yes hs rfl ?_
              obtain ⟨t48, hv, h⟩ := h
              refine t_eff hs rfl rfl (by decide) (e_load rfl rfl ct_23 hv) ?_
              clear hs a hv
              intro a hs
              refine t_yes hs rfl ?_
              refine t_pure hs rfl rfl (by decide) (p_eq rfl rfl rfl) ?_
              clear hs a
              intro a hs
              refine t_pure hs rfl rfl (by decide) (p_pick_t rfl rfl rfl) ?_
              clear hs a
              intro a hs
              replace hs := hs.to (τ := [(5, (.pointer (some x5_1))), (6, (.pointer (some y6_1))), (50, (.bool (decide (t46 = t48))))]) ⟨rfl, rfl, rfl, trivial⟩
              refine t_pure hs rfl rfl (by decide) (p_move rfl rfl) ?_
              clear hs a
              intro a hs
              refine split_bool (decide (t46 = t48)) (fun hb => ?_) (fun hb => ?_)
              · replace h := h.1 hb
                rw [hb] at hs
                clear hb
                refine t_yes hs rfl ?_
                refine t_pure hs rfl rfl (by decide) (p_fieldAddr rfl rfl ft_36_4) ?_
                clear hs a
                intro a hs
                refine t_yes hs rfl ?_
                obtain ⟨t53, hv, h⟩ := h
                refine t_eff hs rfl rfl (by decide) (e_load rfl rfl ct_22 hv) ?_
                clear hs a hv
                intro a hs
                refine t_yes hs rfl ?_
                obtain ⟨t54, hd, h⟩ := h
                refine t_eff hs rfl rfl (by decide) (e_convert rfl rfl hd) ?_
                clear hs a hd
                intro a hs
                refine t_yes hs rfl ?_
                refine t_pure hs rfl rfl (by decide) (p_fieldAddr rfl rfl ft_36_4) ?_
                clear hs a
                intro a hs
                refine t_yes hs rfl ?_
                obtain ⟨t56, hv, h⟩ := h
                refine t_eff hs rfl rfl (by decide) (e_load rfl rfl ct_22 hv) ?_
                clear hs a hv
                intro a hs
                refine t_yes hs rfl ?_
                obtain ⟨t57, hd, h⟩ := h
                refine t_eff hs rfl rfl (by decide) (e_convert rfl rfl hd) ?_
                clear hs a hd
                intro a hs
                refine t_yes hs rfl ?_
                refine t_pure hs rfl rfl (by decide) (p_eqs rfl rfl rfl) ?_
                clear hs a
                intro a hs
                replace hs := hs.to (τ := [(51, (.bool true)), (58, (.bool (t54.toList == t57.toList)))]) ⟨rfl, rfl, trivial⟩
                refine t_pure hs rfl rfl (by decide) (p_pick_t rfl rfl rfl) ?_
                clear hs a
                intro a hs
                refine t_pure hs rfl rfl (by decide) (p_assign rfl rfl) ?_
                clear hs a
                intro a hs
                exact J2 (t54.toList == t57.toList) _ _ (hs.to ⟨rfl, trivial⟩) h
              · replace h := h.2 hb
                rw [hb] at hs
                clear hb
                refine t_no hs rfl rfl (by decide) ?_
                clear hs a
                intro a hs
                refine t_no hs rfl rfl (by decide) ?_
                clear hs a
                intro a hs
                refine t_no hs rfl rfl (by decide) ?_
                clear hs a
                intro a hs
                refine t_no hs rfl rfl (by decide) ?_
                clear hs a
                intro a hs
                refine t_no hs rfl rfl (by decide) ?_
                clear hs a
                intro a hs
                refine t_no hs rfl rfl (by decide) ?_
                clear hs a
                intro a hs
                refine t_no hs rfl rfl (by decide) ?_
                clear hs a
                intro a hs
                replace hs := hs.to (τ := [(51, (.bool false)), (58, undef)]) ⟨rfl, rfl, trivial⟩
                refine t_pure hs rfl rfl (by decide) (p_pick_f rfl rfl rfl) ?_
                clear hs a
                intro a hs
                refine t_pure hs rfl rfl (by decide) (p_assign rfl rfl) ?_
                clear hs a
                intro a hs
                exact J2 false _ _ (hs.to ⟨rfl, trivial⟩) h
            · replace h := h.2 hb
              rw [hb] at hs
              clear hb
              refine t_no hs rfl rfl (by decide) ?_
              clear hs a
              intro a hs
              refine t_no hs rfl rfl (by decide) ?_
              clear hs a
              intro a hs
              refine t_no hs rfl rfl (by decide) ?_
              clear hs a
              intro a hs
              refine t_no hs rfl rfl (by decide) ?_
              clear hs a
              intro a hs
              refine t_no hs rfl rfl (by decide) ?_
              clear hs a
              intro a hs
              refine t_pure hs rfl rfl (by decide) (p_pick_f rfl rfl rfl) ?_
              clear hs a
              intro a hs
              replace hs := hs.to (τ := [(5, (.pointer (some x5_1))), (6, (.pointer (some y6_1))), (50, (.bool false))]) ⟨rfl, rfl, rfl, trivial⟩
              refine t_pure hs rfl rfl (by decide) (p_move rfl rfl) ?_
              clear hs a
              intro a hs
              refine t_no hs rfl rfl (by decide) ?_
              clear hs a
              intro a hs
              refine t_no hs rfl rfl (by decide) ?_
              clear hs a
              intro a hs
              refine t_no hs rfl rfl (by decide) ?_
              clear hs a
              intro a hs
              refine t_no hs rfl rfl (by decide) ?_
              clear hs a
              intro a hs
              refine t_no hs rfl rfl (by decide) ?_
              clear hs a
              intro a hs
              refine t_no hs rfl rfl (by decide) ?_
              clear hs a
              intro a hs
              refine t_no hs rfl rfl (by decide) ?_
              clear hs a
              intro a hs
              replace hs := hs.to (τ := [(51, (.bool false)), (58, undef)]) ⟨rfl, rfl, trivial⟩
              refine t_pure hs rfl rfl (by decide) (p_pick_f rfl rfl rfl) ?_
              clear hs a
              intro a hs
              refine t_pure hs rfl rfl (by decide) (p_assign rfl rfl) ?_
              clear hs a
              intro a hs
              exact J2 false _ _ (hs.to ⟨rfl, trivial⟩) h
          · replace h := h.2 hb
            rw [hb] at hs
            clear hb
            refine t_no hs rfl rfl (by decide) ?_
            clear hs a
            intro a hs
            refine t_no hs rfl rfl (by decide) ?_
            clear hs a
            intro a hs
            refine t_no hs rfl rfl (by decide) ?_
            clear hs a
            intro a hs
            refine t_no hs rfl rfl (by decide) ?_
            clear hs a
            intro a hs
            refine t_no hs rfl rfl (by decide) ?_
            clear hs a
            intro a hs
            replace hs := hs.to (τ := [(5, (.pointer (some x5_1))), (6, (.pointer (some y6_1))), (37, (.bool false)), (42, undef)]) ⟨rfl, rfl, rfl, rfl, trivial⟩
            refine t_pure hs rfl rfl (by decide) (p_pick_f rfl rfl rfl) ?_
            clear hs a
            intro a hs
            refine t_pure hs rfl rfl (by decide) (p_move rfl rfl) ?_
            clear hs a
            intro a hs
            refine t_no hs rfl rfl (by decide) ?_
            clear hs a
            intro a hs
            refine t_no hs rfl rfl (by decide) ?_
            clear hs a
            intro a hs
            refine t_no hs rfl rfl (by decide) ?_
            clear hs a
            intro a hs
            refine t_no hs rfl rfl (by decide) ?_
            clear hs a
            intro a hs
            refine t_no hs rfl rfl (by decide) ?_
            clear hs a
            intro a hs
            refine t_pure hs rfl rfl (by decide) (p_pick_f rfl rfl rfl) ?_
            clear hs a
            intro a hs
            replace hs := hs.to (τ := [(5, (.pointer (some x5_1))), (6, (.pointer (some y6_1))), (50, (.bool false))]) ⟨rfl, rfl, rfl, trivial⟩
            refine t_pure hs rfl rfl (by decide) (p_move rfl rfl) ?_
            clear hs a
            intro a hs
            refine t_no hs rfl rfl (by decide) ?_
            clear hs a
            intro a hs
            refine t_no hs rfl rfl (by decide) ?_
            clear hs a
            intro a hs
            refine t_no hs rfl rfl (by decide) ?_
            clear hs a
            intro a hs
            refine t_no hs rfl rfl (by decide) ?_
            clear hs a
            intro a hs
            refine t_no hs rfl rfl (by decide) ?_
            clear hs a
            intro a hs
            refine t_no hs rfl rfl (by decide) ?_
            clear hs a
            intro a hs
            refine t_no hs rfl rfl (by decide) ?_
            clear hs a
            intro a hs
            replace hs := hs.to (τ := [(51, (.bool false)), (58, undef)]) ⟨rfl, rfl, trivial⟩
            refine t_pure hs rfl rfl (by decide) (p_pick_f rfl rfl rfl) ?_
            clear hs a
            intro a hs
            refine t_pure hs rfl rfl (by decide) (p_assign rfl rfl) ?_
            clear hs a
            intro a hs
            exact J2 false _ _ (hs.to ⟨rfl, trivial⟩) h
        · replace h := h.2 hb
          rw [hb] at hs
          clear hb
          refine t_no hs rfl rfl (by decide) ?_
          clear hs a
          intro a hs
          refine t_no hs rfl rfl (by decide) ?_
          clear hs a
          intro a hs
          refine t_no hs rfl rfl (by decide) ?_
          clear hs a
          intro a hs
          refine t_no hs rfl rfl (by decide) ?_
          clear hs a
          intro a hs
          replace hs := hs.to (τ := [(5, (.pointer (some x5_1))), (6, (.pointer (some y6_1))), (30, (.bool false)), (32, undef), (34, undef)]) ⟨rfl, rfl, rfl, rfl, rfl, trivial⟩
          refine t_no hs rfl rfl (by decide) ?_
          clear hs a
          intro a hs
          refine t_pure hs rfl rfl (by decide) (p_pick_f rfl rfl rfl) ?_
          clear hs a
          intro a hs
          refine t_pure hs rfl rfl (by decide) (p_move rfl rfl) ?_
          clear hs a
          intro a hs
          refine t_no hs rfl rfl (by decide) ?_
          clear hs a
          intro a hs
          refine t_no hs rfl rfl (by decide) ?_
          clear hs a
          intro a hs
          refine t_no hs rfl rfl (by decide) ?_
          clear hs a
          intro a hs
          refine t_no hs rfl rfl (by decide) ?_
          clear hs a
          intro a hs
          refine t_no hs rfl rfl (by decide) ?_
          clear hs a
          intro a hs
          replace hs := hs.to (τ := [(5, (.pointer (some x5_1))), (6, (.pointer (some y6_1))), (37, (.bool false)), (42, undef)]) ⟨rfl, rfl, rfl, rfl, trivial⟩
          refine t_pure hs rfl rfl (by decide) (p_pick_f rfl rfl rfl) ?_
          clear hs a
          intro a hs
          refine t_pure hs rfl rfl (by decide) (p_move rfl rfl) ?_
          clear hs a
          intro a hs
          refine t_no hs rfl rfl (by decide) ?_
          clear hs a
          intro a hs
          refine t_no hs rfl rfl (by decide) ?_
          clear hs a
          intro a hs
          refine t_no hs rfl rfl (by decide) ?_
          clear hs a
          intro a hs
          refine t_no hs rfl rfl (by decide) ?_
          clear hs a
          intro a hs
          refine t_no hs rfl rfl (by decide) ?_
          clear hs a
          intro a hs
          refine t_pure hs rfl rfl (by decide) (p_pick_f rfl rfl rfl) ?_
          clear hs a
          intro a hs
          replace hs := hs.to (τ := [(5, (.pointer (some x5_1))), (6, (.pointer (some y6_1))), (50, (.bool false))]) ⟨rfl, rfl, rfl, trivial⟩
          refine t_pure hs rfl rfl (by decide) (p_move rfl rfl) ?_
          clear hs a
          intro a hs
          refine t_no hs rfl rfl (by decide) ?_
          clear hs a
          intro a hs
          refine t_no hs rfl rfl (by decide) ?_
          clear hs a
          intro a hs
          refine t_no hs rfl rfl (by decide) ?_
          clear hs a
          intro a hs
          refine t_no hs rfl rfl (by decide) ?_
          clear hs a
          intro a hs
          refine t_no hs rfl rfl (by decide) ?_
          clear hs a
          intro a hs
          refine t_no hs rfl rfl (by decide) ?_
          clear hs a
          intro a hs
          refine t_no hs rfl rfl (by decide) ?_
          clear hs a
          intro a hs
          replace hs := hs.to (τ := [(51, (.bool false)), (58, undef)]) ⟨rfl, rfl, trivial⟩
          refine t_pure hs rfl rfl (by decide) (p_pick_f rfl rfl rfl) ?_
          clear hs a
          intro a hs
          refine t_pure hs rfl rfl (by decide) (p_assign rfl rfl) ?_
          clear hs a
          intro a hs
          exact J2 false _ _ (hs.to ⟨rfl, trivial⟩) h
      · replace h := h.2 hb
        rw [hb] at hs
        clear hb
        refine t_no hs rfl rfl (by decide) ?_
        clear hs a
        intro a hs
        refine t_no hs rfl rfl (by decide) ?_
        clear hs a
        intro a hs
        refine t_no hs rfl rfl (by decide) ?_
        clear hs a
        intro a hs
        replace hs := hs.to (τ := [(5, (.pointer (some x5_1))), (6, (.pointer (some y6_1))), (23, (.bool false)), (25, undef), (26, undef)]) ⟨rfl, rfl, rfl, rfl, rfl, trivial⟩
        refine t_no hs rfl rfl (by decide) ?_
        clear hs a
        intro a hs
        refine t_no hs rfl rfl (by decide) ?_
        clear hs a
        intro a hs
        refine t_pure hs rfl rfl (by decide) (p_pick_f rfl rfl rfl) ?_
        clear hs a
        intro a hs
        refine t_pure hs rfl rfl (by decide) (p_move rfl rfl) ?_
        clear hs a
        intro a hs
        refine t_no hs rfl rfl (by decide) ?_
        clear hs a
        intro a hs
        refine t_no hs rfl rfl (by decide) ?_
        clear hs a
        intro a hs
        refine t_no hs rfl rfl (by decide) ?_
        clear hs a
        intro a hs
        refine t_no hs rfl rfl (by decide) ?_
        clear hs a
        intro a hs
        replace hs := hs.to (τ := [(5, (.pointer (some x5_1))), (6, (.pointer (some y6_1))), (30, (.bool false)), (32, undef), (34, undef)]) ⟨rfl, rfl, rfl, rfl, rfl, trivial⟩
        refine t_no hs rfl rfl (by decide) ?_
        clear hs a
        intro a hs
        refine t_pure hs rfl rfl (by decide) (p_pick_f rfl rfl rfl) ?_
        clear hs a
        intro a hs
        refine t_pure hs rfl rfl (by decide) (p_move rfl rfl) ?_
        clear hs a
        intro a hs
        refine t_no hs rfl rfl (by decide) ?_
        clear hs a
        intro a hs
        refine t_no hs rfl rfl (by decide) ?_
        clear hs a
        intro a hs
        refine t_no hs rfl rfl (by decide) ?_
        clear hs a
        intro a hs
        refine t_no hs rfl rfl (by decide) ?_
        clear hs a
        intro a hs
        refine t_no hs rfl rfl (by decide) ?_
        clear hs a
        intro a hs
        replace hs := hs.to (τ := [(5, (.pointer (some x5_1))), (6, (.pointer (some y6_1))), (37, (.bool false)), (42, undef)]) ⟨rfl, rfl, rfl, rfl, trivial⟩
        refine t_pure hs rfl rfl (by decide) (p_pick_f rfl rfl rfl) ?_
        clear hs a
        intro a hs
        refine t_pure hs rfl rfl (by decide) (p_move rfl rfl) ?_
        clear hs a
        intro a hs
        refine t_no hs rfl rfl (by decide) ?_
        clear hs a
        intro a hs
        refine t_no hs rfl rfl (by decide) ?_
        clear hs a
        intro a hs
        refine t_no hs rfl rfl (by decide) ?_
        clear hs a
        intro a hs
        refine t_no hs rfl rfl (by decide) ?_
        clear hs a
        intro a hs
        refine t_no hs rfl rfl (by decide) ?_
        clear hs a
        intro a hs
        refine t_pure hs rfl rfl (by decide) (p_pick_f rfl rfl rfl) ?_
        clear hs a
        intro a hs
        replace hs := hs.to (τ := [(5, (.pointer (some x5_1))), (6, (.pointer (some y6_1))), (50, (.bool false))]) ⟨rfl, rfl, rfl, trivial⟩
        refine t_pure hs rfl rfl (by decide) (p_move rfl rfl) ?_
        clear hs a
        intro a hs
        refine t_no hs rfl rfl (by decide) ?_
        clear hs a
        intro a hs
        refine t_no hs rfl rfl (by decide) ?_
        clear hs a
        intro a hs
        refine t_no hs rfl rfl (by decide) ?_
        clear hs a
        intro a hs
        refine t_no hs rfl rfl (by decide) ?_
        clear hs a
        intro a hs
        refine t_no hs rfl rfl (by decide) ?_
        clear hs a
        intro a hs
        refine t_no hs rfl rfl (by decide) ?_
        clear hs a
        intro a hs
        refine t_no hs rfl rfl (by decide) ?_
        clear hs a
        intro a hs
        replace hs := hs.to (τ := [(51, (.bool false)), (58, undef)]) ⟨rfl, rfl, trivial⟩
        refine t_pure hs rfl rfl (by decide) (p_pick_f rfl rfl rfl) ?_
        clear hs a
        intro a hs
        refine t_pure hs rfl rfl (by decide) (p_assign rfl rfl) ?_
        clear hs a
        intro a hs
        exact J2 false _ _ (hs.to ⟨rfl, trivial⟩) h
    · replace h := h.2 hb
      rw [hb] at hs
      clear hb
      refine t_no hs rfl rfl (by decide) ?_
      clear hs a
      intro a hs
      refine t_no hs rfl rfl (by decide) ?_
      clear hs a
      intro a hs
      replace hs := hs.to (τ := [(3, (.pointer (some b3))), (5, (.pointer (some x5_1))), (6, (.pointer (some y6_1))), (16, (.bool false)), (18, undef)]) ⟨rfl, rfl, rfl, rfl, rfl, trivial⟩
      refine t_no hs rfl rfl (by decide) ?_
      clear hs a
      intro a hs
      refine t_no hs rfl rfl (by decide) ?_
      clear hs a
      intro a hs
      refine t_no hs rfl rfl (by decide) ?_
      clear hs a
      intro a hs
      refine t_pure hs rfl rfl (by decide) (p_pick_f rfl rfl rfl) ?_
      clear hs a
      intro a hs
      refine t_pure hs rfl rfl (by decide) (p_move rfl rfl) ?_
      clear hs a
      intro a hs
      refine t_no hs rfl rfl (by decide) ?_
      clear hs a
      intro a hs
      refine t_no hs rfl rfl (by decide) ?_
      clear hs a
      intro a hs
      refine t_no hs rfl rfl (by decide) ?_
      clear hs a
      intro a hs
      replace hs := hs.to (τ := [(5, (.pointer (some x5_1))), (6, (.pointer (some y6_1))), (23, (.bool false)), (25, undef), (26, undef)]) ⟨rfl, rfl, rfl, rfl, rfl, trivial⟩
      refine t_no hs rfl rfl (by decide) ?_
      clear hs a
      intro a hs
      refine t_no hs rfl rfl (by decide) ?_
      clear hs a
      intro a hs
      refine t_pure hs rfl rfl (by decide) (p_pick_f rfl rfl rfl) ?_
      clear hs a
      intro a hs
      refine t_pure hs rfl rfl (by decide) (p_move rfl rfl) ?_
      clear hs a
      intro a hs
      refine t_no hs rfl rfl (by decide) ?_
      clear hs a
      intro a hs
      refine t_no hs rfl rfl (by decide) ?_
      clear hs a
      intro a hs
      refine t_no hs rfl rfl (by decide) ?_
      clear hs a
      intro a hs
      refine t_no hs rfl rfl (by decide) ?_
      clear hs a
      intro a hs
      replace hs := hs.to (τ := [(5, (.pointer (some x5_1))), (6, (.pointer (some y6_1))), (30, (.bool false)), (32, undef), (34, undef)]) ⟨rfl, rfl, rfl, rfl, rfl, trivial⟩
      refine t_no hs rfl rfl (by decide) ?_
      clear hs a
      intro a hs
      refine t_pure hs rfl rfl (by decide) (p_pick_f rfl rfl rfl) ?_
      clear hs a
      intro a hs
      refine t_pure hs rfl rfl (by decide) (p_move rfl rfl) ?_
      clear hs a
      intro a hs
      refine t_no hs rfl rfl (by decide) ?_
      clear hs a
      intro a hs
      refine t_no hs rfl rfl (by decide) ?_
      clear hs a
      intro a hs
      refine t_no hs rfl rfl (by decide) ?_
      clear hs a
      intro a hs
      refine t_no hs rfl rfl (by decide) ?_
      clear hs a
      intro a hs
      refine t_no hs rfl rfl (by decide) ?_
      clear hs a
      intro a hs
      replace hs := hs.to (τ := [(5, (.pointer (some x5_1))), (6, (.pointer (some y6_1))), (37, (.bool false)), (42, undef)]) ⟨rfl, rfl, rfl, rfl, trivial⟩
      refine t_pure hs rfl rfl (by decide) (p_pick_f rfl rfl rfl) ?_
      clear hs a
      intro a hs
      refine t_pure hs rfl rfl (by decide) (p_move rfl rfl) ?_
      clear hs a
      intro a hs
      refine t_no hs rfl rfl (by decide) ?_
      clear hs a
      intro a hs
      refine t_no hs rfl rfl (by decide) ?_
      clear hs a
      intro a hs
      refine t_no hs rfl rfl (by decide) ?_
      clear hs a
      intro a hs
      refine t_no hs rfl rfl (by decide) ?_
      clear hs a
      intro a hs
      refine t_no hs rfl rfl (by decide) ?_
      clear hs a
      intro a hs
      refine t_pure hs rfl rfl (by decide) (p_pick_f rfl rfl rfl) ?_
      clear hs a
      intro a hs
      replace hs := hs.to (τ := [(5, (.pointer (some x5_1))), (6, (.pointer (some y6_1))), (50, (.bool false))]) ⟨rfl, rfl, rfl, trivial⟩
      refine t_pure hs rfl rfl (by decide) (p_move rfl rfl) ?_
      clear hs a
      intro a hs
      refine t_no hs rfl rfl (by decide) ?_
      clear hs a
      intro a hs
      refine t_no hs rfl rfl (by decide) ?_
      clear hs a
      intro a hs
      refine t_no hs rfl rfl (by decide) ?_
      clear hs a
      intro a hs
      refine t_no hs rfl rfl (by decide) ?_
      clear hs a
      intro a hs
      refine t_no hs rfl rfl (by decide) ?_
      clear hs a
      intro a hs
      refine t_no hs rfl rfl (by decide) ?_
      clear hs a
      intro a hs
      refine t_no hs rfl rfl (by decide) ?_
      clear hs a
      intro a hs
      replace hs := hs.to (τ := [(51, (.bool false)), (58, undef)]) ⟨rfl, rfl, trivial⟩
      refine t_pure hs rfl rfl (by decide) (p_pick_f rfl rfl rfl) ?_
      clear hs a
      intro a hs
      refine t_pure hs rfl rfl (by decide) (p_assign rfl rfl) ?_
      clear hs a
      intro a hs
      exact J2 false _ _ (hs.to ⟨rfl, trivial⟩) h
  clear hK2
  obtain ⟨w1, hw1, h⟩ := h
  obtain ⟨S, hS, h⟩ := h
  subst hw1
  refine d_start (S := S) (ds := [7]) #[false, false, false, false, false, false, false, false] mixed rfl rfl ?_
  refine d_pure hs #[true, false, false, false, false, false, false, false] (i := 0) rfl rfl rfl (by decide) (by kernel_rfl) (tight_body (P := Try.prog) (fn := Try.f23)) (p_fieldAddr rfl rfl ft_38_2) ?_
  clear hs a
  intro a hs
  refine d_pure hs #[true, false, true, false, false, false, false, false] (i := 2) rfl rfl rfl (by decide) (by kernel_rfl) (tight_body (P := Try.prog) (fn := Try.f23)) (p_fieldAddr rfl rfl ft_38_2) ?_
  clear hs a
  intro a hs
  obtain ⟨t8, hn, hv, h⟩ := h
  refine d_read hs #[true, true, true, false, false, false, false, false] (i := 1) rfl rfl rfl (by decide) (by kernel_rfl) (by kernel_rfl) (tight_body (P := Try.prog) (fn := Try.f23)) hS (fun w h' => e_loadN rfl rfl at_36 hn (hv w h')) ?_
  clear hs a hn hv
  intro a hs
  obtain ⟨t10, hn, hv, h⟩ := h
  refine d_read hs #[true, true, true, true, false, false, false, false] (i := 3) rfl rfl rfl (by decide) (by kernel_rfl) (by kernel_rfl) (tight_body (P := Try.prog) (fn := Try.f23)) hS (fun w h' => e_loadN rfl rfl at_36 hn (hv w h')) ?_
  clear hs a hn hv
  intro a hs
  refine d_all [4, 5] (by kernel_rfl) (by decide) ?_
  refine AllS.cons ?_ ?_
  · replace h := h 0 _ rfl
    obtain ⟨x5, w1, ha, hw, h⟩ := h
    obtain ⟨hS, h⟩ := h
    refine d_eff hs #[true, true, true, true, true, false, false, false] (i := 4) rfl rfl rfl (by decide) rfl (e_alloc rfl zt_36 rfl ha hw) (fun _ _ => hS) ?_
    clear hs a ha hw
    intro a hs
    refine d_all [5] (by kernel_rfl) (by decide) ?_
    refine AllS.cons ?_ AllS.nil
    obtain ⟨y6, w1, ha, hw, h⟩ := h
    obtain ⟨hS, h⟩ := h
    refine d_eff hs #[true, true, true, true, true, true, false, false] (i := 5) rfl rfl rfl (by decide) rfl (e_alloc rfl zt_36 rfl ha hw) (fun _ _ => hS) ?_
    clear hs a ha hw
    intro a hs
    refine d_all [6] (by kernel_rfl) (by decide) ?_
    refine AllS.cons ?_ AllS.nil
    obtain ⟨w1, hw, hn, hc, hv, h⟩ := h
    obtain ⟨hS, h⟩ := h
    refine d_skip hs #[true, true, true, true, true, true, true, false] (i := 6) rfl rfl rfl rfl (e_storeN rfl rfl rfl sz_36 hw hn hc hv) (fun _ _ => hS) ?_
    clear hs a hw hn hc hv
    intro a hs
    refine d_all [7] (by kernel_rfl) (by decide) ?_
    refine AllS.cons ?_ AllS.nil
    obtain ⟨w1, hw, hn, hc, hv, h⟩ := h
    refine d_skip hs #[true, true, true, true, true, true, true, true] (i := 7) rfl rfl rfl rfl (e_storeN rfl rfl rfl sz_36 hw hn hc hv) (fun hn => (hn (by decide)).elim) ?_
    clear hs a hw hn hc hv
    intro a hs
    replace hs := hs.to (τ := [(2, (.pointer (some a2))), (3, (.pointer (some b3))), (5, (.pointer (some x5))), (6, (.pointer (some y6)))]) ⟨rfl, rfl, rfl, rfl, trivial⟩
    refine d_done (by kernel_rfl) ?_ _
    clear hS
    exact J1 x5 y6 _ _ (hs.to ⟨rfl, rfl, rfl, rfl, trivial⟩) h
  refine AllS.cons ?_ AllS.nil
  replace h := h 1 _ rfl
  obtain ⟨y6, w1, ha, hw, h⟩ := h
  obtain ⟨hS, h⟩ := h
  refine d_eff hs #[true, true, true, true, false, true, false, false] (i := 5) rfl rfl rfl (by decide) rfl (e_alloc rfl zt_36 rfl ha hw) (fun _ _ => hS) ?_
  clear hs a ha hw
  intro a hs
  refine d_all [4] (by kernel_rfl) (by decide) ?_
  refine AllS.cons ?_ AllS.nil
  obtain ⟨x5, w1, ha, hw, h⟩ := h
  obtain ⟨hS, h⟩ := h
  refine d_eff hs #[true, true, true, true, true, true, false, false] (i := 4) rfl rfl rfl (by decide) rfl (e_alloc rfl zt_36 rfl ha hw) (fun _ _ => hS) ?_
  clear hs a ha hw
  intro a hs
  refine d_all [6] (by kernel_rfl) (by decide) ?_
  refine AllS.cons ?_ AllS.nil
  obtain ⟨w1, hw, hn, hc, hv, h⟩ := h
  obtain ⟨hS, h⟩ := h
  refine d_skip hs #[true, true, true, true, true, true, true, false] (i := 6) rfl rfl rfl rfl (e_storeN rfl rfl rfl sz_36 hw hn hc hv) (fun _ _ => hS) ?_
  clear hs a hw hn hc hv
  intro a hs
  refine d_all [7] (by kernel_rfl) (by decide) ?_
  refine AllS.cons ?_ AllS.nil
  obtain ⟨w1, hw, hn, hc, hv, h⟩ := h
  refine d_skip hs #[true, true, true, true, true, true, true, true] (i := 7) rfl rfl rfl rfl (e_storeN rfl rfl rfl sz_36 hw hn hc hv) (fun hn => (hn (by decide)).elim) ?_
  clear hs a hw hn hc hv
  intro a hs
  replace hs := hs.to (τ := [(2, (.pointer (some a2))), (3, (.pointer (some b3))), (5, (.pointer (some x5))), (6, (.pointer (some y6)))]) ⟨rfl, rfl, rfl, rfl, trivial⟩
  refine d_done (by kernel_rfl) ?_ _
  clear hS
  exact J1 x5 y6 _ _ (hs.to ⟨rfl, rfl, rfl, rfl, trivial⟩) h
def ref20_Net_Take (n0 : (Option Addr)) (k1 : Int) (Q : (Array Value) → Bool → K) : K :=
  New 38 #[(.int .i64 0), (.int .i64 0), (.int .u64 0), (.int .u64 0), (.int .u64 0), (.int .u64 0), (Sl.val ⟨none, 0, 0⟩)] fun t4 =>
  ref20_Net_Has.call n0 k1 fun t9 =>
  Ite (!t9)
    (StN t4 7 #[(.int .i64 0), (.int .i64 0), (.int .u64 0), (.int .u64 0), (.int .u64 0), (.int .u64 0), (Sl.val ⟨none, 0, 0⟩)] <|
    LdN t4 7 fun r0 =>
    Q r0 false)
    (Nn n0 fun t13 =>
    Ld t13 Sl.val fun t15 =>
    Idx t15 k1 7 fun t17 =>
    LdN t17 7 fun t18 =>
    New 38 #[(.int .i64 0), (.int .i64 0), (.int .u64 0), (.int .u64 0), (.int .u64 0), (.int .u64 0), (Sl.val ⟨none, 0, 0⟩)] fun p6 =>
    StN p6 7 t18 <|
    Dr <| WithS fun S =>
    Ar (IntKind.wrap .i64 (k1 + 1)) fun t33 =>
    LdS S t13 Sl.val fun t24 =>
    Slc t24 0 k1 (t24.c : Int) 7 fun t26 =>
    LdS S t13 Sl.val fun t31 =>
    Slc t31 t33 (t31.n : Int) (t31.c : Int) 7 fun t34 =>
    New 38 #[] fun t20 =>
    Sv S <|
    Do Try.prog (Builtin.append_ #[31, 31] 31 #[(Sl.val (Sl.mk (some t20) 0 0)), (Sl.val t26)]) Sl.val fun t27 =>
    Sv S <|
    Do Try.prog (Builtin.append_ #[31, 31] 31 #[(Sl.val t27), (Sl.val t34)]) Sl.val fun t35 =>
    St t13 (Sl.val t35) <|
    LdN p6 7 fun t38 =>
    StN t4 7 t38 <|
    LdN t4 7 fun r0 =>
    Q r0 true)
theorem ref20_Net_Take_ok (n0 : (Option Addr)) (k1 : Int) (Q : (Array Value) → Bool → K) (w : World) (h : ref20_Net_Take n0 k1 Q w) : ref20_Net_Take.call n0 k1 Q w := by
  unfold ref20_Net_Take.call CallF
  refine f_start (args := [(.pointer n0), (.int .i64 k1)]) Try.func24 rfl (Nat.le_of_ble_eq_true rfl) ?_
  intro a hs
  unfold ref20_Net_Take at h
  refine wp_seq_k fun K1 hK1 => ?_
  refine wp_region_lit ?_
  obtain ⟨t4, w1, ha, hw, h⟩ := h
  refine t_eff hs rfl rfl (by decide) (e_alloc rfl zt_38 rfl ha hw) ?_
  clear hs a ha hw
  intro a hs
  refine t_pure hs rfl rfl (by decide) (p_assign rfl rfl) ?_
  clear hs a
  intro a hs
  refine hK1 _ _ ?_
  refine wp_seq_k fun K2 hK2 => ?_
  refine wp_seq_k fun K3 hK3 => ?_
  refine wp_region_lit ?_
  refine t_pure hs rfl rfl (by decide) (p_move rfl rfl) ?_
  clear hs a
  intro a hs
  refine t_pure hs rfl rfl (by decide) (p_move rfl rfl) ?_
  clear hs a
  intro a hs
  refine t_call hs rfl rfl (by decide) (e_call rfl rfl rfl cb_26) h ?_
  clear hs a h
  intro v a w hk hs
  obtain ⟨t9, rfl, h⟩ := hk
  refine t_pure hs rfl rfl (by decide) (p_not rfl rfl) ?_
  clear hs a
  intro a hs
  refine hK3 _ _ ?_
  refine c_cond hs rfl (fun hb => ?_) (fun hb => ?_)
  · replace h := h.1 hb
    clear hb
    refine wp_seq_k fun K4 hK4 => ?_
    refine wp_region_lit ?_
    refine t_pure hs rfl rfl (by decide) (e_build (cs := #[(.int .i64 0), (.int .i64 0), (.int .u64 0), (.int .u64 0), (.int .u64 0), (.int .u64 0), (Sl.val ⟨none, 0, 0⟩)]) rfl zt_38 pl_38 rfl rfl) ?_
    clear hs a
    intro a hs
    obtain ⟨w1, hw, hn, hc, hv, h⟩ := h
    refine t_skip hs rfl rfl (e_storeN rfl rfl rfl sz_38 hw hn hc hv) ?_
    clear hs a hw hn hc hv
    intro a hs
    refine t_pure hs rfl rfl (by decide) (p_assign rfl rfl) ?_
    clear hs a
    intro a hs
    refine hK4 _ _ ?_
    refine wp_ret ?_
    obtain ⟨r0, hn0, hv0, h⟩ := h
    refine f_ret (fn := Try.f24) hs (fun a hs => r_many hs (rs := [ResultVar.cell 4 38, ResultVar.tmp 5]) (vs := [(.agg r0), (.bool false)]) rfl (by decide) ⟨⟨_, rfl, run_loadVarN at_38 hn0 hv0⟩, rfl, trivial⟩) ⟨r0, false, rfl, h⟩
  · replace h := h.2 hb
    clear hb
    refine wp_skip ?_
    refine hK2 _ _ ?_
    refine wp_seq_k fun K5 hK5 => ?_
    refine wp_region_lit ?_
    refine t_pure hs rfl rfl (by decide) (p_move rfl rfl) ?_
    clear hs a
    intro a hs
    obtain ⟨t13, rfl, h⟩ := h
    refine t_pure hs rfl rfl (by decide) (p_nil rfl rfl) ?_
    clear hs a
    intro a hs
    refine t_pure hs rfl rfl (by decide) (p_fieldAddr0 rfl rfl ft_50_0) ?_
    clear hs a
    intro a hs
    obtain ⟨t15, hv, h⟩ := h
    refine t_eff hs rfl rfl (by decide) (e_load rfl rfl ct_31 hv) ?_
    clear hs a hv
    intro a hs
    refine t_pure hs rfl rfl (by decide) (p_move rfl rfl) ?_
    clear hs a
    intro a hs
    obtain ⟨qt17, t17, ha, h0, h1, he, h⟩ := h
    refine t_pure hs rfl rfl (by decide) (Pure.adr he (p_idx rfl rfl rfl sl_31 ha h0 h1)) ?_
    clear hs a ha h0 h1 he
    intro a hs
    obtain ⟨t18, hn, hv, h⟩ := h
    refine t_eff hs rfl rfl (by decide) (e_loadN rfl rfl at_38 hn hv) ?_
    clear hs a hn hv
    intro a hs
    obtain ⟨p6, w1, ha, hw, h⟩ := h
    refine t_eff hs rfl rfl (by decide) (e_alloc rfl zt_38 rfl ha hw) ?_
    clear hs a ha hw
    intro a hs
    replace hs := hs.to (τ := [(0, (.pointer (some t13))), (1, (.int .i64 k1)), (4, (.pointer (some t4))), (6, (.pointer (some p6))), (18, (.agg t18))]) ⟨rfl, rfl, rfl, rfl, rfl, trivial⟩
    obtain ⟨w1, hw, hn, hc, hv, h⟩ := h
    refine t_skip hs rfl rfl (e_storeN rfl rfl rfl sz_38 hw hn hc hv) ?_
    clear hs a hw hn hc hv
    intro a hs
    refine hK5 _ _ ?_
    refine wp_seq_k fun K6 hK6 => ?_
    obtain ⟨w1, hw1, h⟩ := h
    obtain ⟨S, hS, h⟩ := h
    subst hw1
    refine d_start (S := S) (ds := [16, 19]) #[false, false, false, false, false, false, false, false, false, false, false, false, false, false, false, false, false, false, false, false] mixed rfl rfl ?_
    refine d_pure hs #[true, false, false, false, false, false, false, false, false, false, false, false, false, false, false, false, false, false, false, false] (i := 0) rfl rfl rfl (by decide) (by kernel_rfl) (tight_body (P := Try.prog) (fn := Try.f24)) (p_move rfl rfl) ?_
    clear hs a
    intro a hs
    refine d_pure hs #[true, false, true, false, false, false, false, false, false, false, false, false, false, false, false, false, false, false, false, false] (i := 2) rfl rfl rfl (by decide) (by kernel_rfl) (tight_body (P := Try.prog) (fn := Try.f24)) (p_move rfl rfl) ?_
    clear hs a
    intro a hs
    refine d_pure hs #[true, false, true, true, false, false, false, false, false, false, false, false, false, false, false, false, false, false, false, false] (i := 3) rfl rfl rfl (by decide) (by kernel_rfl) (tight_body (P := Try.prog) (fn := Try.f24)) (p_nil rfl rfl) ?_
    clear hs a
    intro a hs
    refine d_pure hs #[true, false, true, true, true, false, false, false, false, false, false, false, false, false, false, false, false, false, false, false] (i := 4) rfl rfl rfl (by decide) (by kernel_rfl) (tight_body (P := Try.prog) (fn := Try.f24)) (p_fieldAddr0 rfl rfl ft_50_0) ?_
    clear hs a
    intro a hs
    refine d_pure hs #[true, false, true, true, true, false, true, false, false, false, false, false, false, false, false, false, false, false, false, false] (i := 6) rfl rfl rfl (by decide) (by kernel_rfl) (tight_body (P := Try.prog) (fn := Try.f24)) (p_move rfl rfl) ?_
    clear hs a
    intro a hs
    refine d_pure hs #[true, false, true, true, true, false, true, false, false, true, false, false, false, false, false, false, false, false, false, false] (i := 9) rfl rfl rfl (by decide) (by kernel_rfl) (tight_body (P := Try.prog) (fn := Try.f24)) (p_move rfl rfl) ?_
    clear hs a
    intro a hs
    refine d_pure hs #[true, false, true, true, true, false, true, false, false, true, true, false, false, false, false, false, false, false, false, false] (i := 10) rfl rfl rfl (by decide) (by kernel_rfl) (tight_body (P := Try.prog) (fn := Try.f24)) (p_nil rfl rfl) ?_
    clear hs a
    intro a hs
    refine d_pure hs #[true, false, true, true, true, false, true, false, false, true, true, true, false, false, false, false, false, false, false, false] (i := 11) rfl rfl rfl (by decide) (by kernel_rfl) (tight_body (P := Try.prog) (fn := Try.f24)) (p_fieldAddr0 rfl rfl ft_50_0) ?_
    clear hs a
    intro a hs
    replace hs := hs.to (τ := [(1, (.int .i64 k1)), (4, (.pointer (some t4))), (6, (.pointer (some p6))), (19, (.pointer (some t13))), (23, (.pointer (some t13))), (25, (.int .i64 k1)), (30, (.pointer (some t13)))]) ⟨rfl, rfl, rfl, rfl, rfl, rfl, rfl, trivial⟩
    refine d_pure hs #[true, false, true, true, true, false, true, false, false, true, true, true, false, true, false, false, false, false, false, false] (i := 13) rfl rfl rfl (by decide) (by kernel_rfl) (tight_body (P := Try.prog) (fn := Try.f24)) (p_move rfl rfl) ?_
    clear hs a
    intro a hs
    obtain ⟨t33, he, h⟩ := h
    refine d_pure hs #[true, false, true, true, true, false, true, false, false, true, true, true, false, true, true, false, false, false, false, false] (i := 14) rfl rfl rfl (by decide) (by kernel_rfl) (tight_body (P := Try.prog) (fn := Try.f24)) (Pure.int he (p_add rfl rfl rfl)) ?_
    clear hs a he
    intro a hs
    obtain ⟨t24, hv, h⟩ := h
    refine d_read hs #[true, false, true, true, true, true, true, false, false, true, true, true, false, true, true, false, false, false, false, false] (i := 5) rfl rfl rfl (by decide) (by kernel_rfl) (by kernel_rfl) (tight_body (P := Try.prog) (fn := Try.f24)) hS (fun w h' => e_load rfl rfl ct_31 (hv w h')) ?_
    clear hs a hv
    intro a hs
    obtain ⟨t26, h0, h1, h2, h3, he, h⟩ := h
    refine d_pure hs #[true, false, true, true, true, true, true, true, false, true, true, true, false, true, true, false, false, false, false, false] (i := 7) rfl rfl rfl (by decide) (by kernel_rfl) (tight_body (P := Try.prog) (fn := Try.f24)) (Pure.sl he (p_slc rfl rfl sl_31 rfl ⟨_, rfl⟩ rfl (by decide) h0 h1 h2 h3)) ?_
    clear hs a h0 h1 h2 h3 he
    intro a hs
    obtain ⟨t31, hv, h⟩ := h
    refine d_read hs #[true, false, true, true, true, true, true, true, false, true, true, true, true, true, true, false, false, false, false, false] (i := 12) rfl rfl rfl (by decide) (by kernel_rfl) (by kernel_rfl) (tight_body (P := Try.prog) (fn := Try.f24)) hS (fun w h' => e_load rfl rfl ct_31 (hv w h')) ?_
    clear hs a hv
    intro a hs
    obtain ⟨t34, h0, h1, h2, h3, he, h⟩ := h
    refine d_pure hs #[true, false, true, true, true, true, true, true, false, true, true, true, true, true, true, true, false, false, false, false] (i := 15) rfl rfl rfl (by decide) (by kernel_rfl) (tight_body (P := Try.prog) (fn := Try.f24)) (Pure.sl he (p_slc rfl rfl sl_31 ⟨_, rfl⟩ rfl rfl (by decide) h0 h1 h2 h3)) ?_
    clear hs a h0 h1 h2 h3 he
    intro a hs
    refine d_all [1] (by kernel_rfl) (by decide) ?_
    refine AllS.cons ?_ AllS.nil
    obtain ⟨t20, w1, ha, hw, h⟩ := h
    obtain ⟨hS, h⟩ := h
    refine d_eff hs #[true, true, true, true, true, true, true, true, false, true, true, true, true, true, true, true, false, false, false, false] (i := 1) rfl rfl rfl (by decide) rfl (e_buildSlice (z := #[]) (cs := #[]) rfl sl_31 zt_38 (by decide) rfl rz_38_0 (by rfl) ha hw) (fun _ _ => hS) ?_
    clear hs a ha hw
    intro a hs
    refine d_all [8] (by kernel_rfl) (by decide) ?_
    refine AllS.cons ?_ AllS.nil
    obtain ⟨t27, w1, hd, h⟩ := h
    obtain ⟨hS, h⟩ := h
    refine d_eff hs #[true, true, true, true, true, true, true, true, true, true, true, true, true, true, true, true, false, false, false, false] (i := 8) rfl rfl rfl (by decide) rfl (e_append rfl rfl rfl rfl hd) (fun _ _ => hS) ?_
    clear hs a hd
    intro a hs
    replace hs := hs.to (τ := [(4, (.pointer (some t4))), (6, (.pointer (some p6))), (19, (.pointer (some t13))), (27, (Sl.val t27)), (34, (Sl.val t34))]) ⟨rfl, rfl, rfl, rfl, rfl, trivial⟩
    refine d_all [16] (by kernel_rfl) (by decide) ?_
    refine AllS.cons ?_ AllS.nil
    obtain ⟨t35, w1, hd, h⟩ := h
    refine d_eff hs #[true, true, true, true, true, true, true, true, true, true, true, true, true, true, true, true, true, false, false, false] (i := 16) rfl rfl rfl (by decide) rfl (e_append rfl rfl rfl rfl hd) (fun hn => (hn (by decide)).elim) ?_
    clear hs a hd
    intro a hs
    refine d_pure hs #[true, true, true, true, true, true, true, true, true, true, true, true, true, true, true, true, true, true, false, false] (i := 17) rfl rfl rfl (by decide) (by kernel_rfl) (tight_body (P := Try.prog) (fn := Try.f24)) (p_nil rfl rfl) ?_
    clear hs a
    intro a hs
    refine d_pure hs #[true, true, true, true, true, true, true, true, true, true, true, true, true, true, true, true, true, true, true, false] (i := 18) rfl rfl rfl (by decide) (by kernel_rfl) (tight_body (P := Try.prog) (fn := Try.f24)) (p_fieldAddr0 rfl rfl ft_50_0) ?_
    clear hs a
    intro a hs
    refine d_all [19] (by kernel_rfl) (by decide) ?_
    refine AllS.cons ?_ AllS.nil
    obtain ⟨w1, hw, hc, hf, hv, h⟩ := h
    refine d_skip hs #[true, true, true, true, true, true, true, true, true, true, true, true, true, true, true, true, true, true, true, true] (i := 19) rfl rfl rfl rfl (e_store rfl rfl rfl sz_31 hw hc hf hv) (fun hn => (hn (by decide)).elim) ?_
    clear hs a hw hc hf hv
    intro a hs
    refine d_done (by kernel_rfl) ?_ _
    clear hS
    refine hK6 _ _ ?_
    refine wp_seq_k fun K7 hK7 => ?_
    refine wp_region_lit ?_
    obtain ⟨t38, hn, hv, h⟩ := h
    refine t_eff hs rfl rfl (by decide) (e_loadN rfl rfl at_38 hn hv) ?_
    clear hs a hn hv
    intro a hs
    obtain ⟨w1, hw, hn, hc, hv, h⟩ := h
    refine t_skip hs rfl rfl (e_storeN rfl rfl rfl sz_38 hw hn hc hv) ?_
    clear hs a hw hn hc hv
    intro a hs
    refine t_pure hs rfl rfl (by decide) (p_assign rfl rfl) ?_
    clear hs a
    intro a hs
    refine hK7 _ _ ?_
    refine wp_ret ?_
    obtain ⟨r0, hn0, hv0, h⟩ := h
    refine f_ret (fn := Try.f24) hs (fun a hs => r_many hs (rs := [ResultVar.cell 4 38, ResultVar.tmp 5]) (vs := [(.agg r0), (.bool true)]) rfl (by decide) ⟨⟨_, rfl, run_loadVarN at_38 hn0 hv0⟩, rfl, trivial⟩) ⟨r0, true, rfl, h⟩
def ref20_Net_Has.s1 (Q : Bool → K)  (t4_1 : Bool) : K :=
  Q t4_1
def ref20_Net_Has (n0 : (Option Addr)) (k1 : Int) (Q : Bool → K) : K :=
  Ite (decide ((0 : Int) ≤ k1))
    (Nn n0 fun t10 =>
    Ld t10 Sl.val fun t12 =>
    ref20_Net_Has.s1 Q (decide (k1 < (t12.n : Int))))
    (ref20_Net_Has.s1 Q false)
theorem ref20_Net_Has_ok (n0 : (Option Addr)) (k1 : Int) (Q : Bool → K) (w : World) (h : ref20_Net_Has n0 k1 Q w) : ref20_Net_Has.call n0 k1 Q w := by
  unfold ref20_Net_Has.call CallF
  refine f_start (args := [(.pointer n0), (.int .i64 k1)]) Try.func26 rfl (Nat.le_of_ble_eq_true rfl) ?_
  intro a hs
  unfold ref20_Net_Has at h
  refine wp_seq_k fun K1 hK1 => ?_
  refine wp_region_lit ?_
  refine t_pure hs rfl rfl (by decide) (p_assign rfl rfl) ?_
  clear hs a
  intro a hs
  refine hK1 _ _ ?_
  refine wp_seq_k fun K2 hK2 => ?_
  have J1 : ∀ (t4_1 : Bool) (a : Act) (w : World), Slots a 16 [(4, (.bool t4_1))] → ref20_Net_Has.s1 Q t4_1 w → K2 a w := by
    clear h hs
    intro t4_1 a w hs h
    refine hK2 _ _ ?_
    unfold ref20_Net_Has.s1 at h
    refine wp_ret ?_
    refine f_ret (fn := Try.f26) hs (fun a hs => r_one hs rfl (rfl)) ⟨t4_1, rfl, h⟩
  clear hK2
  refine wp_region_lit ?_
  refine t_pure hs rfl rfl (by decide) (p_move rfl rfl) ?_
  clear hs a
  intro a hs
  refine t_pure hs rfl rfl (by decide) (p_ge rfl rfl rfl) ?_
  clear hs a
  intro a hs
  refine t_pure hs rfl rfl (by decide) (p_move rfl rfl) ?_
  clear hs a
  intro a hs
  refine split_bool (decide ((0 : Int) ≤ k1)) (fun hb => ?_) (fun hb => ?_)
  · replace h := h.1 hb
    rw [hb] at hs
    clear hb
    refine t_yes hs rfl ?_
    refine t_pure hs rfl rfl (by decide) (p_move rfl rfl) ?_
    clear hs a
    intro a hs
    refine t_yes hs rfl ?_
    refine t_pure hs rfl rfl (by decide) (p_move rfl rfl) ?_
    clear hs a
    intro a hs
    refine t_yes hs rfl ?_
    obtain ⟨t10, rfl, h⟩ := h
    refine t_pure hs rfl rfl (by decide) (p_nil rfl rfl) ?_
    clear hs a
    intro a hs
    refine t_yes hs rfl ?_
    refine t_pure hs rfl rfl (by decide) (p_fieldAddr0 rfl rfl ft_50_0) ?_
    clear hs a
    intro a hs
    refine t_yes hs rfl ?_
    obtain ⟨t12, hv, h⟩ := h
    refine t_eff hs rfl rfl (by decide) (e_load rfl rfl ct_31 hv) ?_
    clear hs a hv
    intro a hs
    replace hs := hs.to (τ := [(7, (.bool true)), (8, (.int .i64 k1)), (12, (Sl.val t12))]) ⟨rfl, rfl, rfl, trivial⟩
    refine t_yes hs rfl ?_
    refine t_pure hs rfl rfl (by decide) (p_len rfl rfl sl_31) ?_
    clear hs a
    intro a hs
    refine t_yes hs rfl ?_
    refine t_pure hs rfl rfl (by decide) (p_lt rfl rfl rfl) ?_
    clear hs a
    intro a hs
    refine t_pure hs rfl rfl (by decide) (p_pick_t rfl rfl rfl) ?_
    clear hs a
    intro a hs
    refine t_pure hs rfl rfl (by decide) (p_assign rfl rfl) ?_
    clear hs a
    intro a hs
    exact J1 (decide (k1 < (t12.n : Int))) _ _ (hs.to ⟨rfl, trivial⟩) h
  · replace h := h.2 hb
    rw [hb] at hs
    clear hb
    refine t_no hs rfl rfl (by decide) ?_
    clear hs a
    intro a hs
    refine t_no hs rfl rfl (by decide) ?_
    clear hs a
    intro a hs
    refine t_no hs rfl rfl (by decide) ?_
    clear hs a
    intro a hs
    refine t_no hs rfl rfl (by decide) ?_
    clear hs a
    intro a hs
    refine t_no hs rfl rfl (by decide) ?_
    clear hs a
    intro a hs
    replace hs := hs.to (τ := [(7, (.bool false)), (8, undef), (12, undef)]) ⟨rfl, rfl, rfl, trivial⟩
    refine t_no hs rfl rfl (by decide) ?_
    clear hs a
    intro a hs
    refine t_no hs rfl rfl (by decide) ?_
    clear hs a
    intro a hs
    refine t_pure hs rfl rfl (by decide) (p_pick_f rfl rfl rfl) ?_
    clear hs a
    intro a hs
    refine t_pure hs rfl rfl (by decide) (p_assign rfl rfl) ?_
    clear hs a
    intro a hs
    exact J1 false _ _ (hs.to ⟨rfl, trivial⟩) h
def ref20_Net_Send.s1 (Q : Bool → K)   : K :=
  Q true
def ref20_Net_Send (n0 : (Option Addr)) (p1 : (Array Value)) (Q : Bool → K) : K :=
  New 38 p1 fun p3 =>
  Nn n0 fun t6 =>
  Ld t6 Sl.val fun t8 =>
  Ite (decide ((4000 : Int) ≤ (t8.n : Int)))
    (Q false)
    (Dr <| WithS fun S =>
    LdS S t6 Sl.val fun t16 =>
    LdNS S p3 7 fun t18 =>
    All [
      (New 38 #[] fun t12 =>
      Sv S <|
      All [
        (Do Try.prog (Builtin.append_ #[31, 31] 31 #[(Sl.val (Sl.mk (some t12) 0 0)), (Sl.val t16)]) Sl.val fun t17 =>
        Sv S <|
        Bld #[(.int .i64 0), (.int .i64 0), (.int .u64 0), (.int .u64 0), (.int .u64 0), (.int .u64 0), (Sl.val ⟨none, 0, 0⟩)] (fun i => some (i * 7, 7)) [(0, (.agg t18))] fun ct19 =>
        New 38 ct19 fun t19 =>
        Sv S <|
        Do Try.prog (Builtin.append_ #[31, 31] 31 #[(Sl.val t17), (Sl.val (Sl.mk (some t19) 1 1))]) Sl.val fun t20 =>
        St t6 (Sl.val t20) <|
        ref20_Net_Send.s1 Q),
        (Bld #[(.int .i64 0), (.int .i64 0), (.int .u64 0), (.int .u64 0), (.int .u64 0), (.int .u64 0), (Sl.val ⟨none, 0, 0⟩)] (fun i => some (i * 7, 7)) [(0, (.agg t18))] fun ct19 =>
        New 38 ct19 fun t19 =>
        Sv S <|
        Do Try.prog (Builtin.append_ #[31, 31] 31 #[(Sl.val (Sl.mk (some t12) 0 0)), (Sl.val t16)]) Sl.val fun t17 =>
        Sv S <|
        Do Try.prog (Builtin.append_ #[31, 31] 31 #[(Sl.val t17), (Sl.val (Sl.mk (some t19) 1 1))]) Sl.val fun t20 =>
        St t6 (Sl.val t20) <|
        ref20_Net_Send.s1 Q)
        ]),
      (Bld #[(.int .i64 0), (.int .i64 0), (.int .u64 0), (.int .u64 0), (.int .u64 0), (.int .u64 0), (Sl.val ⟨none, 0, 0⟩)] (fun i => some (i * 7, 7)) [(0, (.agg t18))] fun ct19 =>
      New 38 ct19 fun t19 =>
      Sv S <|
      New 38 #[] fun t12 =>
      Sv S <|
      Do Try.prog (Builtin.append_ #[31, 31] 31 #[(Sl.val (Sl.mk (some t12) 0 0)), (Sl.val t16)]) Sl.val fun t17 =>
      Sv S <|
      Do Try.prog (Builtin.append_ #[31, 31] 31 #[(Sl.val t17), (Sl.val (Sl.mk (some t19) 1 1))]) Sl.val fun t20 =>
      St t6 (Sl.val t20) <|
      ref20_Net_Send.s1 Q)
      ])
theorem ref20_Net_Send_ok (n0 : (Option Addr)) (p1 : (Array Value)) (Q : Bool → K) (w : World) (h : ref20_Net_Send n0 p1 Q w) : ref20_Net_Send.call n0 p1 Q w := by
  unfold ref20_Net_Send.call CallF
  refine f_start (args := [(.pointer n0), (.agg p1)]) Try.func27 rfl (Nat.le_of_ble_eq_true rfl) ?_
  intro a hs
  unfold ref20_Net_Send at h
  refine wp_seq_k fun K1 hK1 => ?_
  refine wp_region_lit ?_
  obtain ⟨p3, w1, ha, hw, h⟩ := h
  refine t_eff hs rfl rfl (by decide) (e_box rfl rfl rfl ha hw) ?_
  clear hs a ha hw
  intro a hs
  refine t_pure hs rfl rfl (by decide) (p_assign rfl rfl) ?_
  clear hs a
  intro a hs
  refine hK1 _ _ ?_
  refine wp_seq_k fun K2 hK2 => ?_
  refine wp_seq_k fun K3 hK3 => ?_
  refine wp_region_lit ?_
  refine t_pure hs rfl rfl (by decide) (p_move rfl rfl) ?_
  clear hs a
  intro a hs
  obtain ⟨t6, rfl, h⟩ := h
  refine t_pure hs rfl rfl (by decide) (p_nil rfl rfl) ?_
  clear hs a
  intro a hs
  refine t_pure hs rfl rfl (by decide) (p_fieldAddr0 rfl rfl ft_50_0) ?_
  clear hs a
  intro a hs
  obtain ⟨t8, hv, h⟩ := h
  refine t_eff hs rfl rfl (by decide) (e_load rfl rfl ct_31 hv) ?_
  clear hs a hv
  intro a hs
  refine t_pure hs rfl rfl (by decide) (p_len rfl rfl sl_31) ?_
  clear hs a
  intro a hs
  refine t_pure hs rfl rfl (by decide) (p_ge rfl rfl rfl) ?_
  clear hs a
  intro a hs
  refine hK3 _ _ ?_
  refine c_cond hs rfl (fun hb => ?_) (fun hb => ?_)
  · replace h := h.1 hb
    clear hb
    refine wp_seq_k fun K4 hK4 => ?_
    refine wp_region_lit ?_
    refine t_pure hs rfl rfl (by decide) (p_assign rfl rfl) ?_
    clear hs a
    intro a hs
    refine hK4 _ _ ?_
    refine wp_ret ?_
    refine f_ret (fn := Try.f27) hs (fun a hs => r_one hs rfl (rfl)) ⟨false, rfl, h⟩
  · replace h := h.2 hb
    clear hb
    refine wp_skip ?_
    refine hK2 _ _ ?_
    refine wp_seq_k fun K5 hK5 => ?_
    have J1 : ∀ (a : Act) (w : World), Slots a 23 [] → ref20_Net_Send.s1 Q w → K5 a w := by
      clear h hs
      intro a w hs h
      refine hK5 _ _ ?_
      unfold ref20_Net_Send.s1 at h
      refine wp_seq_k fun K6 hK6 => ?_
      refine wp_region_lit ?_
      refine t_pure hs rfl rfl (by decide) (p_assign rfl rfl) ?_
      clear hs a
      intro a hs
      refine hK6 _ _ ?_
      refine wp_ret ?_
      refine f_ret (fn := Try.f27) hs (fun a hs => r_one hs rfl (rfl)) ⟨true, rfl, h⟩
    clear hK5
    obtain ⟨w1, hw1, h⟩ := h
    obtain ⟨S, hS, h⟩ := h
    subst hw1
    refine d_start (S := S) (ds := [9, 12]) #[false, false, false, false, false, false, false, false, false, false, false, false, false] mixed rfl rfl ?_
    refine d_pure hs #[true, false, false, false, false, false, false, false, false, false, false, false, false] (i := 0) rfl rfl rfl (by decide) (by kernel_rfl) (tight_body (P := Try.prog) (fn := Try.f27)) (p_move rfl rfl) ?_
    clear hs a
    intro a hs
    refine d_pure hs #[true, false, true, false, false, false, false, false, false, false, false, false, false] (i := 2) rfl rfl rfl (by decide) (by kernel_rfl) (tight_body (P := Try.prog) (fn := Try.f27)) (p_move rfl rfl) ?_
    clear hs a
    intro a hs
    refine d_pure hs #[true, false, true, true, false, false, false, false, false, false, false, false, false] (i := 3) rfl rfl rfl (by decide) (by kernel_rfl) (tight_body (P := Try.prog) (fn := Try.f27)) (p_nil rfl rfl) ?_
    clear hs a
    intro a hs
    refine d_pure hs #[true, false, true, true, true, false, false, false, false, false, false, false, false] (i := 4) rfl rfl rfl (by decide) (by kernel_rfl) (tight_body (P := Try.prog) (fn := Try.f27)) (p_fieldAddr0 rfl rfl ft_50_0) ?_
    clear hs a
    intro a hs
    obtain ⟨t16, hv, h⟩ := h
    refine d_read hs #[true, false, true, true, true, true, false, false, false, false, false, false, false] (i := 5) rfl rfl rfl (by decide) (by kernel_rfl) (by kernel_rfl) (tight_body (P := Try.prog) (fn := Try.f27)) hS (fun w h' => e_load rfl rfl ct_31 (hv w h')) ?_
    clear hs a hv
    intro a hs
    obtain ⟨t18, hn, hv, h⟩ := h
    refine d_read hs #[true, false, true, true, true, true, false, true, false, false, false, false, false] (i := 7) rfl rfl rfl (by decide) (by kernel_rfl) (by kernel_rfl) (tight_body (P := Try.prog) (fn := Try.f27)) hS (fun w h' => e_loadN rfl rfl at_38 hn (hv w h')) ?_
    clear hs a hn hv
    intro a hs
    refine d_all [1, 8] (by kernel_rfl) (by decide) ?_
    refine AllS.cons ?_ ?_
    · replace h := h 0 _ rfl
      obtain ⟨t12, w1, ha, hw, h⟩ := h
      obtain ⟨hS, h⟩ := h
      refine d_eff hs #[true, true, true, true, true, true, false, true, false, false, false, false, false] (i := 1) rfl rfl rfl (by decide) rfl (e_buildSlice (z := #[]) (cs := #[]) rfl sl_31 zt_38 (by decide) rfl rz_38_0 (by rfl) ha hw) (fun _ _ => hS) ?_
      clear hs a ha hw
      intro a hs
      refine d_all [6, 8] (by kernel_rfl) (by decide) ?_
      refine AllS.cons ?_ ?_
      · replace h := h 0 _ rfl
        obtain ⟨t17, w1, hd, h⟩ := h
        obtain ⟨hS, h⟩ := h
        refine d_eff hs #[true, true, true, true, true, true, true, true, false, false, false, false, false] (i := 6) rfl rfl rfl (by decide) rfl (e_append rfl rfl rfl rfl hd) (fun _ _ => hS) ?_
        clear hs a hd
        intro a hs
        replace hs := hs.to (τ := [(11, (.pointer (some t6))), (17, (Sl.val t17)), (18, (.agg t18))]) ⟨rfl, rfl, rfl, trivial⟩
        refine d_all [8] (by kernel_rfl) (by decide) ?_
        refine AllS.cons ?_ AllS.nil
        obtain ⟨ct19, hb, t19, w1, ha, hw, h⟩ := h
        obtain ⟨hS, h⟩ := h
        refine d_eff hs #[true, true, true, true, true, true, true, true, true, false, false, false, false] (i := 8) rfl rfl rfl (by decide) rfl (e_buildSlice (z := #[(.int .i64 0), (.int .i64 0), (.int .u64 0), (.int .u64 0), (.int .u64 0), (.int .u64 0), (Sl.val ⟨none, 0, 0⟩)]) rfl sl_31 zt_38 (by decide) rfl rz_38_1 hb ha hw) (fun _ _ => hS) ?_
        clear hs a hb ha hw
        intro a hs
        refine d_all [9] (by kernel_rfl) (by decide) ?_
        refine AllS.cons ?_ AllS.nil
        obtain ⟨t20, w1, hd, h⟩ := h
        refine d_eff hs #[true, true, true, true, true, true, true, true, true, true, false, false, false] (i := 9) rfl rfl rfl (by decide) rfl (e_append rfl rfl rfl rfl hd) (fun hn => (hn (by decide)).elim) ?_
        clear hs a hd
        intro a hs
        refine d_pure hs #[true, true, true, true, true, true, true, true, true, true, true, false, false] (i := 10) rfl rfl rfl (by decide) (by kernel_rfl) (tight_body (P := Try.prog) (fn := Try.f27)) (p_nil rfl rfl) ?_
        clear hs a
        intro a hs
        refine d_pure hs #[true, true, true, true, true, true, true, true, true, true, true, true, false] (i := 11) rfl rfl rfl (by decide) (by kernel_rfl) (tight_body (P := Try.prog) (fn := Try.f27)) (p_fieldAddr0 rfl rfl ft_50_0) ?_
        clear hs a
        intro a hs
        refine d_all [12] (by kernel_rfl) (by decide) ?_
        refine AllS.cons ?_ AllS.nil
        obtain ⟨w1, hw, hc, hf, hv, h⟩ := h
        refine d_skip hs #[true, true, true, true, true, true, true, true, true, true, true, true, true] (i := 12) rfl rfl rfl rfl (e_store rfl rfl rfl sz_31 hw hc hf hv) (fun hn => (hn (by decide)).elim) ?_
        clear hs a hw hc hf hv
        intro a hs
        refine d_done (by kernel_rfl) ?_ _
        clear hS
        exact J1 _ _ (hs.to trivial) h
      refine AllS.cons ?_ AllS.nil
      replace h := h 1 _ rfl
      obtain ⟨ct19, hb, t19, w1, ha, hw, h⟩ := h
      obtain ⟨hS, h⟩ := h
      refine d_eff hs #[true, true, true, true, true, true, false, true, true, false, false, false, false] (i := 8) rfl rfl rfl (by decide) rfl (e_buildSlice (z := #[(.int .i64 0), (.int .i64 0), (.int .u64 0), (.int .u64 0), (.int .u64 0), (.int .u64 0), (Sl.val ⟨none, 0, 0⟩)]) rfl sl_31 zt_38 (by decide) rfl rz_38_1 hb ha hw) (fun _ _ => hS) ?_
      clear hs a hb ha hw
      intro a hs
      replace hs := hs.to (τ := [(11, (.pointer (some t6))), (12, (Sl.val (Sl.mk (some t12) 0 0))), (16, (Sl.val t16)), (19, (Sl.val (Sl.mk (some t19) 1 1)))]) ⟨rfl, rfl, rfl, rfl, trivial⟩
      refine d_all [6] (by kernel_rfl) (by decide) ?_
      refine AllS.cons ?_ AllS.nil
      obtain ⟨t17, w1, hd, h⟩ := h
      obtain ⟨hS, h⟩ := h
      refine d_eff hs #[true, true, true, true, true, true, true, true, true, false, false, false, false] (i := 6) rfl rfl rfl (by decide) rfl (e_append rfl rfl rfl rfl hd) (fun _ _ => hS) ?_
      clear hs a hd
      intro a hs
      refine d_all [9] (by kernel_rfl) (by decide) ?_
      refine AllS.cons ?_ AllS.nil
      obtain ⟨t20, w1, hd, h⟩ := h
      refine d_eff hs #[true, true, true, true, true, true, true, true, true, true, false, false, false] (i := 9) rfl rfl rfl (by decide) rfl (e_append rfl rfl rfl rfl hd) (fun hn => (hn (by decide)).elim) ?_
      clear hs a hd
      intro a hs
      refine d_pure hs #[true, true, true, true, true, true, true, true, true, true, true, false, false] (i := 10) rfl rfl rfl (by decide) (by kernel_rfl) (tight_body (P := Try.prog) (fn := Try.f27)) (p_nil rfl rfl) ?_
      clear hs a
      intro a hs
      refine d_pure hs #[true, true, true, true, true, true, true, true, true, true, true, true, false] (i := 11) rfl rfl rfl (by decide) (by kernel_rfl) (tight_body (P := Try.prog) (fn := Try.f27)) (p_fieldAddr0 rfl rfl ft_50_0) ?_
      clear hs a
      intro a hs
      refine d_all [12] (by kernel_rfl) (by decide) ?_
      refine AllS.cons ?_ AllS.nil
      obtain ⟨w1, hw, hc, hf, hv, h⟩ := h
      refine d_skip hs #[true, true, true, true, true, true, true, true, true, true, true, true, true] (i := 12) rfl rfl rfl rfl (e_store rfl rfl rfl sz_31 hw hc hf hv) (fun hn => (hn (by decide)).elim) ?_
      clear hs a hw hc hf hv
      intro a hs
      refine d_done (by kernel_rfl) ?_ _
      clear hS
      exact J1 _ _ (hs.to trivial) h
    refine AllS.cons ?_ AllS.nil
    replace h := h 1 _ rfl
    obtain ⟨ct19, hb, t19, w1, ha, hw, h⟩ := h
    obtain ⟨hS, h⟩ := h
    refine d_eff hs #[true, false, true, true, true, true, false, true, true, false, false, false, false] (i := 8) rfl rfl rfl (by decide) rfl (e_buildSlice (z := #[(.int .i64 0), (.int .i64 0), (.int .u64 0), (.int .u64 0), (.int .u64 0), (.int .u64 0), (Sl.val ⟨none, 0, 0⟩)]) rfl sl_31 zt_38 (by decide) rfl rz_38_1 hb ha hw) (fun _ _ => hS) ?_
    clear hs a hb ha hw
    intro a hs
    refine d_all [1] (by kernel_rfl) (by decide) ?_
    refine AllS.cons ?_ AllS.nil
    obtain ⟨t12, w1, ha, hw, h⟩ := h
    obtain ⟨hS, h⟩ := h
    refine d_eff hs #[true, true, true, true, true, true, false, true, true, false, false, false, false] (i := 1) rfl rfl rfl (by decide) rfl (e_buildSlice (z := #[]) (cs := #[]) rfl sl_31 zt_38 (by decide) rfl rz_38_0 (by rfl) ha hw) (fun _ _ => hS) ?_
    clear hs a ha hw
    intro a hs
    replace hs := hs.to (τ := [(11, (.pointer (some t6))), (12, (Sl.val (Sl.mk (some t12) 0 0))), (16, (Sl.val t16)), (19, (Sl.val (Sl.mk (some t19) 1 1)))]) ⟨rfl, rfl, rfl, rfl, trivial⟩
    refine d_all [6] (by kernel_rfl) (by decide) ?_
    refine AllS.cons ?_ AllS.nil
    obtain ⟨t17, w1, hd, h⟩ := h
    obtain ⟨hS, h⟩ := h
    refine d_eff hs #[true, true, true, true, true, true, true, true, true, false, false, false, false] (i := 6) rfl rfl rfl (by decide) rfl (e_append rfl rfl rfl rfl hd) (fun _ _ => hS) ?_
    clear hs a hd
    intro a hs
    refine d_all [9] (by kernel_rfl) (by decide) ?_
    refine AllS.cons ?_ AllS.nil
    obtain ⟨t20, w1, hd, h⟩ := h
    refine d_eff hs #[true, true, true, true, true, true, true, true, true, true, false, false, false] (i := 9) rfl rfl rfl (by decide) rfl (e_append rfl rfl rfl rfl hd) (fun hn => (hn (by decide)).elim) ?_
    clear hs a hd
    intro a hs
    refine d_pure hs #[true, true, true, true, true, true, true, true, true, true, true, false, false] (i := 10) rfl rfl rfl (by decide) (by kernel_rfl) (tight_body (P := Try.prog) (fn := Try.f27)) (p_nil rfl rfl) ?_
    clear hs a
    intro a hs
    refine d_pure hs #[true, true, true, true, true, true, true, true, true, true, true, true, false] (i := 11) rfl rfl rfl (by decide) (by kernel_rfl) (tight_body (P := Try.prog) (fn := Try.f27)) (p_fieldAddr0 rfl rfl ft_50_0) ?_
    clear hs a
    intro a hs
    refine d_all [12] (by kernel_rfl) (by decide) ?_
    refine AllS.cons ?_ AllS.nil
    obtain ⟨w1, hw, hc, hf, hv, h⟩ := h
    refine d_skip hs #[true, true, true, true, true, true, true, true, true, true, true, true, true] (i := 12) rfl rfl rfl rfl (e_store rfl rfl rfl sz_31 hw hc hf hv) (fun hn => (hn (by decide)).elim) ?_
    clear hs a hw hc hf hv
    intro a hs
    refine d_done (by kernel_rfl) ?_ _
    clear hS
    exact J1 _ _ (hs.to trivial) h
end Go.Proofs.Ytilejcnbacmdnaa
