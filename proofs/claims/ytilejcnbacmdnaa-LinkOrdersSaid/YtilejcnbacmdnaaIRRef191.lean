/- Plain forms of functions, and that their code comes to them (package ref19). -/
import Derived.Test.YtilejcnbacmdnaaCalls
namespace Go.Proofs.Ytilejcnbacmdnaa
open Go Go.Sep
set_option linter.unusedVariables false
set_option linter.unusedSimpArgs false
set_option maxRecDepth 100000
set_option maxHeartbeats 4000000
def ref19_SamePackets.s2 (Q : Bool → K) (X1 : Int → K) (a0_2 : Sl) (b1_2 : Sl) (i5_2 : Int) (t81_2 : Bool) : K :=
  Ite t81_2
    (Q false)
    (Ar (IntKind.wrap .i64 (i5_2 + 1)) fun t16 =>
    X1 t16)
def ref19_SamePackets.b1 (Q : Bool → K)  (X1 : Int → K) (a0_1 : Sl) (b1_1 : Sl) (i5_1 : Int) : K :=
  Ite (decide (i5_1 < (a0_1.n : Int)))
    (Dr <|
    Idx a0_1 i5_1 5 fun t19 =>
    Ld t19 (Value.int .u64) fun t21 =>
    Idx b1_1 i5_1 5 fun t24 =>
    Ld t24 (Value.int .u64) fun t26 =>
    Ite (decide (t21 ≠ t26))
      (ref19_SamePackets.s2 Q X1 a0_1 b1_1 i5_1 true)
      (Idx a0_1 i5_1 5 fun t31 =>
      Ld (t31.add 1) (Value.int .u64) fun t33 =>
      Idx b1_1 i5_1 5 fun t36 =>
      Ld (t36.add 1) (Value.int .u64) fun t38 =>
      Ite (decide (t33 ≠ t38))
        (ref19_SamePackets.s2 Q X1 a0_1 b1_1 i5_1 true)
        (Idx a0_1 i5_1 5 fun t44 =>
        Ld (t44.add 2) (Value.int .u64) fun t46 =>
        Idx b1_1 i5_1 5 fun t49 =>
        Ld (t49.add 2) (Value.int .u64) fun t51 =>
        Ite (decide (t46 ≠ t51))
          (ref19_SamePackets.s2 Q X1 a0_1 b1_1 i5_1 true)
          (Idx a0_1 i5_1 5 fun t57 =>
          Ld (t57.add 3) (Value.int .u64) fun t59 =>
          Idx b1_1 i5_1 5 fun t62 =>
          Ld (t62.add 3) (Value.int .u64) fun t64 =>
          Ite (decide (t59 ≠ t64))
            (ref19_SamePackets.s2 Q X1 a0_1 b1_1 i5_1 true)
            (Idx a0_1 i5_1 5 fun t70 =>
            Ld (t70.add 4) Sl.val fun t72 =>
            Rd Try.prog (convert 22 9 (Sl.val t72)) Value.string fun t73 =>
            Idx b1_1 i5_1 5 fun t76 =>
            Ld (t76.add 4) Sl.val fun t78 =>
            Rd Try.prog (convert 22 9 (Sl.val t78)) Value.string fun t79 =>
            ref19_SamePackets.s2 Q X1 a0_1 b1_1 i5_1 (!(t73.toList == t79.toList)))))))
    (Q true)
def ref19_SamePackets (a0 : Sl) (b1 : Sl) (Q : Bool → K) : K :=
  Ite (decide ((a0.n : Int) ≠ (b1.n : Int)))
    (Q false)
    (LoopK (α := Int) (fun X x => ref19_SamePackets.b1 Q X a0 b1 x) 0)
theorem ref19_SamePackets_ok (a0 : Sl) (b1 : Sl) (Q : Bool → K) (w : World) (h : ref19_SamePackets a0 b1 Q w) : ref19_SamePackets.call a0 b1 Q w := by
  unfold ref19_SamePackets.call CallF
  refine f_start (args := [(Sl.val a0), (Sl.val b1)]) Try.func43 rfl (Nat.le_of_ble_eq_true rfl) ?_
  intro a hs
  unfold ref19_SamePackets at h
  refine wp_seq_k fun K1 hK1 => ?_
  refine wp_region_lit ?_
  refine t_pure hs rfl rfl (by decide) (p_assign rfl rfl) ?_
  clear hs a
  intro a hs
  refine hK1 _ _ ?_
  refine wp_seq_k fun K2 hK2 => ?_
  refine wp_seq_k fun K3 hK3 => ?_
  refine wp_region_lit ?_
  refine t_pure hs rfl rfl (by decide) (p_move rfl rfl) ?_
  clear hs a
  intro a hs
  refine t_pure hs rfl rfl (by decide) (p_len rfl rfl sl_60) ?_
  clear hs a
  intro a hs
  refine t_pure hs rfl rfl (by decide) (p_move rfl rfl) ?_
  clear hs a
  intro a hs
  refine t_pure hs rfl rfl (by decide) (p_len rfl rfl sl_60) ?_
  clear hs a
  intro a hs
  refine t_pure hs rfl rfl (by decide) (p_ne rfl rfl rfl) ?_
  clear hs a
  intro a hs
  refine hK3 _ _ ?_
  refine c_cond hs rfl (fun hb => ?_) (fun hb => ?_)
  · replace h := h.1 hb
    clear hb
    refine wp_seq_k fun K4 hK4 => ?_
    refine wp_region_lit ?_
    refine t_pure hs rfl rfl (by decide) (p_assign rfl rfl) ?_
    clear hs a
    intro a hs
    refine hK4 _ _ ?_
    refine wp_ret ?_
    refine f_ret (fn := Try.f43) hs (fun a hs => r_one hs rfl (rfl)) ⟨false, rfl, h⟩
  · replace h := h.2 hb
    clear hb
    refine wp_skip ?_
    refine hK2 _ _ ?_
    refine wp_seq_k fun K5 hK5 => ?_
    refine wp_seq_k fun K6 hK6 => ?_
    refine wp_region_lit ?_
    refine t_pure hs rfl rfl (by decide) (p_assign rfl rfl) ?_
    clear hs a
    intro a hs
    refine hK6 _ _ ?_
    refine wp_block ?_
    obtain ⟨I1, μ1, h0, hr⟩ := h
    refine c_loop (α := Int) I1 μ1 (fun x a => Slots a 82 [(0, (Sl.val a0)), (1, (Sl.val b1)), (5, (.int .i64 x))]) 0 h0 (hs.to ⟨rfl, rfl, rfl, trivial⟩) ?_
    clear h0 hs a
    intro i5_1 a w hI hs
    have h : ref19_SamePackets.b1 Q (fun i5_1n w' => I1 i5_1n w' ∧ μ1 i5_1n w' < μ1 i5_1 w) a0 b1 i5_1 w := hr i5_1 w hI
    clear hr hI
    generalize hX1 : (fun i5_1n w' => I1 i5_1n w' ∧ μ1 i5_1n w' < μ1 i5_1 w) = X1 at h
    unfold ref19_SamePackets.b1 at h
    replace hs : Slots a 82 [(0, (Sl.val a0)), (1, (Sl.val b1)), (5, (.int .i64 i5_1))] := hs
    refine wp_seq_k fun K7 hK7 => ?_
    refine wp_seq_k fun K8 hK8 => ?_
    refine wp_region_lit ?_
    refine t_pure hs rfl rfl (by decide) (p_move rfl rfl) ?_
    clear hs a
    intro a hs
    refine t_pure hs rfl rfl (by decide) (p_move rfl rfl) ?_
    clear hs a
    intro a hs
    refine t_pure hs rfl rfl (by decide) (p_len rfl rfl sl_60) ?_
    clear hs a
    intro a hs
    refine t_pure hs rfl rfl (by decide) (p_lt rfl rfl rfl) ?_
    clear hs a
    intro a hs
    refine hK8 _ _ ?_
    refine c_cond hs rfl (fun hb => ?_) (fun hb => ?_)
    · replace h := h.1 hb
      clear hb
      refine wp_skip ?_
      refine hK7 _ _ ?_
      refine wp_seq_k fun K9 hK9 => ?_
      refine wp_block ?_
      refine wp_seq_k fun K10 hK10 => ?_
      have J2 : ∀ (t81_2 : Bool) (a : Act) (w : World), Slots a 82 [(0, (Sl.val a0)), (1, (Sl.val b1)), (5, (.int .i64 i5_1)), (81, (.bool t81_2))] → ref19_SamePackets.s2 Q X1 a0 b1 i5_1 t81_2 w → K10 a w := by
        clear h hs
        intro t81_2 a w hs h
        refine hK10 _ _ ?_
        unfold ref19_SamePackets.s2 at h
        refine c_cond hs rfl (fun hb => ?_) (fun hb => ?_)
        · replace h := h.1 hb
          clear hb
          refine wp_seq_k fun K11 hK11 => ?_
          refine wp_region_lit ?_
          refine t_pure hs rfl rfl (by decide) (p_assign rfl rfl) ?_
          clear hs a
          intro a hs
          refine hK11 _ _ ?_
          refine wp_ret ?_
          refine f_ret (fn := Try.f43) hs (fun a hs => r_one hs rfl (rfl)) ⟨false, rfl, h⟩
        · replace h := h.2 hb
          clear hb
          refine wp_skip ?_
          refine hK9 _ _ ?_
          refine wp_region_lit ?_
          refine t_pure hs rfl rfl (by decide) (p_move rfl rfl) ?_
          clear hs a
          intro a hs
          obtain ⟨t16, he, h⟩ := h
          refine t_pure hs rfl rfl (by decide) (Pure.int he (p_add rfl rfl rfl)) ?_
          clear hs a he
          intro a hs
          refine t_pure hs rfl rfl (by decide) (p_assign rfl rfl) ?_
          clear hs a
          intro a hs
          rw [← hX1] at h
          exact ⟨t16, hs.to ⟨rfl, rfl, rfl, trivial⟩, h⟩
      clear hK10
      obtain ⟨w1, hw1, h⟩ := h
      refine s_start mixed (by kernel_rfl) hw1 ?_
      clear hw1
      refine s_pure hs rfl rfl (by decide) (p_move rfl rfl) ?_
      clear hs a
      intro a hs
      refine s_pure hs rfl rfl (by decide) (p_move rfl rfl) ?_
      clear hs a
      intro a hs
      obtain ⟨qt19, t19, ha, h0, h1, he, h⟩ := h
      refine s_pure hs rfl rfl (by decide) (Pure.adr he (p_idx rfl rfl rfl sl_60 ha h0 h1)) ?_
      clear hs a ha h0 h1 he
      intro a hs
      refine s_pure hs rfl rfl (by decide) (p_fieldAddr0 rfl rfl ft_36_0) ?_
      clear hs a
      intro a hs
      obtain ⟨t21, hv, h⟩ := h
      refine s_eff hs rfl rfl (by decide) (e_load rfl rfl ct_23 hv) ?_
      clear hs a hv
      intro a hs
      refine s_pure hs rfl rfl (by decide) (p_move rfl rfl) ?_
      clear hs a
      intro a hs
      refine s_pure hs rfl rfl (by decide) (p_move rfl rfl) ?_
      clear hs a
      intro a hs
      obtain ⟨qt24, t24, ha, h0, h1, he, h⟩ := h
      refine s_pure hs rfl rfl (by decide) (Pure.adr he (p_idx rfl rfl rfl sl_60 ha h0 h1)) ?_
      clear hs a ha h0 h1 he
      intro a hs
      replace hs := hs.to (τ := [(0, (Sl.val a0)), (1, (Sl.val b1)), (5, (.int .i64 i5_1)), (21, (.int .u64 t21)), (24, (.pointer (some t24)))]) ⟨rfl, rfl, rfl, rfl, rfl, trivial⟩
      refine s_pure hs rfl rfl (by decide) (p_fieldAddr0 rfl rfl ft_36_0) ?_
      clear hs a
      intro a hs
      obtain ⟨t26, hv, h⟩ := h
      refine s_eff hs rfl rfl (by decide) (e_load rfl rfl ct_23 hv) ?_
      clear hs a hv
      intro a hs
      refine s_pure hs rfl rfl (by decide) (p_ne rfl rfl rfl) ?_
      clear hs a
      intro a hs
      refine s_pure hs rfl rfl (by decide) (p_move rfl rfl) ?_
      clear hs a
      intro a hs
      refine split_bool (decide (t21 ≠ t26)) (fun hb => ?_) (fun hb => ?_)
      · replace h := h.1 hb
        rw [hb] at hs
        clear hb
        refine s_no hs rfl rfl (by decide) ?_
        clear hs a
        intro a hs
        refine s_no hs rfl rfl (by decide) ?_
        clear hs a
        intro a hs
        refine s_no hs rfl rfl (by decide) ?_
        clear hs a
        intro a hs
        refine s_no hs rfl rfl (by decide) ?_
        clear hs a
        intro a hs
        replace hs := hs.to (τ := [(0, (Sl.val a0)), (1, (Sl.val b1)), (5, (.int .i64 i5_1)), (28, (.bool true)), (32, undef)]) ⟨rfl, rfl, rfl, rfl, rfl, trivial⟩
        refine s_no hs rfl rfl (by decide) ?_
        clear hs a
        intro a hs
        refine s_no hs rfl rfl (by decide) ?_
        clear hs a
        intro a hs
        refine s_no hs rfl rfl (by decide) ?_
        clear hs a
        intro a hs
        refine s_no hs rfl rfl (by decide) ?_
        clear hs a
        intro a hs
        refine s_no hs rfl rfl (by decide) ?_
        clear hs a
        intro a hs
        refine s_no hs rfl rfl (by decide) ?_
        clear hs a
        intro a hs
        refine s_no hs rfl rfl (by decide) ?_
        clear hs a
        intro a hs
        refine s_pure hs rfl rfl (by decide) (p_pick_t rfl rfl rfl) ?_
        clear hs a
        intro a hs
        replace hs := hs.to (τ := [(0, (Sl.val a0)), (1, (Sl.val b1)), (5, (.int .i64 i5_1)), (40, (.bool true))]) ⟨rfl, rfl, rfl, rfl, trivial⟩
        refine s_pure hs rfl rfl (by decide) (p_move rfl rfl) ?_
        clear hs a
        intro a hs
        refine s_no hs rfl rfl (by decide) ?_
        clear hs a
        intro a hs
        refine s_no hs rfl rfl (by decide) ?_
        clear hs a
        intro a hs
        refine s_no hs rfl rfl (by decide) ?_
        clear hs a
        intro a hs
        refine s_no hs rfl rfl (by decide) ?_
        clear hs a
        intro a hs
        refine s_no hs rfl rfl (by decide) ?_
        clear hs a
        intro a hs
        refine s_no hs rfl rfl (by decide) ?_
        clear hs a
        intro a hs
        refine s_no hs rfl rfl (by decide) ?_
        clear hs a
        intro a hs
        replace hs := hs.to (τ := [(0, (Sl.val a0)), (1, (Sl.val b1)), (5, (.int .i64 i5_1)), (41, (.bool true)), (46, undef), (47, undef), (48, undef)]) ⟨rfl, rfl, rfl, rfl, rfl, rfl, rfl, trivial⟩
        refine s_no hs rfl rfl (by decide) ?_
        clear hs a
        intro a hs
        refine s_no hs rfl rfl (by decide) ?_
        clear hs a
        intro a hs
        refine s_no hs rfl rfl (by decide) ?_
        clear hs a
        intro a hs
        refine s_no hs rfl rfl (by decide) ?_
        clear hs a
        intro a hs
        refine s_pure hs rfl rfl (by decide) (p_pick_t rfl rfl rfl) ?_
        clear hs a
        intro a hs
        refine s_pure hs rfl rfl (by decide) (p_move rfl rfl) ?_
        clear hs a
        intro a hs
        refine s_no hs rfl rfl (by decide) ?_
        clear hs a
        intro a hs
        refine s_no hs rfl rfl (by decide) ?_
        clear hs a
        intro a hs
        replace hs := hs.to (τ := [(0, (Sl.val a0)), (1, (Sl.val b1)), (5, (.int .i64 i5_1)), (54, (.bool true)), (55, undef), (56, undef)]) ⟨rfl, rfl, rfl, rfl, rfl, rfl, trivial⟩
        refine s_no hs rfl rfl (by decide) ?_
        clear hs a
        intro a hs
        refine s_no hs rfl rfl (by decide) ?_
        clear hs a
        intro a hs
        refine s_no hs rfl rfl (by decide) ?_
        clear hs a
        intro a hs
        refine s_no hs rfl rfl (by decide) ?_
        clear hs a
        intro a hs
        refine s_no hs rfl rfl (by decide) ?_
        clear hs a
        intro a hs
        refine s_no hs rfl rfl (by decide) ?_
        clear hs a
        intro a hs
        refine s_no hs rfl rfl (by decide) ?_
        clear hs a
        intro a hs
        refine s_no hs rfl rfl (by decide) ?_
        clear hs a
        intro a hs
        replace hs := hs.to (τ := [(0, (Sl.val a0)), (1, (Sl.val b1)), (5, (.int .i64 i5_1)), (54, (.bool true)), (59, undef), (64, undef)]) ⟨rfl, rfl, rfl, rfl, rfl, rfl, trivial⟩
        refine s_no hs rfl rfl (by decide) ?_
        clear hs a
        intro a hs
        refine s_pure hs rfl rfl (by decide) (p_pick_t rfl rfl rfl) ?_
        clear hs a
        intro a hs
        refine s_pure hs rfl rfl (by decide) (p_move rfl rfl) ?_
        clear hs a
        intro a hs
        refine s_no hs rfl rfl (by decide) ?_
        clear hs a
        intro a hs
        refine s_no hs rfl rfl (by decide) ?_
        clear hs a
        intro a hs
        refine s_no hs rfl rfl (by decide) ?_
        clear hs a
        intro a hs
        refine s_no hs rfl rfl (by decide) ?_
        clear hs a
        intro a hs
        refine s_no hs rfl rfl (by decide) ?_
        clear hs a
        intro a hs
        replace hs := hs.to (τ := [(0, (Sl.val a0)), (1, (Sl.val b1)), (5, (.int .i64 i5_1)), (67, (.bool true)), (72, undef)]) ⟨rfl, rfl, rfl, rfl, rfl, trivial⟩
        refine s_no hs rfl rfl (by decide) ?_
        clear hs a
        intro a hs
        refine s_no hs rfl rfl (by decide) ?_
        clear hs a
        intro a hs
        refine s_no hs rfl rfl (by decide) ?_
        clear hs a
        intro a hs
        refine s_no hs rfl rfl (by decide) ?_
        clear hs a
        intro a hs
        refine s_no hs rfl rfl (by decide) ?_
        clear hs a
        intro a hs
        refine s_no hs rfl rfl (by decide) ?_
        clear hs a
        intro a hs
        refine s_no hs rfl rfl (by decide) ?_
        clear hs a
        intro a hs
        refine s_no hs rfl rfl (by decide) ?_
        clear hs a
        intro a hs
        replace hs := hs.to (τ := [(0, (Sl.val a0)), (1, (Sl.val b1)), (5, (.int .i64 i5_1)), (67, (.bool true)), (80, undef)]) ⟨rfl, rfl, rfl, rfl, rfl, trivial⟩
        refine s_pure hs rfl rfl (by decide) (p_pick_t rfl rfl rfl) ?_
        clear hs a
        intro a hs
        exact J2 true _ _ (hs.to ⟨rfl, rfl, rfl, rfl, trivial⟩) h
      · replace h := h.2 hb
        rw [hb] at hs
        clear hb
        refine s_yes hs rfl ?_
        refine s_pure hs rfl rfl (by decide) (p_move rfl rfl) ?_
        clear hs a
        intro a hs
        refine s_yes hs rfl ?_
        refine s_pure hs rfl rfl (by decide) (p_move rfl rfl) ?_
        clear hs a
        intro a hs
        refine s_yes hs rfl ?_
        obtain ⟨qt31, t31, ha, h0, h1, he, h⟩ := h
        refine s_pure hs rfl rfl (by decide) (Pure.adr he (p_idx rfl rfl rfl sl_60 ha h0 h1)) ?_
        clear hs a ha h0 h1 he
        intro a hs
        refine s_yes hs rfl ?_
        refine s_pure hs rfl rfl (by decide) (p_fieldAddr rfl rfl ft_36_1) ?_
        clear hs a
        intro a hs
        replace hs := hs.to (τ := [(0, (Sl.val a0)), (1, (Sl.val b1)), (5, (.int .i64 i5_1)), (28, (.bool false)), (32, (.pointer (some (t31.add 1))))]) ⟨rfl, rfl, rfl, rfl, rfl, trivial⟩
        refine s_yes hs rfl ?_
        obtain ⟨t33, hv, h⟩ := h
        refine s_eff hs rfl rfl (by decide) (e_load rfl rfl ct_23 hv) ?_
        clear hs a hv
        intro a hs
        refine s_yes hs rfl ?_
        refine s_pure hs rfl rfl (by decide) (p_move rfl rfl) ?_
        clear hs a
        intro a hs
        refine s_yes hs rfl ?_
        refine s_pure hs rfl rfl (by decide) (p_move rfl rfl) ?_
        clear hs a
        intro a hs
        refine s_yes hs rfl ?_
        obtain ⟨qt36, t36, ha, h0, h1, he, h⟩ := h
        refine s_pure hs rfl rfl (by decide) (Pure.adr he (p_idx rfl rfl rfl sl_60 ha h0 h1)) ?_
        clear hs a ha h0 h1 he
        intro a hs
        refine s_yes hs rfl ?_
        refine s_pure hs rfl rfl (by decide) (p_fieldAddr rfl rfl ft_36_1) ?_
        clear hs a
        intro a hs
        refine s_yes hs rfl ?_
        obtain ⟨t38, hv, h⟩ := h
        refine s_eff hs rfl rfl (by decide) (e_load rfl rfl ct_23 hv) ?_
        clear hs a hv
        intro a hs
        refine s_yes hs rfl ?_
        refine s_pure hs rfl rfl (by decide) (p_ne rfl rfl rfl) ?_
        clear hs a
        intro a hs
        refine s_pure hs rfl rfl (by decide) (p_pick_f rfl rfl rfl) ?_
        clear hs a
        intro a hs
        replace hs := hs.to (τ := [(0, (Sl.val a0)), (1, (Sl.val b1)), (5, (.int .i64 i5_1)), (40, (.bool (decide (t33 ≠ t38))))]) ⟨rfl, rfl, rfl, rfl, trivial⟩
        refine s_pure hs rfl rfl (by decide) (p_move rfl rfl) ?_
        clear hs a
        intro a hs
        refine split_bool (decide (t33 ≠ t38)) (fun hb => ?_) (fun hb => ?_)
        · replace h := h.1 hb
          rw [hb] at hs
          clear hb
          refine s_no hs rfl rfl (by decide) ?_
          clear hs a
          intro a hs
          refine s_no hs rfl rfl (by decide) ?_
          clear hs a
          intro a hs
          refine s_no hs rfl rfl (by decide) ?_
          clear hs a
          intro a hs
          refine s_no hs rfl rfl (by decide) ?_
          clear hs a
          intro a hs
          refine s_no hs rfl rfl (by decide) ?_
          clear hs a
          intro a hs
          refine s_no hs rfl rfl (by decide) ?_
          clear hs a
          intro a hs
          refine s_no hs rfl rfl (by decide) ?_
          clear hs a
          intro a hs
          replace hs := hs.to (τ := [(0, (Sl.val a0)), (1, (Sl.val b1)), (5, (.int .i64 i5_1)), (41, (.bool true)), (46, undef), (47, undef), (48, undef)]) ⟨rfl, rfl, rfl, rfl, rfl, rfl, rfl, trivial⟩
          refine s_no hs rfl rfl (by decide) ?_
          clear hs a
          intro a hs
          refine s_no hs rfl rfl (by decide) ?_
          clear hs a
          intro a hs
          refine s_no hs rfl rfl (by decide) ?_
          clear hs a
          intro a hs
          refine s_no hs rfl rfl (by decide) ?_
          clear hs a
          intro a hs
          refine s_pure hs rfl rfl (by decide) (p_pick_t rfl rfl rfl) ?_
          clear hs a
          intro a hs
          refine s_pure hs rfl rfl (by decide) (p_move rfl rfl) ?_
          clear hs a
          intro a hs
          refine s_no hs rfl rfl (by decide) ?_
          clear hs a
          intro a hs
          refine s_no hs rfl rfl (by decide) ?_
          clear hs a
          intro a hs
          replace hs := hs.to (τ := [(0, (Sl.val a0)), (1, (Sl.val b1)), (5, (.int .i64 i5_1)), (54, (.bool true)), (55, undef), (56, undef)]) ⟨rfl, rfl, rfl, rfl, rfl, rfl, trivial⟩
          refine s_no hs rfl rfl (by decide) ?_
          clear hs a
          intro a hs
          refine s_no hs rfl rfl (by decide) ?_
          clear hs a
          intro a hs
          refine s_no hs rfl rfl (by decide) ?_
          clear hs a
          intro a hs
          refine s_no hs rfl rfl (by decide) ?_
          clear hs a
          intro a hs
          refine s_no hs rfl rfl (by decide) ?_
          clear hs a
          intro a hs
          refine s_no hs rfl rfl (by decide) ?_
          clear hs a
          intro a hs
          refine s_no hs rfl rfl (by decide) ?_
          clear hs a
          intro a hs
          refine s_no hs rfl rfl (by decide) ?_
          clear hs a
          intro a hs
          replace hs := hs.to (τ := [(0, (Sl.val a0)), (1, (Sl.val b1)), (5, (.int .i64 i5_1)), (54, (.bool true)), (59, undef), (64, undef)]) ⟨rfl, rfl, rfl, rfl, rfl, rfl, trivial⟩
          refine s_no hs rfl rfl (by decide) ?_
          clear hs a
          intro a hs
          refine s_pure hs rfl rfl (by decide) (p_pick_t rfl rfl rfl) ?_
          clear hs a
          intro a hs
          refine s_pure hs rfl rfl (by decide) (p_move rfl rfl) ?_
          clear hs a
          intro a hs
          refine s_no hs rfl rfl (by decide) ?_
          clear hs a
          intro a hs
          refine s_no hs rfl rfl (by decide) ?_
          clear hs a
          intro a hs
          refine s_no hs rfl rfl (by decide) ?_
          clear hs a
          intro a hs
          refine s_no hs rfl rfl (by decide) ?_
          clear hs a
          intro a hs
          refine s_no hs rfl rfl (by decide) ?_
          clear hs a
          intro a hs
          replace hs := hs.to (τ := [(0, (Sl.val a0)), (1, (Sl.val b1)), (5, (.int .i64 i5_1)), (67, (.bool true)), (72, undef)]) ⟨rfl, rfl, rfl, rfl, rfl, trivial⟩
          refine s_no hs rfl rfl (by decide) ?_
          clear hs a
          intro a hs
          refine s_no hs rfl rfl (by decide) ?_
          clear hs a
          intro a hs
          refine s_no hs rfl rfl (by decide) ?_
          clear hs a
          intro a hs
          refine s_no hs rfl rfl (by decide) ?_
          clear hs a
          intro a hs
          refine s_no hs rfl rfl (by decide) ?_
          clear hs a
          intro a hs
          refine s_no hs rfl rfl (by decide) ?_
          clear hs a
          intro a hs
          refine s_no hs rfl rfl (by decide) ?_
          clear hs a
          intro a hs
          refine s_no hs rfl rfl (by decide) ?_
          clear hs a
          intro a hs
          replace hs := hs.to (τ := [(0, (Sl.val a0)), (1, (Sl.val b1)), (5, (.int .i64 i5_1)), (67, (.bool true)), (80, undef)]) ⟨rfl, rfl, rfl, rfl, rfl, trivial⟩
          refine s_pure hs rfl rfl (by decide) (p_pick_t rfl rfl rfl) ?_
          clear hs a
          intro a hs
          exact J2 true _ _ (hs.to ⟨rfl, rfl, rfl, rfl, trivial⟩) h
        · replace h := h.2 hb
          rw [hb] at hs
          clear hb
          refine s_yes hs rfl ?_
          refine s_pure hs rfl rfl (by decide) (p_move rfl rfl) ?_
          clear hs a
          intro a hs
          refine s_yes hs rfl ?_
          refine s_pure hs rfl rfl (by decide) (p_move rfl rfl) ?_
          clear hs a
          intro a hs
          refine s_yes hs rfl ?_
          obtain ⟨qt44, t44, ha, h0, h1, he, h⟩ := h
          refine s_pure hs rfl rfl (by decide) (Pure.adr he (p_idx rfl rfl rfl sl_60 ha h0 h1)) ?_
          clear hs a ha h0 h1 he
          intro a hs
          refine s_yes hs rfl ?_
          refine s_pure hs rfl rfl (by decide) (p_fieldAddr rfl rfl ft_36_2) ?_
          clear hs a
          intro a hs
          refine s_yes hs rfl ?_
          obtain ⟨t46, hv, h⟩ := h
          refine s_eff hs rfl rfl (by decide) (e_load rfl rfl ct_23 hv) ?_
          clear hs a hv
          intro a hs
          refine s_yes hs rfl ?_
          refine s_pure hs rfl rfl (by decide) (p_move rfl rfl) ?_
          clear hs a
          intro a hs
          refine s_yes hs rfl ?_
          refine s_pure hs rfl rfl (by decide) (p_move rfl rfl) ?_
          clear hs a
          intro a hs
          replace hs := hs.to (τ := [(0, (Sl.val a0)), (1, (Sl.val b1)), (5, (.int .i64 i5_1)), (41, (.bool false)), (46, (.int .u64 t46)), (47, (Sl.val b1)), (48, (.int .i64 i5_1))]) ⟨rfl, rfl, rfl, rfl, rfl, rfl, rfl, trivial⟩
          refine s_yes hs rfl ?_
          obtain ⟨qt49, t49, ha, h0, h1, he, h⟩ := h
          refine s_pure hs rfl rfl (by decide) (Pure.adr he (p_idx rfl rfl rfl sl_60 ha h0 h1)) ?_
          clear hs a ha h0 h1 he
          intro a hs
          refine s_yes hs rfl ?_
          refine s_pure hs rfl rfl (by decide) (p_fieldAddr rfl rfl ft_36_2) ?_
          clear hs a
          intro a hs
          refine s_yes hs rfl ?_
          obtain ⟨t51, hv, h⟩ := h
          refine s_eff hs rfl rfl (by decide) (e_load rfl rfl ct_23 hv) ?_
          clear hs a hv
          intro a hs
          refine s_yes hs rfl ?_
          refine s_pure hs rfl rfl (by decide) (p_ne rfl rfl rfl) ?_
          clear hs a
          intro a hs
          refine s_pure hs rfl rfl (by decide) (p_pick_f rfl rfl rfl) ?_
          clear hs a
          intro a hs
          refine s_pure hs rfl rfl (by decide) (p_move rfl rfl) ?_
          clear hs a
          intro a hs
          refine split_bool (decide (t46 ≠ t51)) (fun hb => ?_) (fun hb => ?_)
          · replace h := h.1 hb
            rw [hb] at hs
            clear hb
            refine s_no hs rfl rfl (by decide) ?_
            clear hs a
            intro a hs
            refine s_no hs rfl rfl (by decide) ?_
            clear hs a
            intro a hs
            replace hs := hs.to (τ := [(0, (Sl.val a0)), (1, (Sl.val b1)), (5, (.int .i64 i5_1)), (54, (.bool true)), (55, undef), (56, undef)]) ⟨rfl, rfl, rfl, rfl, rfl, rfl, trivial⟩
            refine s_no hs rfl rfl (by decide) ?_
            clear hs a
            intro a hs
            refine s_no hs rfl rfl (by decide) ?_
            clear hs a
            intro a hs
            refine s_no hs rfl rfl (by decide) ?_
            clear hs a
            intro a hs
            refine s_no hs rfl rfl (by decide) ?_
            clear hs a
            intro a hs
            refine s_no hs rfl rfl (by decide) ?_
            clear hs a
            intro a hs
            refine s_no hs rfl rfl (by decide) ?_
            clear hs a
            intro a hs
            refine s_no hs rfl rfl (by decide) ?_
            clear hs a
            intro a hs
            refine s_no hs rfl rfl (by decide) ?_
            clear hs a
            intro a hs
            replace hs := hs.to (τ := [(0, (Sl.val a0)), (1, (Sl.val b1)), (5, (.int .i64 i5_1)), (54, (.bool true)), (59, undef), (64, undef)]) ⟨rfl, rfl, rfl, rfl, rfl, rfl, trivial⟩
            refine s_no hs rfl rfl (by decide) ?_
            clear hs a
            intro a hs
            refine s_pure hs rfl rfl (by decide) (p_pick_t rfl rfl rfl) ?_
            clear hs a
            intro a hs
            refine s_pure hs rfl rfl (by decide) (p_move rfl rfl) ?_
            clear hs a
            intro a hs
            refine s_no hs rfl rfl (by decide) ?_
            clear hs a
            intro a hs
            refine s_no hs rfl rfl (by decide) ?_
            clear hs a
            intro a hs
            refine s_no hs rfl rfl (by decide) ?_
            clear hs a
            intro a hs
            refine s_no hs rfl rfl (by decide) ?_
            clear hs a
            intro a hs
            refine s_no hs rfl rfl (by decide) ?_
            clear hs a
            intro a hs
            replace hs := hs.to (τ := [(0, (Sl.val a0)), (1, (Sl.val b1)), (5, (.int .i64 i5_1)), (67, (.bool true)), (72, undef)]) ⟨rfl, rfl, rfl, rfl, rfl, trivial⟩
            refine s_no hs rfl rfl (by decide) ?_
            clear hs a
            intro a hs
            refine s_no hs rfl rfl (by decide) ?_
            clear hs a
            intro a hs
            refine s_no hs rfl rfl (by decide) ?_
            clear hs a
            intro a hs
            refine s_no hs rfl rfl (by decide) ?_
            clear hs a
            intro a hs
            refine s_no hs rfl rfl (by decide) ?_
            clear hs a
            intro a hs
            refine s_no hs rfl rfl (by decide) ?_
            clear hs a
            intro a hs
            refine s_no hs rfl rfl (by decide) ?_
            clear hs a
            intro a hs
            refine s_no hs rfl rfl (by decide) ?_
            clear hs a
            intro a hs
            replace hs := hs.to (τ := [(0, (Sl.val a0)), (1, (Sl.val b1)), (5, (.int .i64 i5_1)), (67, (.bool true)), (80, undef)]) ⟨rfl, rfl, rfl, rfl, rfl, trivial⟩
            refine s_pure hs rfl rfl (by decide) (p_pick_t rfl rfl rfl) ?_
            clear hs a
            intro a hs
            exact J2 true _ _ (hs.to ⟨rfl, rfl, rfl, rfl, trivial⟩) h
          · replace h := h.2 hb
            rw [hb] at hs
            clear hb
            refine s_yes hs rfl ?_
            refine s_pure hs rfl rfl (by decide) (p_move rfl rfl) ?_
            clear hs a
            intro a hs
            refine s_yes hs rfl ?_
            refine s_pure hs rfl rfl (by decide) (p_move rfl rfl) ?_
            clear hs a
            intro a hs
            replace hs := hs.to (τ := [(0, (Sl.val a0)), (1, (Sl.val b1)), (5, (.int .i64 i5_1)), (54, (.bool false)), (55, (Sl.val a0)), (56, (.int .i64 i5_1))]) ⟨rfl, rfl, rfl, rfl, rfl, rfl, trivial⟩
            refine s_yes hs rfl ?_
            obtain ⟨qt57, t57, ha, h0, h1, he, h⟩ := h
            refine s_pure hs rfl rfl (by decide) (Pure.adr he (p_idx rfl rfl rfl sl_60 ha h0 h1)) ?_
            clear hs a ha h0 h1 he
            intro a hs
            refine s_yes hs rfl ?_
            refine s_pure hs rfl rfl (by decide) (p_fieldAddr rfl rfl ft_36_3) ?_
            clear hs a
            intro a hs
            refine s_yes hs rfl ?_
            obtain ⟨t59, hv, h⟩ := h
            refine s_eff hs rfl rfl (by decide) (e_load rfl rfl ct_23 hv) ?_
            clear hs a hv
            intro a hs
            refine s_yes hs rfl ?_
            refine s_pure hs rfl rfl (by decide) (p_move rfl rfl) ?_
            clear hs a
            intro a hs
            refine s_yes hs rfl ?_
            refine s_pure hs rfl rfl (by decide) (p_move rfl rfl) ?_
            clear hs a
            intro a hs
            refine s_yes hs rfl ?_
            obtain ⟨qt62, t62, ha, h0, h1, he, h⟩ := h
            refine s_pure hs rfl rfl (by decide) (Pure.adr he (p_idx rfl rfl rfl sl_60 ha h0 h1)) ?_
            clear hs a ha h0 h1 he
            intro a hs
            refine s_yes hs rfl ?_
            refine s_pure hs rfl rfl (by decide) (p_fieldAddr rfl rfl ft_36_3) ?_
            clear hs a
            intro a hs
            refine s_yes hs rfl ?_
            obtain ⟨t64, hv, h⟩ := h
            refine s_eff hs rfl rfl (by decide) (e_load rfl rfl ct_23 hv) ?_
            clear hs a hv
            intro a hs
            replace hs := hs.to (τ := [(0, (Sl.val a0)), (1, (Sl.val b1)), (5, (.int .i64 i5_1)), (54, (.bool false)), (59, (.int .u64 t59)), (64, (.int .u64 t64))]) ⟨rfl, rfl, rfl, rfl, rfl, rfl, trivial⟩
            refine s_yes hs rfl ?_
            refine s_pure hs rfl rfl (by decide) (p_ne rfl rfl rfl) ?_
            clear hs a
            intro a hs
            refine s_pure hs rfl rfl (by decide) (p_pick_f rfl rfl rfl) ?_
            clear hs a
            intro a hs
            refine s_pure hs rfl rfl (by decide) (p_move rfl rfl) ?_
            clear hs a
            intro a hs
            refine split_bool (decide (t59 ≠ t64)) (fun hb => ?_) (fun hb => ?_)
            · replace h := h.1 hb
              rw [hb] at hs
              clear hb
              refine s_no hs rfl rfl (by decide) ?_
              clear hs a
              intro a hs
              refine s_no hs rfl rfl (by decide) ?_
              clear hs a
              intro a hs
              refine s_no hs rfl rfl (by decide) ?_
              clear hs a
              intro a hs
              refine s_no hs rfl rfl (by decide) ?_
              clear hs a
              intro a hs
              refine s_no hs rfl rfl (by decide) ?_
              clear hs a
              intro a hs
              replace hs := hs.to (τ := [(0, (Sl.val a0)), (1, (Sl.val b1)), (5, (.int .i64 i5_1)), (67, (.bool true)), (72, undef)]) ⟨rfl, rfl, rfl, rfl, rfl, trivial⟩
              refine s_no hs rfl rfl (by decide) ?_
              clear hs a
              intro a hs
              refine s_no hs rfl rfl (by decide) ?_
              clear hs a
              intro a hs
              refine s_no hs rfl rfl (by decide) ?_
              clear hs a
              intro a hs
              refine s_no hs rfl rfl (by decide) ?_
              clear hs a
              intro a hs
              refine s_no hs rfl rfl (by decide) ?_
              clear hs a
              intro a hs
              refine s_no hs rfl rfl (by decide) ?_
              clear hs a
              intro a hs
              refine s_no hs rfl rfl (by decide) ?_
              clear hs a
              intro a hs
              refine s_no hs rfl rfl (by decide) ?_
              clear hs a
              intro a hs
              replace hs := hs.to (τ := [(0, (Sl.val a0)), (1, (Sl.val b1)), (5, (.int .i64 i5_1)), (67, (.bool true)), (80, undef)]) ⟨rfl, rfl, rfl, rfl, rfl, trivial⟩
              refine s_pure hs rfl rfl (by decide) (p_pick_t rfl rfl rfl) ?_
              clear hs a
              intro a hs
              exact J2 true _ _ (hs.to ⟨rfl, rfl, rfl, rfl, trivial⟩) h
            · replace h := h.2 hb
              rw [hb] at hs
              clear hb
              refine s_yes hs rfl ?_
              refine s_pure hs rfl rfl (by decide) (p_move rfl rfl) ?_
              clear hs a
              intro a hs
              refine s_yes hs rfl ?_
              refine s_pure hs rfl rfl (by decide) (p_move rfl rfl) ?_
              clear hs a
              intro a hs
              refine s_yes hs rfl ?_
              obtain ⟨qt70, t70, ha, h0, h1, he, h⟩ := h
              refine s_pure hs rfl rfl (by decide) (Pure.adr he (p_idx rfl rfl rfl sl_60 ha h0 h1)) ?_
              clear hs a ha h0 h1 he
              intro a hs
              refine s_yes hs rfl ?_
              refine s_pure hs rfl rfl (by decide) (p_fieldAddr rfl rfl ft_36_4) ?_
              clear hs a
              intro a hs
              refine s_yes hs rfl ?_
              obtain ⟨t72, hv, h⟩ := h
              refine s_eff hs rfl rfl (by decide) (e_load rfl rfl ct_22 hv) ?_
              clear hs a hv
              intro a hs
              replace hs := hs.to (τ := [(0, (Sl.val a0)), (1, (Sl.val b1)), (5, (.int .i64 i5_1)), (67, (.bool false)), (72, (Sl.val t72))]) ⟨rfl, rfl, rfl, rfl, rfl, trivial⟩
              refine s_yes hs rfl ?_
              obtain ⟨t73, hd, h⟩ := h
              refine s_eff hs rfl rfl (by decide) (e_convert rfl rfl hd) ?_
              clear hs a hd
              intro a hs
              refine s_yes hs rfl ?_
              refine s_pure hs rfl rfl (by decide) (p_move rfl rfl) ?_
              clear hs a
              intro a hs
              refine s_yes hs rfl ?_
              refine s_pure hs rfl rfl (by decide) (p_move rfl rfl) ?_
              clear hs a
              intro a hs
              refine s_yes hs rfl ?_
              obtain ⟨qt76, t76, ha, h0, h1, he, h⟩ := h
              refine s_pure hs rfl rfl (by decide) (Pure.adr he (p_idx rfl rfl rfl sl_60 ha h0 h1)) ?_
              clear hs a ha h0 h1 he
              intro a hs
              refine s_yes hs rfl ?_
              refine s_pure hs rfl rfl (by decide) (p_fieldAddr rfl rfl ft_36_4) ?_
              clear hs a
              intro a hs
              refine s_yes hs rfl ?_
              obtain ⟨t78, hv, h⟩ := h
              refine s_eff hs rfl rfl (by decide) (e_load rfl rfl ct_22 hv) ?_
              clear hs a hv
              intro a hs
              refine s_yes hs rfl ?_
              obtain ⟨t79, hd, h⟩ := h
              refine s_eff hs rfl rfl (by decide) (e_convert rfl rfl hd) ?_
              clear hs a hd
              intro a hs
              refine s_yes hs rfl ?_
              refine s_pure hs rfl rfl (by decide) (p_nes rfl rfl rfl) ?_
              clear hs a
              intro a hs
              replace hs := hs.to (τ := [(0, (Sl.val a0)), (1, (Sl.val b1)), (5, (.int .i64 i5_1)), (67, (.bool false)), (80, (.bool (!(t73.toList == t79.toList))))]) ⟨rfl, rfl, rfl, rfl, rfl, trivial⟩
              refine s_pure hs rfl rfl (by decide) (p_pick_f rfl rfl rfl) ?_
              clear hs a
              intro a hs
              exact J2 (!(t73.toList == t79.toList)) _ _ (hs.to ⟨rfl, rfl, rfl, rfl, trivial⟩) h
    · replace h := h.2 hb
      clear hb
      refine wp_exit ?_
      refine hK5 _ _ ?_
      refine wp_seq_k fun K12 hK12 => ?_
      refine wp_region_lit ?_
      refine t_pure hs rfl rfl (by decide) (p_assign rfl rfl) ?_
      clear hs a
      intro a hs
      refine hK12 _ _ ?_
      refine wp_ret ?_
      refine f_ret (fn := Try.f43) hs (fun a hs => r_one hs rfl (rfl)) ⟨true, rfl, h⟩
def ref19_Link_Packets.b2 (Q : Sl → K)  (X2 : Sl → Int → K) (l0_2 : (Option Addr)) (out3_2 : Sl) (i4_2 : Int) : K :=
  Nn l0_2 fun t27 =>
  Ld (t27.add 4) Sl.val fun t29 =>
  Ite (decide (i4_2 < (t29.n : Int)))
    (Dr <|
    Ar (IntKind.wrap .u64 i4_2) fun t48 =>
    Ld t27 (Value.int .u64) fun t38 =>
    Ld (t27.add 1) (Value.int .u64) fun t42 =>
    Ld (t27.add 2) (Value.int .u64) fun t46 =>
    Ar (IntKind.wrap .u64 (t46 + t48)) fun t49 =>
    Ld (t27.add 3) (Value.int .u64) fun t53 =>
    Ar (IntKind.wrap .u64 (t53 - 1)) fun t54 =>
    Ld (t27.add 4) Sl.val fun t58 =>
    Idx t58 i4_2 1 fun t60 =>
    Ld t60 Sl.val fun t61 =>
    Bld #[(.int .u64 0), (.int .u64 0), (.int .u64 0), (.int .u64 0), (Sl.val ⟨none, 0, 0⟩)] (fun i => some (i * 5, 5)) [(0, (.agg #[(.int .u64 t38), (.int .u64 t42), (.int .u64 t49), (.int .u64 t54), (Sl.val t61)]))] fun ct63 =>
    New 36 ct63 fun t63 =>
    Do Try.prog (Builtin.append_ #[60, 60] 60 #[(Sl.val out3_2), (Sl.val (Sl.mk (some t63) 1 1))]) Sl.val fun t64 =>
    Ar (IntKind.wrap .i64 (i4_2 + 1)) fun t33 =>
    X2 t64 t33)
    (Q out3_2)
def ref19_Link_Packets.s1 (Q : Sl → K)  (l0_1 : (Option Addr)) (out3_1 : Sl) (t18_1 : Bool) : K :=
  Ite t18_1
    (Nn l0_1 fun t20 =>
    Ld t20 (Value.int .u64) fun t22 =>
    Bld #[(.int .u64 0), (.int .u64 0), (.int .u64 0), (.int .u64 0), (Sl.val ⟨none, 0, 0⟩)] (fun i => some (i * 5, 5)) [(0, (.agg #[(.int .u64 t22), (.int .u64 0), (.int .u64 0), (.int .u64 0), (Sl.val ⟨none, 0, 0⟩)]))] fun ct24 =>
    New 36 ct24 fun t24 =>
    Q (Sl.mk (some t24) 1 1))
    (LoopK (α := Sl × Int) (fun X x => ref19_Link_Packets.b2 Q (fun out3_2 i4_2 => X (out3_2, i4_2)) l0_1 x.1 x.2) (out3_1, 0))
def ref19_Link_Packets (l0 : (Option Addr)) (Q : Sl → K) : K :=
  New 36 #[] fun t5 =>
  Nn l0 fun t7 =>
  Ld (t7.add 4) Sl.val fun t9 =>
  Ite (decide ((0 : Int) < (t9.n : Int)))
    (Ld (t7.add 1) (Value.int .u64) fun t16 =>
    ref19_Link_Packets.s1 Q (some t7) (Sl.mk (some t5) 0 0) (decide (t16 = 0)))
    (ref19_Link_Packets.s1 Q (some t7) (Sl.mk (some t5) 0 0) false)
theorem ref19_Link_Packets_ok (l0 : (Option Addr)) (Q : Sl → K) (w : World) (h : ref19_Link_Packets l0 Q w) : ref19_Link_Packets.call l0 Q w := by
  unfold ref19_Link_Packets.call CallF
  refine f_start (args := [(.pointer l0)]) Try.func44 rfl (Nat.le_of_ble_eq_true rfl) ?_
  intro a hs
  unfold ref19_Link_Packets at h
  refine wp_seq_k fun K1 hK1 => ?_
  refine wp_region_lit ?_
  refine t_pure hs rfl rfl (by decide) (p_assign rfl rfl) ?_
  clear hs a
  intro a hs
  refine hK1 _ _ ?_
  refine wp_seq_k fun K2 hK2 => ?_
  refine wp_region_lit ?_
  obtain ⟨t5, w1, ha, hw, h⟩ := h
  refine t_eff hs rfl rfl (by decide) (e_buildSlice (z := #[]) (cs := #[]) rfl sl_60 zt_36 (by decide) rfl rz_36_0 (by rfl) ha hw) ?_
  clear hs a ha hw
  intro a hs
  refine t_pure hs rfl rfl (by decide) (p_assign rfl rfl) ?_
  clear hs a
  intro a hs
  refine hK2 _ _ ?_
  refine wp_seq_k fun K3 hK3 => ?_
  refine wp_seq_k fun K4 hK4 => ?_
  have J1 : ∀ (t18_1 : Bool) (a : Act) (w : World), Slots a 66 [(0, (.pointer l0)), (3, (Sl.val (Sl.mk (some t5) 0 0))), (18, (.bool t18_1))] → ref19_Link_Packets.s1 Q l0 (Sl.mk (some t5) 0 0) t18_1 w → K4 a w := by
    clear h hs
    intro t18_1 a w hs h
    refine hK4 _ _ ?_
    unfold ref19_Link_Packets.s1 at h
    refine c_cond hs rfl (fun hb => ?_) (fun hb => ?_)
    · replace h := h.1 hb
      clear hb
      refine wp_seq_k fun K5 hK5 => ?_
      refine wp_region_lit ?_
      refine t_pure hs rfl rfl (by decide) (p_move rfl rfl) ?_
      clear hs a
      intro a hs
      obtain ⟨t20, rfl, h⟩ := h
      refine t_pure hs rfl rfl (by decide) (p_nil rfl rfl) ?_
      clear hs a
      intro a hs
      refine t_pure hs rfl rfl (by decide) (p_fieldAddr0 rfl rfl ft_92_0) ?_
      clear hs a
      intro a hs
      obtain ⟨t22, hv, h⟩ := h
      refine t_eff hs rfl rfl (by decide) (e_load rfl rfl ct_23 hv) ?_
      clear hs a hv
      intro a hs
      refine t_pure hs rfl rfl (by decide) (e_build (cs := #[(.int .u64 t22), (.int .u64 0), (.int .u64 0), (.int .u64 0), (Sl.val ⟨none, 0, 0⟩)]) rfl zt_36 pl_36 rfl rfl) ?_
      clear hs a
      intro a hs
      obtain ⟨ct24, hb, t24, w1, ha, hw, h⟩ := h
      refine t_eff hs rfl rfl (by decide) (e_buildSlice (z := #[(.int .u64 0), (.int .u64 0), (.int .u64 0), (.int .u64 0), (Sl.val ⟨none, 0, 0⟩)]) rfl sl_60 zt_36 (by decide) rfl rz_36_1 hb ha hw) ?_
      clear hs a hb ha hw
      intro a hs
      refine t_pure hs rfl rfl (by decide) (p_assign rfl rfl) ?_
      clear hs a
      intro a hs
      refine hK5 _ _ ?_
      refine wp_ret ?_
      refine f_ret (fn := Try.f44) hs (fun a hs => r_one hs rfl (rfl)) ⟨(Sl.mk (some t24) 1 1), rfl, h⟩
    · replace h := h.2 hb
      clear hb
      refine wp_skip ?_
      refine hK3 _ _ ?_
      refine wp_seq_k fun K6 hK6 => ?_
      refine wp_seq_k fun K7 hK7 => ?_
      refine wp_region_lit ?_
      refine t_pure hs rfl rfl (by decide) (p_assign rfl rfl) ?_
      clear hs a
      intro a hs
      refine hK7 _ _ ?_
      refine wp_block ?_
      obtain ⟨I2, μ2, h0, hr⟩ := h
      refine c_loop (α := Sl × Int) I2 μ2 (fun x a => Slots a 66 [(0, (.pointer l0)), (3, (Sl.val x.1)), (4, (.int .i64 x.2))]) ((Sl.mk (some t5) 0 0), 0) h0 (hs.to ⟨rfl, rfl, rfl, trivial⟩) ?_
      clear h0 hs a
      rintro ⟨out3_2, i4_2⟩ a w hI hs
      have h : ref19_Link_Packets.b2 Q (fun out3_2n i4_2n w' => I2 (out3_2n, i4_2n) w' ∧ μ2 (out3_2n, i4_2n) w' < μ2 (out3_2, i4_2) w) l0 out3_2 i4_2 w := hr (out3_2, i4_2) w hI
      clear hr hI
      generalize hX2 : (fun out3_2n i4_2n w' => I2 (out3_2n, i4_2n) w' ∧ μ2 (out3_2n, i4_2n) w' < μ2 (out3_2, i4_2) w) = X2 at h
      unfold ref19_Link_Packets.b2 at h
      replace hs : Slots a 66 [(0, (.pointer l0)), (3, (Sl.val out3_2)), (4, (.int .i64 i4_2))] := hs
      refine wp_seq_k fun K8 hK8 => ?_
      refine wp_seq_k fun K9 hK9 => ?_
      refine wp_region_lit ?_
      refine t_pure hs rfl rfl (by decide) (p_move rfl rfl) ?_
      clear hs a
      intro a hs
      refine t_pure hs rfl rfl (by decide) (p_move rfl rfl) ?_
      clear hs a
      intro a hs
      obtain ⟨t27, rfl, h⟩ := h
      refine t_pure hs rfl rfl (by decide) (p_nil rfl rfl) ?_
      clear hs a
      intro a hs
      refine t_pure hs rfl rfl (by decide) (p_fieldAddr rfl rfl ft_92_4) ?_
      clear hs a
      intro a hs
      obtain ⟨t29, hv, h⟩ := h
      refine t_eff hs rfl rfl (by decide) (e_load rfl rfl ct_56 hv) ?_
      clear hs a hv
      intro a hs
      refine t_pure hs rfl rfl (by decide) (p_len rfl rfl sl_56) ?_
      clear hs a
      intro a hs
      refine t_pure hs rfl rfl (by decide) (p_lt rfl rfl rfl) ?_
      clear hs a
      intro a hs
      refine hK9 _ _ ?_
      refine c_cond hs rfl (fun hb => ?_) (fun hb => ?_)
      · replace h := h.1 hb
        clear hb
        refine wp_skip ?_
        refine hK8 _ _ ?_
        refine wp_seq_k fun K10 hK10 => ?_
        refine wp_block ?_
        obtain ⟨w1, hw1, h⟩ := h
        refine d_start (S := Is w1) (ds := [29, 30]) #[false, false, false, false, false, false, false, false, false, false, false, false, false, false, false, false, false, false, false, false, false, false, false, false, false, false, false, false, false, false, false, false] mixed rfl rfl ?_
        rw [← hw1]
        have hS := Is.intro w1
        clear hw1
        refine d_pure hs #[true, false, false, false, false, false, false, false, false, false, false, false, false, false, false, false, false, false, false, false, false, false, false, false, false, false, false, false, false, false, false, false] (i := 0) rfl rfl rfl (by decide) (by kernel_rfl) (tight_body (P := Try.prog) (fn := Try.f44)) (p_move rfl rfl) ?_
        clear hs a
        intro a hs
        refine d_pure hs #[true, true, false, false, false, false, false, false, false, false, false, false, false, false, false, false, false, false, false, false, false, false, false, false, false, false, false, false, false, false, false, false] (i := 1) rfl rfl rfl (by decide) (by kernel_rfl) (tight_body (P := Try.prog) (fn := Try.f44)) (p_move rfl rfl) ?_
        clear hs a
        intro a hs
        refine d_pure hs #[true, true, true, false, false, false, false, false, false, false, false, false, false, false, false, false, false, false, false, false, false, false, false, false, false, false, false, false, false, false, false, false] (i := 2) rfl rfl rfl (by decide) (by kernel_rfl) (tight_body (P := Try.prog) (fn := Try.f44)) (p_nil rfl rfl) ?_
        clear hs a
        intro a hs
        refine d_pure hs #[true, true, true, true, false, false, false, false, false, false, false, false, false, false, false, false, false, false, false, false, false, false, false, false, false, false, false, false, false, false, false, false] (i := 3) rfl rfl rfl (by decide) (by kernel_rfl) (tight_body (P := Try.prog) (fn := Try.f44)) (p_fieldAddr0 rfl rfl ft_92_0) ?_
        clear hs a
        intro a hs
        refine d_pure hs #[true, true, true, true, false, true, false, false, false, false, false, false, false, false, false, false, false, false, false, false, false, false, false, false, false, false, false, false, false, false, false, false] (i := 5) rfl rfl rfl (by decide) (by kernel_rfl) (tight_body (P := Try.prog) (fn := Try.f44)) (p_move rfl rfl) ?_
        clear hs a
        intro a hs
        refine d_pure hs #[true, true, true, true, false, true, true, false, false, false, false, false, false, false, false, false, false, false, false, false, false, false, false, false, false, false, false, false, false, false, false, false] (i := 6) rfl rfl rfl (by decide) (by kernel_rfl) (tight_body (P := Try.prog) (fn := Try.f44)) (p_nil rfl rfl) ?_
        clear hs a
        intro a hs
        refine d_pure hs #[true, true, true, true, false, true, true, true, false, false, false, false, false, false, false, false, false, false, false, false, false, false, false, false, false, false, false, false, false, false, false, false] (i := 7) rfl rfl rfl (by decide) (by kernel_rfl) (tight_body (P := Try.prog) (fn := Try.f44)) (p_fieldAddr rfl rfl ft_92_1) ?_
        clear hs a
        intro a hs
        refine d_pure hs #[true, true, true, true, false, true, true, true, false, true, false, false, false, false, false, false, false, false, false, false, false, false, false, false, false, false, false, false, false, false, false, false] (i := 9) rfl rfl rfl (by decide) (by kernel_rfl) (tight_body (P := Try.prog) (fn := Try.f44)) (p_move rfl rfl) ?_
        clear hs a
        intro a hs
        replace hs := hs.to (τ := [(0, (.pointer (some t27))), (3, (Sl.val out3_2)), (4, (.int .i64 i4_2)), (34, (Sl.val out3_2)), (37, (.pointer (some t27))), (41, (.pointer (some (t27.add 1)))), (43, (.pointer (some t27)))]) ⟨rfl, rfl, rfl, rfl, rfl, rfl, rfl, trivial⟩
        refine d_pure hs #[true, true, true, true, false, true, true, true, false, true, true, false, false, false, false, false, false, false, false, false, false, false, false, false, false, false, false, false, false, false, false, false] (i := 10) rfl rfl rfl (by decide) (by kernel_rfl) (tight_body (P := Try.prog) (fn := Try.f44)) (p_nil rfl rfl) ?_
        clear hs a
        intro a hs
        refine d_pure hs #[true, true, true, true, false, true, true, true, false, true, true, true, false, false, false, false, false, false, false, false, false, false, false, false, false, false, false, false, false, false, false, false] (i := 11) rfl rfl rfl (by decide) (by kernel_rfl) (tight_body (P := Try.prog) (fn := Try.f44)) (p_fieldAddr rfl rfl ft_92_2) ?_
        clear hs a
        intro a hs
        refine d_pure hs #[true, true, true, true, false, true, true, true, false, true, true, true, false, true, false, false, false, false, false, false, false, false, false, false, false, false, false, false, false, false, false, false] (i := 13) rfl rfl rfl (by decide) (by kernel_rfl) (tight_body (P := Try.prog) (fn := Try.f44)) (p_move rfl rfl) ?_
        clear hs a
        intro a hs
        obtain ⟨t48, he, h⟩ := h
        refine d_pure hs #[true, true, true, true, false, true, true, true, false, true, true, true, false, true, true, false, false, false, false, false, false, false, false, false, false, false, false, false, false, false, false, false] (i := 14) rfl rfl rfl (by decide) (by kernel_rfl) (tight_body (P := Try.prog) (fn := Try.f44)) (Pure.int he (p_conv_int rfl rfl in_3 in_23)) ?_
        clear hs a he
        intro a hs
        refine d_pure hs #[true, true, true, true, false, true, true, true, false, true, true, true, false, true, true, false, true, false, false, false, false, false, false, false, false, false, false, false, false, false, false, false] (i := 16) rfl rfl rfl (by decide) (by kernel_rfl) (tight_body (P := Try.prog) (fn := Try.f44)) (p_move rfl rfl) ?_
        clear hs a
        intro a hs
        refine d_pure hs #[true, true, true, true, false, true, true, true, false, true, true, true, false, true, true, false, true, true, false, false, false, false, false, false, false, false, false, false, false, false, false, false] (i := 17) rfl rfl rfl (by decide) (by kernel_rfl) (tight_body (P := Try.prog) (fn := Try.f44)) (p_nil rfl rfl) ?_
        clear hs a
        intro a hs
        refine d_pure hs #[true, true, true, true, false, true, true, true, false, true, true, true, false, true, true, false, true, true, true, false, false, false, false, false, false, false, false, false, false, false, false, false] (i := 18) rfl rfl rfl (by decide) (by kernel_rfl) (tight_body (P := Try.prog) (fn := Try.f44)) (p_fieldAddr rfl rfl ft_92_3) ?_
        clear hs a
        intro a hs
        refine d_pure hs #[true, true, true, true, false, true, true, true, false, true, true, true, false, true, true, false, true, true, true, false, false, true, false, false, false, false, false, false, false, false, false, false] (i := 21) rfl rfl rfl (by decide) (by kernel_rfl) (tight_body (P := Try.prog) (fn := Try.f44)) (p_move rfl rfl) ?_
        clear hs a
        intro a hs
        replace hs := hs.to (τ := [(0, (.pointer (some t27))), (3, (Sl.val out3_2)), (4, (.int .i64 i4_2)), (34, (Sl.val out3_2)), (37, (.pointer (some t27))), (41, (.pointer (some (t27.add 1)))), (45, (.pointer (some (t27.add 2)))), (48, (.int .u64 t48)), (52, (.pointer (some (t27.add 3)))), (55, (.pointer (some t27)))]) ⟨rfl, rfl, rfl, rfl, rfl, rfl, rfl, rfl, rfl, rfl, trivial⟩
        refine d_pure hs #[true, true, true, true, false, true, true, true, false, true, true, true, false, true, true, false, true, true, true, false, false, true, true, false, false, false, false, false, false, false, false, false] (i := 22) rfl rfl rfl (by decide) (by kernel_rfl) (tight_body (P := Try.prog) (fn := Try.f44)) (p_nil rfl rfl) ?_
        clear hs a
        intro a hs
        refine d_pure hs #[true, true, true, true, false, true, true, true, false, true, true, true, false, true, true, false, true, true, true, false, false, true, true, true, false, false, false, false, false, false, false, false] (i := 23) rfl rfl rfl (by decide) (by kernel_rfl) (tight_body (P := Try.prog) (fn := Try.f44)) (p_fieldAddr rfl rfl ft_92_4) ?_
        clear hs a
        intro a hs
        refine d_pure hs #[true, true, true, true, false, true, true, true, false, true, true, true, false, true, true, false, true, true, true, false, false, true, true, true, false, true, false, false, false, false, false, false] (i := 25) rfl rfl rfl (by decide) (by kernel_rfl) (tight_body (P := Try.prog) (fn := Try.f44)) (p_move rfl rfl) ?_
        clear hs a
        intro a hs
        obtain ⟨t38, hv, h⟩ := h
        refine d_read hs #[true, true, true, true, true, true, true, true, false, true, true, true, false, true, true, false, true, true, true, false, false, true, true, true, false, true, false, false, false, false, false, false] (i := 4) rfl rfl rfl (by decide) (by kernel_rfl) (by kernel_rfl) (tight_body (P := Try.prog) (fn := Try.f44)) hS (fun w h' => by have h1 := h'.out; subst h1; exact e_load rfl rfl ct_23 hv) ?_
        clear hs a hv
        intro a hs
        obtain ⟨t42, hv, h⟩ := h
        refine d_read hs #[true, true, true, true, true, true, true, true, true, true, true, true, false, true, true, false, true, true, true, false, false, true, true, true, false, true, false, false, false, false, false, false] (i := 8) rfl rfl rfl (by decide) (by kernel_rfl) (by kernel_rfl) (tight_body (P := Try.prog) (fn := Try.f44)) hS (fun w h' => by have h1 := h'.out; subst h1; exact e_load rfl rfl ct_23 hv) ?_
        clear hs a hv
        intro a hs
        obtain ⟨t46, hv, h⟩ := h
        refine d_read hs #[true, true, true, true, true, true, true, true, true, true, true, true, true, true, true, false, true, true, true, false, false, true, true, true, false, true, false, false, false, false, false, false] (i := 12) rfl rfl rfl (by decide) (by kernel_rfl) (by kernel_rfl) (tight_body (P := Try.prog) (fn := Try.f44)) hS (fun w h' => by have h1 := h'.out; subst h1; exact e_load rfl rfl ct_23 hv) ?_
        clear hs a hv
        intro a hs
        obtain ⟨t49, he, h⟩ := h
        refine d_pure hs #[true, true, true, true, true, true, true, true, true, true, true, true, true, true, true, true, true, true, true, false, false, true, true, true, false, true, false, false, false, false, false, false] (i := 15) rfl rfl rfl (by decide) (by kernel_rfl) (tight_body (P := Try.prog) (fn := Try.f44)) (Pure.int he (p_add rfl rfl rfl)) ?_
        clear hs a he
        intro a hs
        obtain ⟨t53, hv, h⟩ := h
        refine d_read hs #[true, true, true, true, true, true, true, true, true, true, true, true, true, true, true, true, true, true, true, true, false, true, true, true, false, true, false, false, false, false, false, false] (i := 19) rfl rfl rfl (by decide) (by kernel_rfl) (by kernel_rfl) (tight_body (P := Try.prog) (fn := Try.f44)) hS (fun w h' => by have h1 := h'.out; subst h1; exact e_load rfl rfl ct_23 hv) ?_
        clear hs a hv
        intro a hs
        replace hs := hs.to (τ := [(0, (.pointer (some t27))), (3, (Sl.val out3_2)), (4, (.int .i64 i4_2)), (34, (Sl.val out3_2)), (38, (.int .u64 t38)), (42, (.int .u64 t42)), (49, (.int .u64 t49)), (53, (.int .u64 t53)), (57, (.pointer (some (t27.add 4)))), (59, (.int .i64 i4_2))]) ⟨rfl, rfl, rfl, rfl, rfl, rfl, rfl, rfl, rfl, rfl, trivial⟩
        obtain ⟨t54, he, h⟩ := h
        refine d_pure hs #[true, true, true, true, true, true, true, true, true, true, true, true, true, true, true, true, true, true, true, true, true, true, true, true, false, true, false, false, false, false, false, false] (i := 20) rfl rfl rfl (by decide) (by kernel_rfl) (tight_body (P := Try.prog) (fn := Try.f44)) (Pure.int he (p_sub rfl rfl rfl)) ?_
        clear hs a he
        intro a hs
        obtain ⟨t58, hv, h⟩ := h
        refine d_read hs #[true, true, true, true, true, true, true, true, true, true, true, true, true, true, true, true, true, true, true, true, true, true, true, true, true, true, false, false, false, false, false, false] (i := 24) rfl rfl rfl (by decide) (by kernel_rfl) (by kernel_rfl) (tight_body (P := Try.prog) (fn := Try.f44)) hS (fun w h' => by have h1 := h'.out; subst h1; exact e_load rfl rfl ct_56 hv) ?_
        clear hs a hv
        intro a hs
        obtain ⟨qt60, t60, ha, h0, h1, he, h⟩ := h
        refine d_pure hs #[true, true, true, true, true, true, true, true, true, true, true, true, true, true, true, true, true, true, true, true, true, true, true, true, true, true, true, false, false, false, false, false] (i := 26) rfl rfl rfl (by decide) (by kernel_rfl) (tight_body (P := Try.prog) (fn := Try.f44)) (Pure.adr he (p_idx rfl rfl rfl sl_56 ha h0 h1)) ?_
        clear hs a ha h0 h1 he
        intro a hs
        obtain ⟨t61, hv, h⟩ := h
        refine d_read hs #[true, true, true, true, true, true, true, true, true, true, true, true, true, true, true, true, true, true, true, true, true, true, true, true, true, true, true, true, false, false, false, false] (i := 27) rfl rfl rfl (by decide) (by kernel_rfl) (by kernel_rfl) (tight_body (P := Try.prog) (fn := Try.f44)) hS (fun w h' => by have h1 := h'.out; subst h1; exact e_load rfl rfl ct_22 hv) ?_
        clear hs a hv
        intro a hs
        refine d_pure hs #[true, true, true, true, true, true, true, true, true, true, true, true, true, true, true, true, true, true, true, true, true, true, true, true, true, true, true, true, true, false, false, false] (i := 28) rfl rfl rfl (by decide) (by kernel_rfl) (tight_body (P := Try.prog) (fn := Try.f44)) (e_build (cs := #[(.int .u64 t38), (.int .u64 t42), (.int .u64 t49), (.int .u64 t54), (Sl.val t61)]) rfl zt_36 pl_36 rfl rfl) ?_
        clear hs a
        intro a hs
        refine d_all [29] (by kernel_rfl) (by decide) ?_
        refine AllS.cons ?_ AllS.nil
        obtain ⟨ct63, hb, t63, w1, ha, hw, h⟩ := h
        refine d_eff hs #[true, true, true, true, true, true, true, true, true, true, true, true, true, true, true, true, true, true, true, true, true, true, true, true, true, true, true, true, true, true, false, false] (i := 29) rfl rfl rfl (by decide) rfl (e_buildSlice (z := #[(.int .u64 0), (.int .u64 0), (.int .u64 0), (.int .u64 0), (Sl.val ⟨none, 0, 0⟩)]) rfl sl_60 zt_36 (by decide) rfl rz_36_1 hb ha hw) (fun hn => (hn (by decide)).elim) ?_
        clear hs a hb ha hw
        intro a hs
        refine d_all [30] (by kernel_rfl) (by decide) ?_
        refine AllS.cons ?_ AllS.nil
        obtain ⟨t64, w1, hd, h⟩ := h
        refine d_eff hs #[true, true, true, true, true, true, true, true, true, true, true, true, true, true, true, true, true, true, true, true, true, true, true, true, true, true, true, true, true, true, true, false] (i := 30) rfl rfl rfl (by decide) rfl (e_append rfl rfl rfl rfl hd) (fun hn => (hn (by decide)).elim) ?_
        clear hs a hd
        intro a hs
        refine d_pure hs #[true, true, true, true, true, true, true, true, true, true, true, true, true, true, true, true, true, true, true, true, true, true, true, true, true, true, true, true, true, true, true, true] (i := 31) rfl rfl rfl (by decide) (by kernel_rfl) (tight_body (P := Try.prog) (fn := Try.f44)) (p_assign rfl rfl) ?_
        clear hs a
        intro a hs
        replace hs := hs.to (τ := [(0, (.pointer (some t27))), (3, (Sl.val t64)), (4, (.int .i64 i4_2))]) ⟨rfl, rfl, rfl, trivial⟩
        refine d_done (by kernel_rfl) ?_ _
        clear hS
        refine hK10 _ _ ?_
        refine wp_region_lit ?_
        refine t_pure hs rfl rfl (by decide) (p_move rfl rfl) ?_
        clear hs a
        intro a hs
        obtain ⟨t33, he, h⟩ := h
        refine t_pure hs rfl rfl (by decide) (Pure.int he (p_add rfl rfl rfl)) ?_
        clear hs a he
        intro a hs
        refine t_pure hs rfl rfl (by decide) (p_assign rfl rfl) ?_
        clear hs a
        intro a hs
        rw [← hX2] at h
        exact ⟨(t64, t33), hs.to ⟨rfl, rfl, rfl, trivial⟩, h⟩
      · replace h := h.2 hb
        clear hb
        refine wp_exit ?_
        refine hK6 _ _ ?_
        refine wp_seq_k fun K11 hK11 => ?_
        refine wp_region_lit ?_
        refine t_pure hs rfl rfl (by decide) (p_move rfl rfl) ?_
        clear hs a
        intro a hs
        refine t_pure hs rfl rfl (by decide) (p_assign rfl rfl) ?_
        clear hs a
        intro a hs
        refine hK11 _ _ ?_
        refine wp_ret ?_
        refine f_ret (fn := Try.f44) hs (fun a hs => r_one hs rfl (rfl)) ⟨out3_2, rfl, h⟩
  clear hK4
  refine wp_region_lit ?_
  refine t_pure hs rfl rfl (by decide) (p_move rfl rfl) ?_
  clear hs a
  intro a hs
  obtain ⟨t7, rfl, h⟩ := h
  refine t_pure hs rfl rfl (by decide) (p_nil rfl rfl) ?_
  clear hs a
  intro a hs
  refine t_pure hs rfl rfl (by decide) (p_fieldAddr rfl rfl ft_92_4) ?_
  clear hs a
  intro a hs
  obtain ⟨t9, hv, h⟩ := h
  refine t_eff hs rfl rfl (by decide) (e_load rfl rfl ct_56 hv) ?_
  clear hs a hv
  intro a hs
  refine t_pure hs rfl rfl (by decide) (p_len rfl rfl sl_56) ?_
  clear hs a
  intro a hs
  refine t_pure hs rfl rfl (by decide) (p_gt rfl rfl rfl) ?_
  clear hs a
  intro a hs
  refine t_pure hs rfl rfl (by decide) (p_move rfl rfl) ?_
  clear hs a
  intro a hs
  refine split_bool (decide ((0 : Int) < (t9.n : Int))) (fun hb => ?_) (fun hb => ?_)
  · replace h := h.1 hb
    rw [hb] at hs
    clear hb
    refine t_yes hs rfl ?_
    refine t_pure hs rfl rfl (by decide) (p_move rfl rfl) ?_
    clear hs a
    intro a hs
    replace hs := hs.to (τ := [(0, (.pointer (some t7))), (3, (Sl.val (Sl.mk (some t5) 0 0))), (12, (.bool true)), (13, (.pointer (some t7)))]) ⟨rfl, rfl, rfl, rfl, trivial⟩
    refine t_yes hs rfl ?_
    refine t_pure hs rfl rfl (by decide) (p_nil rfl rfl) ?_
    clear hs a
    intro a hs
    refine t_yes hs rfl ?_
    refine t_pure hs rfl rfl (by decide) (p_fieldAddr rfl rfl ft_92_1) ?_
    clear hs a
    intro a hs
    refine t_yes hs rfl ?_
    obtain ⟨t16, hv, h⟩ := h
    refine t_eff hs rfl rfl (by decide) (e_load rfl rfl ct_23 hv) ?_
    clear hs a hv
    intro a hs
    refine t_yes hs rfl ?_
    refine t_pure hs rfl rfl (by decide) (p_eq rfl rfl rfl) ?_
    clear hs a
    intro a hs
    refine t_pure hs rfl rfl (by decide) (p_pick_t rfl rfl rfl) ?_
    clear hs a
    intro a hs
    exact J1 (decide (t16 = 0)) _ _ (hs.to ⟨rfl, rfl, rfl, trivial⟩) h
  · replace h := h.2 hb
    rw [hb] at hs
    clear hb
    refine t_no hs rfl rfl (by decide) ?_
    clear hs a
    intro a hs
    replace hs := hs.to (τ := [(0, (.pointer (some t7))), (3, (Sl.val (Sl.mk (some t5) 0 0))), (12, (.bool false)), (13, undef)]) ⟨rfl, rfl, rfl, rfl, trivial⟩
    refine t_no hs rfl rfl (by decide) ?_
    clear hs a
    intro a hs
    refine t_no hs rfl rfl (by decide) ?_
    clear hs a
    intro a hs
    refine t_no hs rfl rfl (by decide) ?_
    clear hs a
    intro a hs
    refine t_no hs rfl rfl (by decide) ?_
    clear hs a
    intro a hs
    refine t_pure hs rfl rfl (by decide) (p_pick_f rfl rfl rfl) ?_
    clear hs a
    intro a hs
    exact J1 false _ _ (hs.to ⟨rfl, rfl, rfl, trivial⟩) h
def ref19_Link_at.b1 (Q : Int → K)  (X1 : Int → K) (l0_1 : (Option Addr)) (seq1_1 : Int) (i5_1 : Int) : K :=
  Nn l0_1 fun t8 =>
  Ld (t8.add 5) Sl.val fun t10 =>
  Ite (decide (i5_1 < (t10.n : Int)))
    (Ld (t8.add 5) Sl.val fun t18 =>
    Idx t18 i5_1 2 fun t20 =>
    Ld t20 (Value.int .u64) fun t22 =>
    Ite (decide (t22 = seq1_1))
      (Q i5_1)
      (Ar (IntKind.wrap .i64 (i5_1 + 1)) fun t14 =>
      X1 t14))
    (Q (-1))
def ref19_Link_at (l0 : (Option Addr)) (seq1 : Int) (Q : Int → K) : K :=
  LoopK (α := Int) (fun X x => ref19_Link_at.b1 Q X l0 seq1 x) 0
theorem ref19_Link_at_ok (l0 : (Option Addr)) (seq1 : Int) (Q : Int → K) (w : World) (h : ref19_Link_at l0 seq1 Q w) : ref19_Link_at.call l0 seq1 Q w := by
  unfold ref19_Link_at.call CallF
  refine f_start (args := [(.pointer l0), (.int .u64 seq1)]) Try.func57 rfl (Nat.le_of_ble_eq_true rfl) ?_
  intro a hs
  unfold ref19_Link_at at h
  refine wp_seq_k fun K1 hK1 => ?_
  refine wp_region_lit ?_
  refine t_pure hs rfl rfl (by decide) (p_assign rfl rfl) ?_
  clear hs a
  intro a hs
  refine hK1 _ _ ?_
  refine wp_seq_k fun K2 hK2 => ?_
  refine wp_seq_k fun K3 hK3 => ?_
  refine wp_region_lit ?_
  refine t_pure hs rfl rfl (by decide) (p_assign rfl rfl) ?_
  clear hs a
  intro a hs
  refine hK3 _ _ ?_
  refine wp_block ?_
  obtain ⟨I1, μ1, h0, hr⟩ := h
  refine c_loop (α := Int) I1 μ1 (fun x a => Slots a 26 [(0, (.pointer l0)), (1, (.int .u64 seq1)), (5, (.int .i64 x))]) 0 h0 (hs.to ⟨rfl, rfl, rfl, trivial⟩) ?_
  clear h0 hs a
  intro i5_1 a w hI hs
  have h : ref19_Link_at.b1 Q (fun i5_1n w' => I1 i5_1n w' ∧ μ1 i5_1n w' < μ1 i5_1 w) l0 seq1 i5_1 w := hr i5_1 w hI
  clear hr hI
  generalize hX1 : (fun i5_1n w' => I1 i5_1n w' ∧ μ1 i5_1n w' < μ1 i5_1 w) = X1 at h
  unfold ref19_Link_at.b1 at h
  replace hs : Slots a 26 [(0, (.pointer l0)), (1, (.int .u64 seq1)), (5, (.int .i64 i5_1))] := hs
  refine wp_seq_k fun K4 hK4 => ?_
  refine wp_seq_k fun K5 hK5 => ?_
  refine wp_region_lit ?_
  refine t_pure hs rfl rfl (by decide) (p_move rfl rfl) ?_
  clear hs a
  intro a hs
  refine t_pure hs rfl rfl (by decide) (p_move rfl rfl) ?_
  clear hs a
  intro a hs
  obtain ⟨t8, rfl, h⟩ := h
  refine t_pure hs rfl rfl (by decide) (p_nil rfl rfl) ?_
  clear hs a
  intro a hs
  refine t_pure hs rfl rfl (by decide) (p_fieldAddr rfl rfl ft_92_5) ?_
  clear hs a
  intro a hs
  obtain ⟨t10, hv, h⟩ := h
  refine t_eff hs rfl rfl (by decide) (e_load rfl rfl ct_90 hv) ?_
  clear hs a hv
  intro a hs
  refine t_pure hs rfl rfl (by decide) (p_len rfl rfl sl_90) ?_
  clear hs a
  intro a hs
  refine t_pure hs rfl rfl (by decide) (p_lt rfl rfl rfl) ?_
  clear hs a
  intro a hs
  refine hK5 _ _ ?_
  refine c_cond hs rfl (fun hb => ?_) (fun hb => ?_)
  · replace h := h.1 hb
    clear hb
    refine wp_skip ?_
    refine hK4 _ _ ?_
    refine wp_seq_k fun K6 hK6 => ?_
    refine wp_block ?_
    refine wp_seq_k fun K7 hK7 => ?_
    refine wp_region_lit ?_
    refine t_pure hs rfl rfl (by decide) (p_move rfl rfl) ?_
    clear hs a
    intro a hs
    refine t_pure hs rfl rfl (by decide) (p_nil rfl rfl) ?_
    clear hs a
    intro a hs
    refine t_pure hs rfl rfl (by decide) (p_fieldAddr rfl rfl ft_92_5) ?_
    clear hs a
    intro a hs
    obtain ⟨t18, hv, h⟩ := h
    refine t_eff hs rfl rfl (by decide) (e_load rfl rfl ct_90 hv) ?_
    clear hs a hv
    intro a hs
    refine t_pure hs rfl rfl (by decide) (p_move rfl rfl) ?_
    clear hs a
    intro a hs
    obtain ⟨qt20, t20, ha, h0, h1, he, h⟩ := h
    refine t_pure hs rfl rfl (by decide) (Pure.adr he (p_idx rfl rfl rfl sl_90 ha h0 h1)) ?_
    clear hs a ha h0 h1 he
    intro a hs
    refine t_pure hs rfl rfl (by decide) (p_fieldAddr0 rfl rfl ft_113_0) ?_
    clear hs a
    intro a hs
    obtain ⟨t22, hv, h⟩ := h
    refine t_eff hs rfl rfl (by decide) (e_load rfl rfl ct_23 hv) ?_
    clear hs a hv
    intro a hs
    replace hs := hs.to (τ := [(0, (.pointer (some t8))), (1, (.int .u64 seq1)), (5, (.int .i64 i5_1)), (22, (.int .u64 t22))]) ⟨rfl, rfl, rfl, rfl, trivial⟩
    refine t_pure hs rfl rfl (by decide) (p_move rfl rfl) ?_
    clear hs a
    intro a hs
    refine t_pure hs rfl rfl (by decide) (p_eq rfl rfl rfl) ?_
    clear hs a
    intro a hs
    refine hK7 _ _ ?_
    refine c_cond hs rfl (fun hb => ?_) (fun hb => ?_)
    · replace h := h.1 hb
      clear hb
      refine wp_seq_k fun K8 hK8 => ?_
      refine wp_region_lit ?_
      refine t_pure hs rfl rfl (by decide) (p_move rfl rfl) ?_
      clear hs a
      intro a hs
      refine t_pure hs rfl rfl (by decide) (p_assign rfl rfl) ?_
      clear hs a
      intro a hs
      refine hK8 _ _ ?_
      refine wp_ret ?_
      refine f_ret (fn := Try.f57) hs (fun a hs => r_one hs rfl (rfl)) ⟨i5_1, rfl, h⟩
    · replace h := h.2 hb
      clear hb
      refine wp_skip ?_
      refine hK6 _ _ ?_
      refine wp_region_lit ?_
      refine t_pure hs rfl rfl (by decide) (p_move rfl rfl) ?_
      clear hs a
      intro a hs
      obtain ⟨t14, he, h⟩ := h
      refine t_pure hs rfl rfl (by decide) (Pure.int he (p_add rfl rfl rfl)) ?_
      clear hs a he
      intro a hs
      refine t_pure hs rfl rfl (by decide) (p_assign rfl rfl) ?_
      clear hs a
      intro a hs
      rw [← hX1] at h
      exact ⟨t14, hs.to ⟨rfl, rfl, rfl, trivial⟩, h⟩
  · replace h := h.2 hb
    clear hb
    refine wp_exit ?_
    refine hK2 _ _ ?_
    refine wp_seq_k fun K9 hK9 => ?_
    refine wp_region_lit ?_
    refine t_pure hs rfl rfl (by decide) (p_assign rfl rfl) ?_
    clear hs a
    intro a hs
    refine hK9 _ _ ?_
    refine wp_ret ?_
    refine f_ret (fn := Try.f57) hs (fun a hs => r_one hs rfl (rfl)) ⟨(-1), rfl, h⟩
end Go.Proofs.Ytilejcnbacmdnaa
