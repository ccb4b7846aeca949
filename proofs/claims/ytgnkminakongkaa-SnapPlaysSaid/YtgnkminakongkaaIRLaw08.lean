/- Plain forms of functions, and that their code comes to them (package law08). -/
import Derived.Test.YtgnkminakongkaaCalls
namespace Go.Proofs.Ytgnkminakongkaa
open Go Go.Sep
set_option linter.unusedVariables false
set_option linter.unusedSimpArgs false
set_option maxRecDepth 100000
set_option maxHeartbeats 4000000
def law08_speaks.s1 (Q : Bool → K)  (t0_1 : Bool) : K :=
  Q t0_1
def law08_speaks  (Q : Bool → K) : K :=
  snap_Pack.call (Sl.mk none 0 0) fun t4 =>
  snap_Unpack.call t4 fun t7x0 t7x1 =>
  Ite (decide ((t4.n : Int) = 7))
    (Ite (decide ((t7x0.n : Int) = 0))
      (law08_speaks.s1 Q (decide (t7x1 = 0)))
      (law08_speaks.s1 Q false))
    (law08_speaks.s1 Q false)
theorem law08_speaks_ok  (Q : Bool → K) (w : World) (h : law08_speaks  Q w) : law08_speaks.call  Q w := by
  unfold law08_speaks.call CallF
  refine f_start (args := []) Try.func37 rfl (Nat.le_of_ble_eq_true rfl) ?_
  intro a hs
  unfold law08_speaks at h
  refine wp_seq_k fun K1 hK1 => ?_
  refine wp_region_lit ?_
  refine t_pure hs rfl rfl (by decide) (p_assign rfl rfl) ?_
  clear hs a; intro a hs
  refine hK1 _ _ ?_
  refine wp_seq_k fun K2 hK2 => ?_
  refine wp_region_lit ?_
  refine t_call hs rfl rfl (by decide) (e_call rfl rfl rfl cb_64) h ?_
  clear hs a h
  intro v a w hk hs
  obtain ⟨t4, rfl, h⟩ := hk
  refine t_pure hs rfl rfl (by decide) (p_assign rfl rfl) ?_
  clear hs a; intro a hs
  refine hK2 _ _ ?_
  refine wp_seq_k fun K3 hK3 => ?_
  refine wp_region_lit ?_
  refine t_pure hs rfl rfl (by decide) (p_move rfl rfl) ?_
  clear hs a; intro a hs
  refine t_call hs rfl rfl (by decide) (e_call rfl rfl rfl cb_65) h ?_
  clear hs a h
  intro v a w hk hs
  obtain ⟨t7x0, t7x1, rfl, h⟩ := hk
  refine t_pure hs rfl rfl (by decide) (p_move rfl rfl) ?_
  clear hs a; intro a hs
  refine t_pure hs rfl rfl (by decide) (p_extract rfl rfl rfl) ?_
  clear hs a; intro a hs
  refine t_pure hs rfl rfl (by decide) (p_extract rfl rfl rfl) ?_
  clear hs a; intro a hs
  refine t_pure hs rfl rfl (by decide) (p_assign rfl rfl) ?_
  clear hs a; intro a hs
  refine t_pure hs rfl rfl (by decide) (p_assign rfl rfl) ?_
  clear hs a; intro a hs
  refine hK3 _ _ ?_
  refine wp_seq_k fun K4 hK4 => ?_
  have J1 : ∀ (t0_1 : Bool) (a : Act) (w : World), Slots a 22 [(0, (.bool t0_1))] → law08_speaks.s1 Q t0_1 w → K4 a w := by
    clear h hs
    intro t0_1 a w hs h
    refine hK4 _ _ ?_
    unfold law08_speaks.s1 at h
    refine wp_ret ?_
    refine f_ret (fn := Try.f37) hs (fun a hs => r_one hs rfl (rfl)) ⟨t0_1, rfl, h⟩
  clear hK4
  refine wp_region_lit ?_
  refine t_pure hs rfl rfl (by decide) (p_move rfl rfl) ?_
  clear hs a; intro a hs
  refine t_pure hs rfl rfl (by decide) (p_len rfl rfl sl_33) ?_
  clear hs a; intro a hs
  refine t_pure hs rfl rfl (by decide) (p_eq rfl rfl rfl) ?_
  clear hs a; intro a hs
  refine t_pure hs rfl rfl (by decide) (p_move rfl rfl) ?_
  clear hs a; intro a hs
  refine split_bool (decide ((t4.n : Int) = 7)) (fun hb => ?_) (fun hb => ?_)
  · replace h := h.1 hb
    rw [hb] at hs
    clear hb
    refine t_yes hs rfl ?_
    refine t_pure hs rfl rfl (by decide) (p_move rfl rfl) ?_
    clear hs a; intro a hs
    refine t_yes hs rfl ?_
    refine t_pure hs rfl rfl (by decide) (p_len rfl rfl sl_33) ?_
    clear hs a; intro a hs
    refine t_yes hs rfl ?_
    refine t_pure hs rfl rfl (by decide) (p_eq rfl rfl rfl) ?_
    clear hs a; intro a hs
    refine t_pure hs rfl rfl (by decide) (p_pick_t rfl rfl rfl) ?_
    clear hs a; intro a hs
    replace hs := hs.to (τ := [(3, (.int .i64 t7x1)), (17, (.bool (decide ((t7x0.n : Int) = 0))))]) ⟨rfl, rfl, trivial⟩
    refine t_pure hs rfl rfl (by decide) (p_move rfl rfl) ?_
    clear hs a; intro a hs
    refine split_bool (decide ((t7x0.n : Int) = 0)) (fun hb => ?_) (fun hb => ?_)
    · replace h := h.1 hb
      rw [hb] at hs
      clear hb
      refine t_yes hs rfl ?_
      refine t_pure hs rfl rfl (by decide) (p_move rfl rfl) ?_
      clear hs a; intro a hs
      refine t_yes hs rfl ?_
      refine t_pure hs rfl rfl (by decide) (p_eq rfl rfl rfl) ?_
      clear hs a; intro a hs
      refine t_pure hs rfl rfl (by decide) (p_pick_t rfl rfl rfl) ?_
      clear hs a; intro a hs
      refine t_pure hs rfl rfl (by decide) (p_assign rfl rfl) ?_
      clear hs a; intro a hs
      exact J1 (decide (t7x1 = 0)) _ _ (hs.to ⟨rfl, trivial⟩) h
    · replace h := h.2 hb
      rw [hb] at hs
      clear hb
      refine t_no hs rfl rfl (by decide) ?_
      clear hs a; intro a hs
      refine t_no hs rfl rfl (by decide) ?_
      clear hs a; intro a hs
      refine t_pure hs rfl rfl (by decide) (p_pick_f rfl rfl rfl) ?_
      clear hs a; intro a hs
      refine t_pure hs rfl rfl (by decide) (p_assign rfl rfl) ?_
      clear hs a; intro a hs
      exact J1 false _ _ (hs.to ⟨rfl, trivial⟩) h
  · replace h := h.2 hb
    rw [hb] at hs
    clear hb
    refine t_no hs rfl rfl (by decide) ?_
    clear hs a; intro a hs
    refine t_no hs rfl rfl (by decide) ?_
    clear hs a; intro a hs
    refine t_no hs rfl rfl (by decide) ?_
    clear hs a; intro a hs
    refine t_pure hs rfl rfl (by decide) (p_pick_f rfl rfl rfl) ?_
    clear hs a; intro a hs
    replace hs := hs.to (τ := [(3, (.int .i64 t7x1)), (17, (.bool false))]) ⟨rfl, rfl, trivial⟩
    refine t_pure hs rfl rfl (by decide) (p_move rfl rfl) ?_
    clear hs a; intro a hs
    refine t_no hs rfl rfl (by decide) ?_
    clear hs a; intro a hs
    refine t_no hs rfl rfl (by decide) ?_
    clear hs a; intro a hs
    refine t_pure hs rfl rfl (by decide) (p_pick_f rfl rfl rfl) ?_
    clear hs a; intro a hs
    refine t_pure hs rfl rfl (by decide) (p_assign rfl rfl) ?_
    clear hs a; intro a hs
    exact J1 false _ _ (hs.to ⟨rfl, trivial⟩) h
def law08_great.s2 (Q : Bool → K) (X1 : Int → K) (t8_2 : Sl) (t9_2 : Int) (t10_2 : Int) (t29_2 : Bool) : K :=
  Ite t29_2
    (Q true)
    (Ar (IntKind.wrap .i64 (t10_2 + 1)) fun t30 =>
    X1 t30)
def law08_great.b1 (Q : Bool → K)  (X1 : Int → K) (t8_1 : Sl) (t9_1 : Int) (t10_1 : Int) : K :=
  Ite (decide (t10_1 < t9_1))
    (Idx t8_1 t10_1 5 fun t12 =>
    LdN t12 5 fun t13 =>
    New 81 #[(.int .i64 0), (.int .i64 0), (.string ⟨#[]⟩), (Sl.val ⟨none, 0, 0⟩), (Sl.val ⟨none, 0, 0⟩)] fun o4 =>
    StN o4 5 t13 <|
    Ld (o4.add 3) Sl.val fun t15 =>
    Ite (decide ((5000 : Int) < (t15.n : Int)))
      (law08_great.s2 Q X1 t8_1 t9_1 t10_1 true)
      (Ld (o4.add 2) Value.string fun t20 =>
      Ite (decide ((200 : Int) < (t20.size : Int)))
        (law08_great.s2 Q X1 t8_1 t9_1 t10_1 true)
        (Ld (o4.add 4) Sl.val fun t26 =>
        law08_great.s2 Q X1 t8_1 t9_1 t10_1 (decide ((100 : Int) < (t26.n : Int))))))
    (Q false)
def law08_great (script0 : Sl) (Q : Bool → K) : K :=
  Ite (decide ((40 : Int) < (script0.n : Int)))
    (Q true)
    (LoopK (α := Int) (fun X x => law08_great.b1 Q X script0 (script0.n : Int) x) 0)
theorem law08_great_ok (script0 : Sl) (Q : Bool → K) (w : World) (h : law08_great script0 Q w) : law08_great.call script0 Q w := by
  unfold law08_great.call CallF
  refine f_start (args := [(Sl.val script0)]) Try.func40 rfl (Nat.le_of_ble_eq_true rfl) ?_
  intro a hs
  unfold law08_great at h
  refine wp_seq_k fun K1 hK1 => ?_
  refine wp_region_lit ?_
  refine t_pure hs rfl rfl (by decide) (p_assign rfl rfl) ?_
  clear hs a; intro a hs
  refine hK1 _ _ ?_
  refine wp_seq_k fun K2 hK2 => ?_
  refine wp_seq_k fun K3 hK3 => ?_
  refine wp_region_lit ?_
  refine t_pure hs rfl rfl (by decide) (p_move rfl rfl) ?_
  clear hs a; intro a hs
  refine t_pure hs rfl rfl (by decide) (p_len rfl rfl sl_78) ?_
  clear hs a; intro a hs
  refine t_pure hs rfl rfl (by decide) (p_gt rfl rfl rfl) ?_
  clear hs a; intro a hs
  refine hK3 _ _ ?_
  refine c_cond hs rfl (fun hb => ?_) (fun hb => ?_)
  · replace h := h.1 hb
    clear hb
    refine wp_seq_k fun K4 hK4 => ?_
    refine wp_region_lit ?_
    refine t_pure hs rfl rfl (by decide) (p_assign rfl rfl) ?_
    clear hs a; intro a hs
    refine hK4 _ _ ?_
    refine wp_ret ?_
    refine f_ret (fn := Try.f40) hs (fun a hs => r_one hs rfl (rfl)) ⟨true, rfl, h⟩
  · replace h := h.2 hb
    clear hb
    refine wp_skip ?_
    refine hK2 _ _ ?_
    refine wp_seq_k fun K5 hK5 => ?_
    refine wp_seq_k fun K6 hK6 => ?_
    refine wp_region_lit ?_
    refine t_pure hs rfl rfl (by decide) (p_move rfl rfl) ?_
    clear hs a; intro a hs
    refine t_pure hs rfl rfl (by decide) (p_len rfl rfl sl_78) ?_
    clear hs a; intro a hs
    refine t_pure hs rfl rfl (by decide) (p_move rfl rfl) ?_
    clear hs a; intro a hs
    refine hK6 _ _ ?_
    refine wp_block ?_
    obtain ⟨I1, μ1, h0, hr⟩ := h
    refine c_loop (α := Int) I1 μ1 (fun x a => Slots a 31 [(8, (Sl.val script0)), (9, (.int .i64 (script0.n : Int))), (10, (.int .i64 x))]) 0 h0 (hs.to ⟨rfl, rfl, rfl, trivial⟩) ?_
    clear h0 hs a
    intro t10_1 a w hI hs
    have h : law08_great.b1 Q (fun t10_1n w' => I1 t10_1n w' ∧ μ1 t10_1n w' < μ1 t10_1 w) script0 (script0.n : Int) t10_1 w := hr t10_1 w hI
    clear hr hI
    generalize hX1 : (fun t10_1n w' => I1 t10_1n w' ∧ μ1 t10_1n w' < μ1 t10_1 w) = X1 at h
    unfold law08_great.b1 at h
    replace hs : Slots a 31 [(8, (Sl.val script0)), (9, (.int .i64 (script0.n : Int))), (10, (.int .i64 t10_1))] := hs
    refine wp_seq_k fun K7 hK7 => ?_
    refine wp_region_lit ?_
    refine t_pure hs rfl rfl (by decide) (p_lt rfl rfl rfl) ?_
    clear hs a; intro a hs
    refine hK7 _ _ ?_
    refine wp_seq_k fun K8 hK8 => ?_
    refine c_cond hs rfl (fun hb => ?_) (fun hb => ?_)
    · replace h := h.1 hb
      clear hb
      refine wp_skip ?_
      refine hK8 _ _ ?_
      refine wp_seq_k fun K9 hK9 => ?_
      refine wp_block ?_
      refine wp_seq_k fun K10 hK10 => ?_
      refine wp_region_lit ?_
      obtain ⟨qt12, t12, ha, h0, h1, he, h⟩ := h
      refine t_pure hs rfl rfl (by decide) (Pure.adr he (p_idx rfl rfl rfl sl_78 ha h0 h1)) ?_
      clear hs a ha h0 h1 he; intro a hs
      obtain ⟨t13, hn, hv, h⟩ := h
      refine t_eff hs rfl rfl (by decide) (e_loadN rfl rfl at_81 hn hv) ?_
      clear hs a hn hv; intro a hs
      obtain ⟨o4, w1, ha, hw, h⟩ := h
      refine t_eff hs rfl rfl (by decide) (e_alloc rfl zt_81 rfl ha hw) ?_
      clear hs a ha hw; intro a hs
      obtain ⟨w1, hw, hn, hc, hv, h⟩ := h
      refine t_skip hs rfl rfl (e_storeN rfl rfl rfl sz_81 hw hn hc hv) ?_
      clear hs a hw hn hc hv; intro a hs
      refine hK10 _ _ ?_
      refine wp_seq_k fun K11 hK11 => ?_
      have J2 : ∀ (t29_2 : Bool) (a : Act) (w : World), Slots a 31 [(8, (Sl.val script0)), (9, (.int .i64 (script0.n : Int))), (10, (.int .i64 t10_1)), (29, (.bool t29_2))] → law08_great.s2 Q X1 script0 (script0.n : Int) t10_1 t29_2 w → K11 a w := by
        clear h hs
        intro t29_2 a w hs h
        refine hK11 _ _ ?_
        unfold law08_great.s2 at h
        refine c_cond hs rfl (fun hb => ?_) (fun hb => ?_)
        · replace h := h.1 hb
          clear hb
          refine wp_seq_k fun K12 hK12 => ?_
          refine wp_region_lit ?_
          refine t_pure hs rfl rfl (by decide) (p_assign rfl rfl) ?_
          clear hs a; intro a hs
          refine hK12 _ _ ?_
          refine wp_ret ?_
          refine f_ret (fn := Try.f40) hs (fun a hs => r_one hs rfl (rfl)) ⟨true, rfl, h⟩
        · replace h := h.2 hb
          clear hb
          refine wp_skip ?_
          refine hK9 _ _ ?_
          refine wp_region_lit ?_
          obtain ⟨t30, he, h⟩ := h
          refine t_pure hs rfl rfl (by decide) (Pure.int he (p_add rfl rfl rfl)) ?_
          clear hs a he; intro a hs
          refine t_pure hs rfl rfl (by decide) (p_move rfl rfl) ?_
          clear hs a; intro a hs
          rw [← hX1] at h
          exact ⟨t30, hs.to ⟨rfl, rfl, rfl, trivial⟩, h⟩
      clear hK11
      refine wp_region_lit ?_
      refine t_pure hs rfl rfl (by decide) (p_fieldAddr rfl rfl ft_81_3) ?_
      clear hs a; intro a hs
      obtain ⟨t15, hv, h⟩ := h
      refine t_eff hs rfl rfl (by decide) (e_load rfl rfl ct_33 hv) ?_
      clear hs a hv; intro a hs
      refine t_pure hs rfl rfl (by decide) (p_len rfl rfl sl_33) ?_
      clear hs a; intro a hs
      refine t_pure hs rfl rfl (by decide) (p_gt rfl rfl rfl) ?_
      clear hs a; intro a hs
      refine t_pure hs rfl rfl (by decide) (p_move rfl rfl) ?_
      clear hs a; intro a hs
      refine split_bool (decide ((5000 : Int) < (t15.n : Int))) (fun hb => ?_) (fun hb => ?_)
      · replace h := h.1 hb
        rw [hb] at hs
        clear hb
        refine t_no hs rfl rfl (by decide) ?_
        clear hs a; intro a hs
        refine t_no hs rfl rfl (by decide) ?_
        clear hs a; intro a hs
        refine t_no hs rfl rfl (by decide) ?_
        clear hs a; intro a hs
        replace hs := hs.to (τ := [(4, (.pointer (some o4))), (8, (Sl.val script0)), (9, (.int .i64 (script0.n : Int))), (10, (.int .i64 t10_1)), (18, (.bool true)), (21, undef)]) ⟨rfl, rfl, rfl, rfl, rfl, rfl, trivial⟩
        refine t_no hs rfl rfl (by decide) ?_
        clear hs a; intro a hs
        refine t_pure hs rfl rfl (by decide) (p_pick_t rfl rfl rfl) ?_
        clear hs a; intro a hs
        refine t_pure hs rfl rfl (by decide) (p_move rfl rfl) ?_
        clear hs a; intro a hs
        refine t_no hs rfl rfl (by decide) ?_
        clear hs a; intro a hs
        refine t_no hs rfl rfl (by decide) ?_
        clear hs a; intro a hs
        refine t_no hs rfl rfl (by decide) ?_
        clear hs a; intro a hs
        refine t_no hs rfl rfl (by decide) ?_
        clear hs a; intro a hs
        refine t_pure hs rfl rfl (by decide) (p_pick_t rfl rfl rfl) ?_
        clear hs a; intro a hs
        exact J2 true _ _ (hs.to ⟨rfl, rfl, rfl, rfl, trivial⟩) h
      · replace h := h.2 hb
        rw [hb] at hs
        clear hb
        refine t_yes hs rfl ?_
        refine t_pure hs rfl rfl (by decide) (p_fieldAddr rfl rfl ft_81_2) ?_
        clear hs a; intro a hs
        refine t_yes hs rfl ?_
        obtain ⟨t20, hv, h⟩ := h
        refine t_eff hs rfl rfl (by decide) (e_load rfl rfl ct_9 hv) ?_
        clear hs a hv; intro a hs
        refine t_yes hs rfl ?_
        refine t_pure hs rfl rfl (by decide) (p_lens rfl rfl st_9) ?_
        clear hs a; intro a hs
        replace hs := hs.to (τ := [(4, (.pointer (some o4))), (8, (Sl.val script0)), (9, (.int .i64 (script0.n : Int))), (10, (.int .i64 t10_1)), (18, (.bool false)), (21, (.int .i64 (t20.size : Int)))]) ⟨rfl, rfl, rfl, rfl, rfl, rfl, trivial⟩
        refine t_yes hs rfl ?_
        refine t_pure hs rfl rfl (by decide) (p_gt rfl rfl rfl) ?_
        clear hs a; intro a hs
        refine t_pure hs rfl rfl (by decide) (p_pick_f rfl rfl rfl) ?_
        clear hs a; intro a hs
        refine t_pure hs rfl rfl (by decide) (p_move rfl rfl) ?_
        clear hs a; intro a hs
        refine split_bool (decide ((200 : Int) < (t20.size : Int))) (fun hb => ?_) (fun hb => ?_)
        · replace h := h.1 hb
          rw [hb] at hs
          clear hb
          refine t_no hs rfl rfl (by decide) ?_
          clear hs a; intro a hs
          refine t_no hs rfl rfl (by decide) ?_
          clear hs a; intro a hs
          refine t_no hs rfl rfl (by decide) ?_
          clear hs a; intro a hs
          refine t_no hs rfl rfl (by decide) ?_
          clear hs a; intro a hs
          refine t_pure hs rfl rfl (by decide) (p_pick_t rfl rfl rfl) ?_
          clear hs a; intro a hs
          exact J2 true _ _ (hs.to ⟨rfl, rfl, rfl, rfl, trivial⟩) h
        · replace h := h.2 hb
          rw [hb] at hs
          clear hb
          refine t_yes hs rfl ?_
          refine t_pure hs rfl rfl (by decide) (p_fieldAddr rfl rfl ft_81_4) ?_
          clear hs a; intro a hs
          refine t_yes hs rfl ?_
          obtain ⟨t26, hv, h⟩ := h
          refine t_eff hs rfl rfl (by decide) (e_load rfl rfl ct_44 hv) ?_
          clear hs a hv; intro a hs
          refine t_yes hs rfl ?_
          refine t_pure hs rfl rfl (by decide) (p_len rfl rfl sl_44) ?_
          clear hs a; intro a hs
          refine t_yes hs rfl ?_
          refine t_pure hs rfl rfl (by decide) (p_gt rfl rfl rfl) ?_
          clear hs a; intro a hs
          refine t_pure hs rfl rfl (by decide) (p_pick_f rfl rfl rfl) ?_
          clear hs a; intro a hs
          exact J2 (decide ((100 : Int) < (t26.n : Int))) _ _ (hs.to ⟨rfl, rfl, rfl, rfl, trivial⟩) h
    · replace h := h.2 hb
      clear hb
      refine wp_exit ?_
      refine hK5 _ _ ?_
      refine wp_seq_k fun K13 hK13 => ?_
      refine wp_region_lit ?_
      refine t_pure hs rfl rfl (by decide) (p_assign rfl rfl) ?_
      clear hs a; intro a hs
      refine hK13 _ _ ?_
      refine wp_ret ?_
      refine f_ret (fn := Try.f40) hs (fun a hs => r_one hs rfl (rfl)) ⟨false, rfl, h⟩
end Go.Proofs.Ytgnkminakongkaa
