/- Plain forms of functions, and that their code comes to them (package ref04). -/
import Derived.Test.YtdpepgjbambinaaCalls
namespace Go.Proofs.Ytdpepgjbambinaa
open Go Go.Sep
set_option linter.unusedVariables false
set_option linter.unusedSimpArgs false
set_option maxRecDepth 100000
set_option maxHeartbeats 4000000
def ref04_Same.b1 (Q : Bool → K)  (X1 : Int → K) (a0_1 : Sl) (b1_1 : Sl) (i5_1 : Int) : K :=
  Ite (decide (i5_1 < (a0_1.n : Int)))
    (Dr <|
    Idx a0_1 i5_1 1 fun t19 =>
    Ld t19 Sl.val fun t20 =>
    Rd Try.prog (convert 22 9 (Sl.val t20)) Value.string fun t21 =>
    Idx b1_1 i5_1 1 fun t24 =>
    Ld t24 Sl.val fun t25 =>
    Rd Try.prog (convert 22 9 (Sl.val t25)) Value.string fun t26 =>
    Ite (!(t21.toList == t26.toList))
      (Q false)
      (Ar (IntKind.wrap .i64 (i5_1 + 1)) fun t16 =>
      X1 t16))
    (Q true)
def ref04_Same (a0 : Sl) (b1 : Sl) (Q : Bool → K) : K :=
  Ite (decide ((a0.n : Int) ≠ (b1.n : Int)))
    (Q false)
    (LoopK (α := Int) (fun X x => ref04_Same.b1 Q X a0 b1 x) 0)
theorem ref04_Same_ok (a0 : Sl) (b1 : Sl) (Q : Bool → K) (w : World) (h : ref04_Same a0 b1 Q w) : ref04_Same.call a0 b1 Q w := by
  unfold ref04_Same.call CallF
  refine f_start (args := [(Sl.val a0), (Sl.val b1)]) Try.func33 rfl (Nat.le_of_ble_eq_true rfl) ?_
  intro a hs
  unfold ref04_Same at h
  refine wp_seq_k fun K1 hK1 => ?_
  refine wp_region_lit ?_
  refine t_pure hs rfl rfl (by decide) (p_assign rfl rfl) ?_
  clear hs a; intro a hs
  refine hK1 _ _ ?_
  refine wp_seq_k fun K2 hK2 => ?_
  refine wp_seq_k fun K3 hK3 => ?_
  refine wp_region_lit ?_
  refine t_pure hs rfl rfl (by decide) (p_move rfl rfl) ?_
  clear hs a; intro a hs
  refine t_pure hs rfl rfl (by decide) (p_len rfl rfl sl_54) ?_
  clear hs a; intro a hs
  refine t_pure hs rfl rfl (by decide) (p_move rfl rfl) ?_
  clear hs a; intro a hs
  refine t_pure hs rfl rfl (by decide) (p_len rfl rfl sl_54) ?_
  clear hs a; intro a hs
  refine t_pure hs rfl rfl (by decide) (p_ne rfl rfl rfl) ?_
  clear hs a; intro a hs
  refine hK3 _ _ ?_
  refine c_cond hs rfl (fun hb => ?_) (fun hb => ?_)
  · replace h := h.1 hb
    clear hb
    refine wp_seq_k fun K4 hK4 => ?_
    refine wp_region_lit ?_
    refine t_pure hs rfl rfl (by decide) (p_assign rfl rfl) ?_
    clear hs a; intro a hs
    refine hK4 _ _ ?_
    refine wp_ret ?_
    refine f_ret (fn := Try.f33) hs (fun a hs => r_one hs rfl (rfl)) ⟨false, rfl, h⟩
  · replace h := h.2 hb
    clear hb
    refine wp_skip ?_
    refine hK2 _ _ ?_
    refine wp_seq_k fun K5 hK5 => ?_
    refine wp_seq_k fun K6 hK6 => ?_
    refine wp_region_lit ?_
    refine t_pure hs rfl rfl (by decide) (p_assign rfl rfl) ?_
    clear hs a; intro a hs
    refine hK6 _ _ ?_
    refine wp_block ?_
    obtain ⟨I1, μ1, h0, hr⟩ := h
    refine c_loop (α := Int) I1 μ1 (fun x a => Slots a 28 [(0, (Sl.val a0)), (1, (Sl.val b1)), (5, (.int .i64 x))]) 0 h0 (hs.to ⟨rfl, rfl, rfl, trivial⟩) ?_
    clear h0 hs a
    intro i5_1 a w hI hs
    have h : ref04_Same.b1 Q (fun i5_1n w' => I1 i5_1n w' ∧ μ1 i5_1n w' < μ1 i5_1 w) a0 b1 i5_1 w := hr i5_1 w hI
    clear hr hI
    generalize hX1 : (fun i5_1n w' => I1 i5_1n w' ∧ μ1 i5_1n w' < μ1 i5_1 w) = X1 at h
    unfold ref04_Same.b1 at h
    replace hs : Slots a 28 [(0, (Sl.val a0)), (1, (Sl.val b1)), (5, (.int .i64 i5_1))] := hs
    refine wp_seq_k fun K7 hK7 => ?_
    refine wp_seq_k fun K8 hK8 => ?_
    refine wp_region_lit ?_
    refine t_pure hs rfl rfl (by decide) (p_move rfl rfl) ?_
    clear hs a; intro a hs
    refine t_pure hs rfl rfl (by decide) (p_move rfl rfl) ?_
    clear hs a; intro a hs
    refine t_pure hs rfl rfl (by decide) (p_len rfl rfl sl_54) ?_
    clear hs a; intro a hs
    refine t_pure hs rfl rfl (by decide) (p_lt rfl rfl rfl) ?_
    clear hs a; intro a hs
    refine hK8 _ _ ?_
    refine c_cond hs rfl (fun hb => ?_) (fun hb => ?_)
    · replace h := h.1 hb
      clear hb
      refine wp_skip ?_
      refine hK7 _ _ ?_
      refine wp_seq_k fun K9 hK9 => ?_
      refine wp_block ?_
      refine wp_seq_k fun K10 hK10 => ?_
      obtain ⟨w1, hw1, h⟩ := h
      refine s_start mixed (by kernel_rfl) hw1 ?_
      clear hw1
      refine s_pure hs rfl rfl (by decide) (p_move rfl rfl) ?_
      clear hs a; intro a hs
      refine s_pure hs rfl rfl (by decide) (p_move rfl rfl) ?_
      clear hs a; intro a hs
      obtain ⟨qt19, t19, ha, h0, h1, he, h⟩ := h
      refine s_pure hs rfl rfl (by decide) (Pure.adr he (p_idx rfl rfl rfl sl_54 ha h0 h1)) ?_
      clear hs a ha h0 h1 he; intro a hs
      obtain ⟨t20, hv, h⟩ := h
      refine s_eff hs rfl rfl (by decide) (e_load rfl rfl ct_22 hv) ?_
      clear hs a hv; intro a hs
      obtain ⟨t21, hd, h⟩ := h
      refine s_eff hs rfl rfl (by decide) (e_convert rfl rfl hd) ?_
      clear hs a hd; intro a hs
      refine s_pure hs rfl rfl (by decide) (p_move rfl rfl) ?_
      clear hs a; intro a hs
      refine s_pure hs rfl rfl (by decide) (p_move rfl rfl) ?_
      clear hs a; intro a hs
      obtain ⟨qt24, t24, ha, h0, h1, he, h⟩ := h
      refine s_pure hs rfl rfl (by decide) (Pure.adr he (p_idx rfl rfl rfl sl_54 ha h0 h1)) ?_
      clear hs a ha h0 h1 he; intro a hs
      replace hs := hs.to (τ := [(0, (Sl.val a0)), (1, (Sl.val b1)), (5, (.int .i64 i5_1)), (21, (.string t21)), (24, (.pointer (some t24)))]) ⟨rfl, rfl, rfl, rfl, rfl, trivial⟩
      obtain ⟨t25, hv, h⟩ := h
      refine s_eff hs rfl rfl (by decide) (e_load rfl rfl ct_22 hv) ?_
      clear hs a hv; intro a hs
      obtain ⟨t26, hd, h⟩ := h
      refine s_eff hs rfl rfl (by decide) (e_convert rfl rfl hd) ?_
      clear hs a hd; intro a hs
      refine s_pure hs rfl rfl (by decide) (p_nes rfl rfl rfl) ?_
      clear hs a; intro a hs
      refine hK10 _ _ ?_
      refine c_cond hs rfl (fun hb => ?_) (fun hb => ?_)
      · replace h := h.1 hb
        clear hb
        refine wp_seq_k fun K11 hK11 => ?_
        refine wp_region_lit ?_
        refine t_pure hs rfl rfl (by decide) (p_assign rfl rfl) ?_
        clear hs a; intro a hs
        refine hK11 _ _ ?_
        refine wp_ret ?_
        refine f_ret (fn := Try.f33) hs (fun a hs => r_one hs rfl (rfl)) ⟨false, rfl, h⟩
      · replace h := h.2 hb
        clear hb
        refine wp_skip ?_
        refine hK9 _ _ ?_
        refine wp_region_lit ?_
        refine t_pure hs rfl rfl (by decide) (p_move rfl rfl) ?_
        clear hs a; intro a hs
        obtain ⟨t16, he, h⟩ := h
        refine t_pure hs rfl rfl (by decide) (Pure.int he (p_add rfl rfl rfl)) ?_
        clear hs a he; intro a hs
        refine t_pure hs rfl rfl (by decide) (p_assign rfl rfl) ?_
        clear hs a; intro a hs
        rw [← hX1] at h
        exact ⟨t16, hs.to ⟨rfl, rfl, rfl, trivial⟩, h⟩
    · replace h := h.2 hb
      clear hb
      refine wp_exit ?_
      refine hK5 _ _ ?_
      refine wp_seq_k fun K12 hK12 => ?_
      refine wp_region_lit ?_
      refine t_pure hs rfl rfl (by decide) (p_assign rfl rfl) ?_
      clear hs a; intro a hs
      refine hK12 _ _ ?_
      refine wp_ret ?_
      refine f_ret (fn := Try.f33) hs (fun a hs => r_one hs rfl (rfl)) ⟨true, rfl, h⟩
end Go.Proofs.Ytdpepgjbambinaa
