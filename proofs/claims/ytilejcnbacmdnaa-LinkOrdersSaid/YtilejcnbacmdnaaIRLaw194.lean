/- Plain forms of functions, and that their code comes to them (package law19). -/
import Derived.Test.YtilejcnbacmdnaaCalls
namespace Go.Proofs.Ytilejcnbacmdnaa
open Go Go.Sep
set_option linter.unusedVariables false
set_option linter.unusedSimpArgs false
set_option maxRecDepth 100000
set_option maxHeartbeats 4000000
def law19_pair_step.s1 (Q : K)   : K :=
  Q
def law19_pair_step.s2 (Q : K)  (p0_2 : Addr) (s3_2 : Addr) (side4_2 : Int) (x6_2 : Addr) : K :=
  Ld (s3_2.add 2) (Value.int .i64) fun t124 =>
  Ar (bitsOf .and .i64 t124 2048) fun t125 =>
  Ite (decide (t125 = 0))
    (LdN x6_2 5 fun t129 =>
    law19_pair_come.call (some p0_2) side4_2 t129 <|
    Q)
    (Q)
def law19_pair_step (p0 : (Option Addr)) (s1 : (Array Value)) (Q : K) : K :=
  New 74 s1 fun s3 =>
  Ld (s3.add 1) (Value.int .i64) fun t8 =>
  Ar (bitsOf .and .i64 t8 1) fun t9 =>
  Ld s3 (Value.int .i64) fun t11 =>
  Ar (bitsOf .and .i64 t11 3) fun t12 =>
  Ite (decide (t12 = 0))
    (Dr <|
    Nn p0 fun t16 =>
    IdxA t16 2 t9 1 fun t18 =>
    Ld t18 Value.pointer fun t19 =>
    Ld (s3.add 3) Sl.val fun t21 =>
    link_Link_Send.call t19 t21 fun t22 =>
    Ite (decide (t22 = 0))
      (Dr <| WithS fun S =>
      IdxA (t16.add 4) 2 t9 1 fun t30 =>
      LdS S t30 Sl.val fun t31 =>
      LdS S (s3.add 3) Sl.val fun t34 =>
      New 5 #[] fun t32 =>
      Sv S <|
      Do Try.prog (Builtin.append_ #[22, 22] 22 #[(Sl.val (Sl.mk (some t32) 0 0)), (Sl.val t34)]) Sl.val fun t35 =>
      Sv S <|
      New 22 #[(Sl.val t35)] fun t36 =>
      Sv S <|
      Do Try.prog (Builtin.append_ #[56, 56] 56 #[(Sl.val t31), (Sl.val (Sl.mk (some t36) 1 1))]) Sl.val fun t37 =>
      IdxA (t16.add 4) 2 t9 1 fun t40 =>
      St t40 (Sl.val t37) <|
      law19_pair_step.s1 Q)
      (law19_pair_step.s1 Q))
    (Ld s3 (Value.int .i64) fun t42 =>
    Ar (bitsOf .and .i64 t42 3) fun t43 =>
    Ite (decide (t43 = 1))
      (Dr <| WithS fun S =>
      Ar (IntKind.wrap .i64 (1 - t9)) fun t47 =>
      Ar (IntKind.wrap .i64 (1 - t9)) fun t50 =>
      Nn p0 fun t51 =>
      IdxA (t51.add 2) 2 t50 1 fun t53 =>
      IdxA t51 2 t9 1 fun t59 =>
      LdS S t53 Sl.val fun t54 =>
      LdS S t59 Value.pointer fun t60 =>
      link_Link_Packets.call t60 fun t61 =>
      Sv S <|
      Do Try.prog (Builtin.append_ #[60, 60] 60 #[(Sl.val t54), (Sl.val t61)]) Sl.val fun t62 =>
      IdxA (t51.add 2) 2 t47 1 fun t65 =>
      St t65 (Sl.val t62) <|
      Q)
      (Nn p0 fun t68 =>
      IdxA (t68.add 2) 2 t9 1 fun t70 =>
      Ld t70 Sl.val fun t71 =>
      Ite (decide ((t71.n : Int) = 0))
        (Q)
        (Dr <|
        Ld (s3.add 2) (Value.int .i64) fun t75 =>
        Ar (bitsOf .and .i64 t75 1023) fun t76 =>
        IdxA (t68.add 2) 2 t9 1 fun t81 =>
        Ld t81 Sl.val fun t82 =>
        Cd ((t82.n : Int) ≠ 0) <|
        Ar (Int.tmod t76 (t82.n : Int)) fun t84 =>
        IdxA (t68.add 2) 2 t9 1 fun t89 =>
        Ld t89 Sl.val fun t90 =>
        Idx t90 t84 5 fun t92 =>
        LdN t92 5 fun t93 =>
        New 36 #[(.int .u64 0), (.int .u64 0), (.int .u64 0), (.int .u64 0), (Sl.val ⟨none, 0, 0⟩)] fun x6 =>
        StN x6 5 t93 <|
        Ld (s3.add 2) (Value.int .i64) fun t95 =>
        Ar (bitsOf .and .i64 t95 1024) fun t96 =>
        Ite (decide (t96 = 0))
          (Dr <| WithS fun S =>
          IdxA (t68.add 2) 2 t9 1 fun t105 =>
          IdxA (t68.add 2) 2 t9 1 fun t114 =>
          Ar (IntKind.wrap .i64 (t84 + 1)) fun t117 =>
          LdS S t105 Sl.val fun t106 =>
          Slc t106 0 t84 (t106.c : Int) 5 fun t108 =>
          LdS S t114 Sl.val fun t115 =>
          Slc t115 t117 (t115.n : Int) (t115.c : Int) 5 fun t118 =>
          New 36 #[] fun t100 =>
          Sv S <|
          Do Try.prog (Builtin.append_ #[60, 60] 60 #[(Sl.val (Sl.mk (some t100) 0 0)), (Sl.val t108)]) Sl.val fun t109 =>
          Sv S <|
          Do Try.prog (Builtin.append_ #[60, 60] 60 #[(Sl.val t109), (Sl.val t118)]) Sl.val fun t119 =>
          IdxA (t68.add 2) 2 t9 1 fun t122 =>
          St t122 (Sl.val t119) <|
          law19_pair_step.s2 Q t68 s3 t9 x6)
          (law19_pair_step.s2 Q t68 s3 t9 x6))))
theorem law19_pair_step_ok (p0 : (Option Addr)) (s1 : (Array Value)) (Q : K) (w : World) (h : law19_pair_step p0 s1 Q w) : law19_pair_step.call p0 s1 Q w := by
  unfold law19_pair_step.call CallF
  refine f_start (args := [(.pointer p0), (.agg s1)]) Try.func34 rfl (Nat.le_of_ble_eq_true rfl) ?_
  intro a hs
  unfold law19_pair_step at h
  refine wp_seq_k fun K1 hK1 => ?_
  refine wp_region_lit ?_
  obtain ⟨s3, w1, ha, hw, h⟩ := h
  refine t_eff hs rfl rfl (by decide) (e_box rfl rfl rfl ha hw) ?_
  clear hs a ha hw
  intro a hs
  refine hK1 _ _ ?_
  refine wp_seq_k fun K2 hK2 => ?_
  refine wp_region_lit ?_
  refine t_pure hs rfl rfl (by decide) (p_fieldAddr rfl rfl ft_74_1) ?_
  clear hs a
  intro a hs
  obtain ⟨t8, hv, h⟩ := h
  refine t_eff hs rfl rfl (by decide) (e_load rfl rfl ct_3 hv) ?_
  clear hs a hv
  intro a hs
  obtain ⟨t9, he, h⟩ := h
  refine t_pure hs rfl rfl (by decide) (Pure.int he (p_and rfl rfl rfl)) ?_
  clear hs a he
  intro a hs
  refine t_pure hs rfl rfl (by decide) (p_assign rfl rfl) ?_
  clear hs a
  intro a hs
  refine hK2 _ _ ?_
  refine wp_seq_k fun K3 hK3 => ?_
  refine wp_seq_k fun K4 hK4 => ?_
  refine wp_region_lit ?_
  refine t_pure hs rfl rfl (by decide) (p_fieldAddr0 rfl rfl ft_74_0) ?_
  clear hs a
  intro a hs
  obtain ⟨t11, hv, h⟩ := h
  refine t_eff hs rfl rfl (by decide) (e_load rfl rfl ct_3 hv) ?_
  clear hs a hv
  intro a hs
  obtain ⟨t12, he, h⟩ := h
  refine t_pure hs rfl rfl (by decide) (Pure.int he (p_and rfl rfl rfl)) ?_
  clear hs a he
  intro a hs
  refine t_pure hs rfl rfl (by decide) (p_eq rfl rfl rfl) ?_
  clear hs a
  intro a hs
  refine hK4 _ _ ?_
  refine c_cond hs rfl (fun hb => ?_) (fun hb => ?_)
  · replace h := h.1 hb
    clear hb
    refine wp_seq_k fun K5 hK5 => ?_
    have J1 : ∀ (a : Act) (w : World), Slots a 131 [] → law19_pair_step.s1 Q w → K5 a w := by
      clear h hs
      intro a w hs h
      refine hK5 _ _ ?_
      unfold law19_pair_step.s1 at h
      refine wp_ret ?_
      refine f_ret (fn := Try.f34) hs (fun a hs => r_many hs (rs := []) (vs := []) rfl (by decide) trivial) ⟨rfl, h⟩
    clear hK5
    refine wp_seq_k fun K6 hK6 => ?_
    obtain ⟨w1, hw1, h⟩ := h
    refine d_start (S := Is w1) (ds := [8]) #[false, false, false, false, false, false, false, false, false, false] mixed rfl rfl ?_
    rw [← hw1]
    have hS := Is.intro w1
    clear hw1
    refine d_pure hs #[true, false, false, false, false, false, false, false, false, false] (i := 0) rfl rfl rfl (by decide) (by kernel_rfl) (tight_body (P := Try.prog) (fn := Try.f34)) (p_move rfl rfl) ?_
    clear hs a
    intro a hs
    refine d_pure hs #[true, true, false, false, false, false, false, false, false, false] (i := 1) rfl rfl rfl (by decide) (by kernel_rfl) (tight_body (P := Try.prog) (fn := Try.f34)) (p_move rfl rfl) ?_
    clear hs a
    intro a hs
    obtain ⟨t16, rfl, h⟩ := h
    refine d_pure hs #[true, true, true, false, false, false, false, false, false, false] (i := 2) rfl rfl rfl (by decide) (by kernel_rfl) (tight_body (P := Try.prog) (fn := Try.f34)) (p_nil rfl rfl) ?_
    clear hs a
    intro a hs
    refine d_pure hs #[true, true, true, true, false, false, false, false, false, false] (i := 3) rfl rfl rfl (by decide) (by kernel_rfl) (tight_body (P := Try.prog) (fn := Try.f34)) (p_fieldAddr0 rfl rfl ft_72_0) ?_
    clear hs a
    intro a hs
    obtain ⟨t18, h0, h1, he, h⟩ := h
    refine d_pure hs #[true, true, true, true, true, false, false, false, false, false] (i := 4) rfl rfl rfl (by decide) (by kernel_rfl) (tight_body (P := Try.prog) (fn := Try.f34)) (Pure.adr he (p_idxA rfl rfl rfl ar_68 h0 h1)) ?_
    clear hs a h0 h1 he
    intro a hs
    refine d_pure hs #[true, true, true, true, true, false, true, false, false, false] (i := 6) rfl rfl rfl (by decide) (by kernel_rfl) (tight_body (P := Try.prog) (fn := Try.f34)) (p_fieldAddr rfl rfl ft_74_3) ?_
    clear hs a
    intro a hs
    obtain ⟨t19, hv, h⟩ := h
    refine d_read hs #[true, true, true, true, true, true, true, false, false, false] (i := 5) rfl rfl rfl (by decide) (by kernel_rfl) (by kernel_rfl) (tight_body (P := Try.prog) (fn := Try.f34)) hS (fun w h' => by have h1 := h'.out; subst h1; exact e_load rfl rfl ct_57 hv) ?_
    clear hs a hv
    intro a hs
    obtain ⟨t21, hv, h⟩ := h
    refine d_read hs #[true, true, true, true, true, true, true, true, false, false] (i := 7) rfl rfl rfl (by decide) (by kernel_rfl) (by kernel_rfl) (tight_body (P := Try.prog) (fn := Try.f34)) hS (fun w h' => by have h1 := h'.out; subst h1; exact e_load rfl rfl ct_22 hv) ?_
    clear hs a hv
    intro a hs
    replace hs := hs.to (τ := [(0, (.pointer (some t16))), (3, (.pointer (some s3))), (4, (.int .i64 t9)), (19, (.pointer t19)), (21, (Sl.val t21))]) ⟨rfl, rfl, rfl, rfl, rfl, trivial⟩
    refine d_all [8] (by kernel_rfl) (by decide) ?_
    refine AllS.cons ?_ AllS.nil
    refine d_call hs #[true, true, true, true, true, true, true, true, true, false] (i := 8) rfl rfl rfl (by decide) rfl (e_call rfl rfl rfl cb_30) h (fun _ _ _ hn => (hn (by decide)).elim) ?_
    clear hs a h
    intro v a w hk hs
    obtain ⟨t22, rfl, h⟩ := hk
    refine d_pure hs #[true, true, true, true, true, true, true, true, true, true] (i := 9) rfl rfl rfl (by decide) (by kernel_rfl) (tight_body (P := Try.prog) (fn := Try.f34)) (p_eq rfl rfl rfl) ?_
    clear hs a
    intro a hs
    refine d_done (by kernel_rfl) ?_ _
    clear hS
    refine hK6 _ _ ?_
    refine c_cond hs rfl (fun hb => ?_) (fun hb => ?_)
    · replace h := h.1 hb
      clear hb
      obtain ⟨w1, hw1, h⟩ := h
      obtain ⟨S, hS, h⟩ := h
      subst hw1
      refine d_start (S := S) (ds := [13, 17]) #[false, false, false, false, false, false, false, false, false, false, false, false, false, false, false, false, false, false] mixed rfl rfl ?_
      refine d_pure hs #[true, false, false, false, false, false, false, false, false, false, false, false, false, false, false, false, false, false] (i := 0) rfl rfl rfl (by decide) (by kernel_rfl) (tight_body (P := Try.prog) (fn := Try.f34)) (p_move rfl rfl) ?_
      clear hs a
      intro a hs
      refine d_pure hs #[true, true, false, false, false, false, false, false, false, false, false, false, false, false, false, false, false, false] (i := 1) rfl rfl rfl (by decide) (by kernel_rfl) (tight_body (P := Try.prog) (fn := Try.f34)) (p_move rfl rfl) ?_
      clear hs a
      intro a hs
      refine d_pure hs #[true, true, true, false, false, false, false, false, false, false, false, false, false, false, false, false, false, false] (i := 2) rfl rfl rfl (by decide) (by kernel_rfl) (tight_body (P := Try.prog) (fn := Try.f34)) (p_move rfl rfl) ?_
      clear hs a
      intro a hs
      refine d_pure hs #[true, true, true, true, false, false, false, false, false, false, false, false, false, false, false, false, false, false] (i := 3) rfl rfl rfl (by decide) (by kernel_rfl) (tight_body (P := Try.prog) (fn := Try.f34)) (p_move rfl rfl) ?_
      clear hs a
      intro a hs
      refine d_pure hs #[true, true, true, true, true, false, false, false, false, false, false, false, false, false, false, false, false, false] (i := 4) rfl rfl rfl (by decide) (by kernel_rfl) (tight_body (P := Try.prog) (fn := Try.f34)) (p_nil rfl rfl) ?_
      clear hs a
      intro a hs
      refine d_pure hs #[true, true, true, true, true, true, false, false, false, false, false, false, false, false, false, false, false, false] (i := 5) rfl rfl rfl (by decide) (by kernel_rfl) (tight_body (P := Try.prog) (fn := Try.f34)) (p_fieldAddr rfl rfl ft_72_2) ?_
      clear hs a
      intro a hs
      obtain ⟨t30, h0, h1, he, h⟩ := h
      refine d_pure hs #[true, true, true, true, true, true, true, false, false, false, false, false, false, false, false, false, false, false] (i := 6) rfl rfl rfl (by decide) (by kernel_rfl) (tight_body (P := Try.prog) (fn := Try.f34)) (Pure.adr he (p_idxA rfl rfl rfl ar_70 h0 h1)) ?_
      clear hs a h0 h1 he
      intro a hs
      refine d_pure hs #[true, true, true, true, true, true, true, false, false, true, false, false, false, false, false, false, false, false] (i := 9) rfl rfl rfl (by decide) (by kernel_rfl) (tight_body (P := Try.prog) (fn := Try.f34)) (p_fieldAddr rfl rfl ft_74_3) ?_
      clear hs a
      intro a hs
      replace hs := hs.to (τ := [(24, (.pointer (some t16))), (25, (.int .i64 t9)), (30, (.pointer (some t30))), (33, (.pointer (some (s3.add 3))))]) ⟨rfl, rfl, rfl, rfl, trivial⟩
      refine d_pure hs #[true, true, true, true, true, true, true, false, false, true, false, false, false, false, true, false, false, false] (i := 14) rfl rfl rfl (by decide) (by kernel_rfl) (tight_body (P := Try.prog) (fn := Try.f34)) (p_nil rfl rfl) ?_
      clear hs a
      intro a hs
      refine d_pure hs #[true, true, true, true, true, true, true, false, false, true, false, false, false, false, true, true, false, false] (i := 15) rfl rfl rfl (by decide) (by kernel_rfl) (tight_body (P := Try.prog) (fn := Try.f34)) (p_fieldAddr rfl rfl ft_72_2) ?_
      clear hs a
      intro a hs
      obtain ⟨t31, hv, h⟩ := h
      refine d_read hs #[true, true, true, true, true, true, true, true, false, true, false, false, false, false, true, true, false, false] (i := 7) rfl rfl rfl (by decide) (by kernel_rfl) (by kernel_rfl) (tight_body (P := Try.prog) (fn := Try.f34)) hS (fun w h' => e_load rfl rfl ct_56 (hv w h')) ?_
      clear hs a hv
      intro a hs
      obtain ⟨t34, hv, h⟩ := h
      refine d_read hs #[true, true, true, true, true, true, true, true, false, true, true, false, false, false, true, true, false, false] (i := 10) rfl rfl rfl (by decide) (by kernel_rfl) (by kernel_rfl) (tight_body (P := Try.prog) (fn := Try.f34)) hS (fun w h' => e_load rfl rfl ct_22 (hv w h')) ?_
      clear hs a hv
      intro a hs
      refine d_all [8] (by kernel_rfl) (by decide) ?_
      refine AllS.cons ?_ AllS.nil
      obtain ⟨t32, w1, ha, hw, h⟩ := h
      obtain ⟨hS, h⟩ := h
      refine d_eff hs #[true, true, true, true, true, true, true, true, true, true, true, false, false, false, true, true, false, false] (i := 8) rfl rfl rfl (by decide) rfl (e_buildSlice (z := #[]) (cs := #[]) rfl sl_22 zt_5 (by decide) rfl rz_5_0 (by rfl) ha hw) (fun _ _ => hS) ?_
      clear hs a ha hw
      intro a hs
      refine d_all [11] (by kernel_rfl) (by decide) ?_
      refine AllS.cons ?_ AllS.nil
      obtain ⟨t35, w1, hd, h⟩ := h
      obtain ⟨hS, h⟩ := h
      refine d_eff hs #[true, true, true, true, true, true, true, true, true, true, true, true, false, false, true, true, false, false] (i := 11) rfl rfl rfl (by decide) rfl (e_append rfl rfl rfl rfl hd) (fun _ _ => hS) ?_
      clear hs a hd
      intro a hs
      refine d_all [12] (by kernel_rfl) (by decide) ?_
      refine AllS.cons ?_ AllS.nil
      obtain ⟨t36, w1, ha, hw, h⟩ := h
      obtain ⟨hS, h⟩ := h
      refine d_eff hs #[true, true, true, true, true, true, true, true, true, true, true, true, true, false, true, true, false, false] (i := 12) rfl rfl rfl (by decide) rfl (e_buildSlice (z := #[(Sl.val ⟨none, 0, 0⟩)]) (cs := #[(Sl.val t35)]) rfl sl_56 zt_22 (by decide) rfl rz_22_1 (by rfl) ha hw) (fun _ _ => hS) ?_
      clear hs a ha hw
      intro a hs
      refine d_all [13] (by kernel_rfl) (by decide) ?_
      refine AllS.cons ?_ AllS.nil
      obtain ⟨t37, w1, hd, h⟩ := h
      refine d_eff hs #[true, true, true, true, true, true, true, true, true, true, true, true, true, true, true, true, false, false] (i := 13) rfl rfl rfl (by decide) rfl (e_append rfl rfl rfl rfl hd) (fun hn => (hn (by decide)).elim) ?_
      clear hs a hd
      intro a hs
      replace hs := hs.to (τ := [(25, (.int .i64 t9)), (37, (Sl.val t37)), (39, (.pointer (some (t16.add 4))))]) ⟨rfl, rfl, rfl, trivial⟩
      obtain ⟨t40, h0, h1, he, h⟩ := h
      refine d_pure hs #[true, true, true, true, true, true, true, true, true, true, true, true, true, true, true, true, true, false] (i := 16) rfl rfl rfl (by decide) (by kernel_rfl) (tight_body (P := Try.prog) (fn := Try.f34)) (Pure.adr he (p_idxA rfl rfl rfl ar_70 h0 h1)) ?_
      clear hs a h0 h1 he
      intro a hs
      refine d_all [17] (by kernel_rfl) (by decide) ?_
      refine AllS.cons ?_ AllS.nil
      obtain ⟨w1, hw, hc, hf, hv, h⟩ := h
      refine d_skip hs #[true, true, true, true, true, true, true, true, true, true, true, true, true, true, true, true, true, true] (i := 17) rfl rfl rfl rfl (e_store rfl rfl rfl sz_56 hw hc hf hv) (fun hn => (hn (by decide)).elim) ?_
      clear hs a hw hc hf hv
      intro a hs
      refine d_done (by kernel_rfl) ?_ _
      clear hS
      exact J1 _ _ (hs.to trivial) h
    · replace h := h.2 hb
      clear hb
      refine wp_skip ?_
      exact J1 _ _ (hs.to trivial) h
  · replace h := h.2 hb
    clear hb
    refine wp_skip ?_
    refine hK3 _ _ ?_
    refine wp_seq_k fun K7 hK7 => ?_
    refine wp_seq_k fun K8 hK8 => ?_
    refine wp_region_lit ?_
    refine t_pure hs rfl rfl (by decide) (p_fieldAddr0 rfl rfl ft_74_0) ?_
    clear hs a
    intro a hs
    obtain ⟨t42, hv, h⟩ := h
    refine t_eff hs rfl rfl (by decide) (e_load rfl rfl ct_3 hv) ?_
    clear hs a hv
    intro a hs
    obtain ⟨t43, he, h⟩ := h
    refine t_pure hs rfl rfl (by decide) (Pure.int he (p_and rfl rfl rfl)) ?_
    clear hs a he
    intro a hs
    refine t_pure hs rfl rfl (by decide) (p_eq rfl rfl rfl) ?_
    clear hs a
    intro a hs
    refine hK8 _ _ ?_
    refine c_cond hs rfl (fun hb => ?_) (fun hb => ?_)
    · replace h := h.1 hb
      clear hb
      refine wp_seq_k fun K9 hK9 => ?_
      obtain ⟨w1, hw1, h⟩ := h
      obtain ⟨S, hS, h⟩ := h
      subst hw1
      refine d_start (S := S) (ds := [17, 21]) #[false, false, false, false, false, false, false, false, false, false, false, false, false, false, false, false, false, false, false, false, false, false] mixed rfl rfl ?_
      refine d_pure hs #[true, false, false, false, false, false, false, false, false, false, false, false, false, false, false, false, false, false, false, false, false, false] (i := 0) rfl rfl rfl (by decide) (by kernel_rfl) (tight_body (P := Try.prog) (fn := Try.f34)) (p_move rfl rfl) ?_
      clear hs a
      intro a hs
      refine d_pure hs #[true, true, false, false, false, false, false, false, false, false, false, false, false, false, false, false, false, false, false, false, false, false] (i := 1) rfl rfl rfl (by decide) (by kernel_rfl) (tight_body (P := Try.prog) (fn := Try.f34)) (p_move rfl rfl) ?_
      clear hs a
      intro a hs
      obtain ⟨t47, he, h⟩ := h
      refine d_pure hs #[true, true, true, false, false, false, false, false, false, false, false, false, false, false, false, false, false, false, false, false, false, false] (i := 2) rfl rfl rfl (by decide) (by kernel_rfl) (tight_body (P := Try.prog) (fn := Try.f34)) (Pure.int he (p_sub rfl rfl rfl)) ?_
      clear hs a he
      intro a hs
      refine d_pure hs #[true, true, true, true, false, false, false, false, false, false, false, false, false, false, false, false, false, false, false, false, false, false] (i := 3) rfl rfl rfl (by decide) (by kernel_rfl) (tight_body (P := Try.prog) (fn := Try.f34)) (p_move rfl rfl) ?_
      clear hs a
      intro a hs
      refine d_pure hs #[true, true, true, true, true, false, false, false, false, false, false, false, false, false, false, false, false, false, false, false, false, false] (i := 4) rfl rfl rfl (by decide) (by kernel_rfl) (tight_body (P := Try.prog) (fn := Try.f34)) (p_move rfl rfl) ?_
      clear hs a
      intro a hs
      obtain ⟨t50, he, h⟩ := h
      refine d_pure hs #[true, true, true, true, true, true, false, false, false, false, false, false, false, false, false, false, false, false, false, false, false, false] (i := 5) rfl rfl rfl (by decide) (by kernel_rfl) (tight_body (P := Try.prog) (fn := Try.f34)) (Pure.int he (p_sub rfl rfl rfl)) ?_
      clear hs a he
      intro a hs
      obtain ⟨t51, rfl, h⟩ := h
      refine d_pure hs #[true, true, true, true, true, true, true, false, false, false, false, false, false, false, false, false, false, false, false, false, false, false] (i := 6) rfl rfl rfl (by decide) (by kernel_rfl) (tight_body (P := Try.prog) (fn := Try.f34)) (p_nil rfl rfl) ?_
      clear hs a
      intro a hs
      refine d_pure hs #[true, true, true, true, true, true, true, true, false, false, false, false, false, false, false, false, false, false, false, false, false, false] (i := 7) rfl rfl rfl (by decide) (by kernel_rfl) (tight_body (P := Try.prog) (fn := Try.f34)) (p_fieldAddr rfl rfl ft_72_1) ?_
      clear hs a
      intro a hs
      replace hs := hs.to (τ := [(0, (.pointer (some t51))), (4, (.int .i64 t9)), (45, (.pointer (some t51))), (47, (.int .i64 t47)), (50, (.int .i64 t50)), (52, (.pointer (some (t51.add 2))))]) ⟨rfl, rfl, rfl, rfl, rfl, rfl, trivial⟩
      obtain ⟨t53, h0, h1, he, h⟩ := h
      refine d_pure hs #[true, true, true, true, true, true, true, true, true, false, false, false, false, false, false, false, false, false, false, false, false, false] (i := 8) rfl rfl rfl (by decide) (by kernel_rfl) (tight_body (P := Try.prog) (fn := Try.f34)) (Pure.adr he (p_idxA rfl rfl rfl ar_69 h0 h1)) ?_
      clear hs a h0 h1 he
      intro a hs
      refine d_pure hs #[true, true, true, true, true, true, true, true, true, false, true, false, false, false, false, false, false, false, false, false, false, false] (i := 10) rfl rfl rfl (by decide) (by kernel_rfl) (tight_body (P := Try.prog) (fn := Try.f34)) (p_move rfl rfl) ?_
      clear hs a
      intro a hs
      refine d_pure hs #[true, true, true, true, true, true, true, true, true, false, true, true, false, false, false, false, false, false, false, false, false, false] (i := 11) rfl rfl rfl (by decide) (by kernel_rfl) (tight_body (P := Try.prog) (fn := Try.f34)) (p_move rfl rfl) ?_
      clear hs a
      intro a hs
      refine d_pure hs #[true, true, true, true, true, true, true, true, true, false, true, true, true, false, false, false, false, false, false, false, false, false] (i := 12) rfl rfl rfl (by decide) (by kernel_rfl) (tight_body (P := Try.prog) (fn := Try.f34)) (p_nil rfl rfl) ?_
      clear hs a
      intro a hs
      refine d_pure hs #[true, true, true, true, true, true, true, true, true, false, true, true, true, true, false, false, false, false, false, false, false, false] (i := 13) rfl rfl rfl (by decide) (by kernel_rfl) (tight_body (P := Try.prog) (fn := Try.f34)) (p_fieldAddr0 rfl rfl ft_72_0) ?_
      clear hs a
      intro a hs
      obtain ⟨t59, h0, h1, he, h⟩ := h
      refine d_pure hs #[true, true, true, true, true, true, true, true, true, false, true, true, true, true, true, false, false, false, false, false, false, false] (i := 14) rfl rfl rfl (by decide) (by kernel_rfl) (tight_body (P := Try.prog) (fn := Try.f34)) (Pure.adr he (p_idxA rfl rfl rfl ar_68 h0 h1)) ?_
      clear hs a h0 h1 he
      intro a hs
      refine d_pure hs #[true, true, true, true, true, true, true, true, true, false, true, true, true, true, true, false, false, false, true, false, false, false] (i := 18) rfl rfl rfl (by decide) (by kernel_rfl) (tight_body (P := Try.prog) (fn := Try.f34)) (p_nil rfl rfl) ?_
      clear hs a
      intro a hs
      refine d_pure hs #[true, true, true, true, true, true, true, true, true, false, true, true, true, true, true, false, false, false, true, true, false, false] (i := 19) rfl rfl rfl (by decide) (by kernel_rfl) (tight_body (P := Try.prog) (fn := Try.f34)) (p_fieldAddr rfl rfl ft_72_1) ?_
      clear hs a
      intro a hs
      replace hs := hs.to (τ := [(47, (.int .i64 t47)), (53, (.pointer (some t53))), (59, (.pointer (some t59))), (64, (.pointer (some (t51.add 2))))]) ⟨rfl, rfl, rfl, rfl, trivial⟩
      obtain ⟨t54, hv, h⟩ := h
      refine d_read hs #[true, true, true, true, true, true, true, true, true, true, true, true, true, true, true, false, false, false, true, true, false, false] (i := 9) rfl rfl rfl (by decide) (by kernel_rfl) (by kernel_rfl) (tight_body (P := Try.prog) (fn := Try.f34)) hS (fun w h' => e_load rfl rfl ct_60 (hv w h')) ?_
      clear hs a hv
      intro a hs
      obtain ⟨t60, hv, h⟩ := h
      refine d_read hs #[true, true, true, true, true, true, true, true, true, true, true, true, true, true, true, true, false, false, true, true, false, false] (i := 15) rfl rfl rfl (by decide) (by kernel_rfl) (by kernel_rfl) (tight_body (P := Try.prog) (fn := Try.f34)) hS (fun w h' => e_load rfl rfl ct_57 (hv w h')) ?_
      clear hs a hv
      intro a hs
      refine d_all [16] (by kernel_rfl) (by decide) ?_
      refine AllS.cons ?_ AllS.nil
      refine d_call hs #[true, true, true, true, true, true, true, true, true, true, true, true, true, true, true, true, true, false, true, true, false, false] (i := 16) rfl rfl rfl (by decide) rfl (e_call rfl rfl rfl cb_32) h (fun v w'' hk => by obtain ⟨t61, _, hS, _⟩ := hk; exact fun _ _ => hS) ?_
      clear hs a h
      intro v a w hk hs
      obtain ⟨t61, rfl, h⟩ := hk
      obtain ⟨hS, h⟩ := h
      refine d_all [17] (by kernel_rfl) (by decide) ?_
      refine AllS.cons ?_ AllS.nil
      obtain ⟨t62, w1, hd, h⟩ := h
      refine d_eff hs #[true, true, true, true, true, true, true, true, true, true, true, true, true, true, true, true, true, true, true, true, false, false] (i := 17) rfl rfl rfl (by decide) rfl (e_append rfl rfl rfl rfl hd) (fun hn => (hn (by decide)).elim) ?_
      clear hs a hd
      intro a hs
      obtain ⟨t65, h0, h1, he, h⟩ := h
      refine d_pure hs #[true, true, true, true, true, true, true, true, true, true, true, true, true, true, true, true, true, true, true, true, true, false] (i := 20) rfl rfl rfl (by decide) (by kernel_rfl) (tight_body (P := Try.prog) (fn := Try.f34)) (Pure.adr he (p_idxA rfl rfl rfl ar_69 h0 h1)) ?_
      clear hs a h0 h1 he
      intro a hs
      refine d_all [21] (by kernel_rfl) (by decide) ?_
      refine AllS.cons ?_ AllS.nil
      obtain ⟨w1, hw, hc, hf, hv, h⟩ := h
      refine d_skip hs #[true, true, true, true, true, true, true, true, true, true, true, true, true, true, true, true, true, true, true, true, true, true] (i := 21) rfl rfl rfl rfl (e_store rfl rfl rfl sz_60 hw hc hf hv) (fun hn => (hn (by decide)).elim) ?_
      clear hs a hw hc hf hv
      intro a hs
      refine d_done (by kernel_rfl) ?_ _
      clear hS
      refine hK9 _ _ ?_
      refine wp_ret ?_
      refine f_ret (fn := Try.f34) hs (fun a hs => r_many hs (rs := []) (vs := []) rfl (by decide) trivial) ⟨rfl, h⟩
    · replace h := h.2 hb
      clear hb
      refine wp_skip ?_
      refine hK7 _ _ ?_
      refine wp_seq_k fun K10 hK10 => ?_
      refine wp_seq_k fun K11 hK11 => ?_
      refine wp_region_lit ?_
      refine t_pure hs rfl rfl (by decide) (p_move rfl rfl) ?_
      clear hs a
      intro a hs
      refine t_pure hs rfl rfl (by decide) (p_move rfl rfl) ?_
      clear hs a
      intro a hs
      obtain ⟨t68, rfl, h⟩ := h
      refine t_pure hs rfl rfl (by decide) (p_nil rfl rfl) ?_
      clear hs a
      intro a hs
      refine t_pure hs rfl rfl (by decide) (p_fieldAddr rfl rfl ft_72_1) ?_
      clear hs a
      intro a hs
      obtain ⟨t70, h0, h1, he, h⟩ := h
      refine t_pure hs rfl rfl (by decide) (Pure.adr he (p_idxA rfl rfl rfl ar_69 h0 h1)) ?_
      clear hs a h0 h1 he
      intro a hs
      obtain ⟨t71, hv, h⟩ := h
      refine t_eff hs rfl rfl (by decide) (e_load rfl rfl ct_60 hv) ?_
      clear hs a hv
      intro a hs
      refine t_pure hs rfl rfl (by decide) (p_len rfl rfl sl_60) ?_
      clear hs a
      intro a hs
      refine t_pure hs rfl rfl (by decide) (p_eq rfl rfl rfl) ?_
      clear hs a
      intro a hs
      refine hK11 _ _ ?_
      refine c_cond hs rfl (fun hb => ?_) (fun hb => ?_)
      · replace h := h.1 hb
        clear hb
        refine wp_ret ?_
        refine f_ret (fn := Try.f34) hs (fun a hs => r_many hs (rs := []) (vs := []) rfl (by decide) trivial) ⟨rfl, h⟩
      · replace h := h.2 hb
        clear hb
        refine wp_skip ?_
        refine hK10 _ _ ?_
        refine wp_seq_k fun K12 hK12 => ?_
        obtain ⟨w1, hw1, h⟩ := h
        refine s_start mixed (by kernel_rfl) hw1 ?_
        clear hw1
        refine s_pure hs rfl rfl (by decide) (p_fieldAddr rfl rfl ft_74_2) ?_
        clear hs a
        intro a hs
        obtain ⟨t75, hv, h⟩ := h
        refine s_eff hs rfl rfl (by decide) (e_load rfl rfl ct_3 hv) ?_
        clear hs a hv
        intro a hs
        obtain ⟨t76, he, h⟩ := h
        refine s_pure hs rfl rfl (by decide) (Pure.int he (p_and rfl rfl rfl)) ?_
        clear hs a he
        intro a hs
        refine s_pure hs rfl rfl (by decide) (p_move rfl rfl) ?_
        clear hs a
        intro a hs
        refine s_pure hs rfl rfl (by decide) (p_move rfl rfl) ?_
        clear hs a
        intro a hs
        refine s_pure hs rfl rfl (by decide) (p_nil rfl rfl) ?_
        clear hs a
        intro a hs
        refine s_pure hs rfl rfl (by decide) (p_fieldAddr rfl rfl ft_72_1) ?_
        clear hs a
        intro a hs
        obtain ⟨t81, h0, h1, he, h⟩ := h
        refine s_pure hs rfl rfl (by decide) (Pure.adr he (p_idxA rfl rfl rfl ar_69 h0 h1)) ?_
        clear hs a h0 h1 he
        intro a hs
        replace hs := hs.to (τ := [(0, (.pointer (some t68))), (3, (.pointer (some s3))), (4, (.int .i64 t9)), (76, (.int .i64 t76)), (81, (.pointer (some t81)))]) ⟨rfl, rfl, rfl, rfl, rfl, trivial⟩
        obtain ⟨t82, hv, h⟩ := h
        refine s_eff hs rfl rfl (by decide) (e_load rfl rfl ct_60 hv) ?_
        clear hs a hv
        intro a hs
        refine s_pure hs rfl rfl (by decide) (p_len rfl rfl sl_60) ?_
        clear hs a
        intro a hs
        obtain ⟨h0, t84, he, h⟩ := h
        refine s_pure hs rfl rfl (by decide) (Pure.int he (p_rem rfl rfl rfl h0)) ?_
        clear hs a h0 he
        intro a hs
        refine s_pure hs rfl rfl (by decide) (p_assign rfl rfl) ?_
        clear hs a
        intro a hs
        refine hK12 _ _ ?_
        refine wp_seq_k fun K13 hK13 => ?_
        refine wp_region_lit ?_
        refine t_pure hs rfl rfl (by decide) (p_move rfl rfl) ?_
        clear hs a
        intro a hs
        refine t_pure hs rfl rfl (by decide) (p_move rfl rfl) ?_
        clear hs a
        intro a hs
        refine t_pure hs rfl rfl (by decide) (p_nil rfl rfl) ?_
        clear hs a
        intro a hs
        refine t_pure hs rfl rfl (by decide) (p_fieldAddr rfl rfl ft_72_1) ?_
        clear hs a
        intro a hs
        obtain ⟨t89, h0, h1, he, h⟩ := h
        refine t_pure hs rfl rfl (by decide) (Pure.adr he (p_idxA rfl rfl rfl ar_69 h0 h1)) ?_
        clear hs a h0 h1 he
        intro a hs
        obtain ⟨t90, hv, h⟩ := h
        refine t_eff hs rfl rfl (by decide) (e_load rfl rfl ct_60 hv) ?_
        clear hs a hv
        intro a hs
        refine t_pure hs rfl rfl (by decide) (p_move rfl rfl) ?_
        clear hs a
        intro a hs
        obtain ⟨qt92, t92, ha, h0, h1, he, h⟩ := h
        refine t_pure hs rfl rfl (by decide) (Pure.adr he (p_idx rfl rfl rfl sl_60 ha h0 h1)) ?_
        clear hs a ha h0 h1 he
        intro a hs
        replace hs := hs.to (τ := [(0, (.pointer (some t68))), (3, (.pointer (some s3))), (4, (.int .i64 t9)), (5, (.int .i64 t84)), (92, (.pointer (some t92)))]) ⟨rfl, rfl, rfl, rfl, rfl, trivial⟩
        obtain ⟨t93, hn, hv, h⟩ := h
        refine t_eff hs rfl rfl (by decide) (e_loadN rfl rfl at_36 hn hv) ?_
        clear hs a hn hv
        intro a hs
        obtain ⟨x6, w1, ha, hw, h⟩ := h
        refine t_eff hs rfl rfl (by decide) (e_alloc rfl zt_36 rfl ha hw) ?_
        clear hs a ha hw
        intro a hs
        obtain ⟨w1, hw, hn, hc, hv, h⟩ := h
        refine t_skip hs rfl rfl (e_storeN rfl rfl rfl sz_36 hw hn hc hv) ?_
        clear hs a hw hn hc hv
        intro a hs
        refine hK13 _ _ ?_
        refine wp_seq_k fun K14 hK14 => ?_
        have J2 : ∀ (a : Act) (w : World), Slots a 131 [(0, (.pointer (some t68))), (3, (.pointer (some s3))), (4, (.int .i64 t9)), (6, (.pointer (some x6)))] → law19_pair_step.s2 Q t68 s3 t9 x6 w → K14 a w := by
          clear h hs
          intro a w hs h
          refine hK14 _ _ ?_
          unfold law19_pair_step.s2 at h
          refine wp_seq_k fun K15 hK15 => ?_
          refine wp_region_lit ?_
          refine t_pure hs rfl rfl (by decide) (p_fieldAddr rfl rfl ft_74_2) ?_
          clear hs a
          intro a hs
          obtain ⟨t124, hv, h⟩ := h
          refine t_eff hs rfl rfl (by decide) (e_load rfl rfl ct_3 hv) ?_
          clear hs a hv
          intro a hs
          obtain ⟨t125, he, h⟩ := h
          refine t_pure hs rfl rfl (by decide) (Pure.int he (p_and rfl rfl rfl)) ?_
          clear hs a he
          intro a hs
          refine t_pure hs rfl rfl (by decide) (p_eq rfl rfl rfl) ?_
          clear hs a
          intro a hs
          refine hK15 _ _ ?_
          refine c_cond hs rfl (fun hb => ?_) (fun hb => ?_)
          · replace h := h.1 hb
            clear hb
            refine wp_region_lit ?_
            refine t_pure hs rfl rfl (by decide) (p_move rfl rfl) ?_
            clear hs a
            intro a hs
            refine t_pure hs rfl rfl (by decide) (p_move rfl rfl) ?_
            clear hs a
            intro a hs
            obtain ⟨t129, hn, hv, h⟩ := h
            refine t_eff hs rfl rfl (by decide) (e_loadN rfl rfl at_36 hn hv) ?_
            clear hs a hn hv
            intro a hs
            refine t_call hs rfl rfl (by decide) (e_call rfl rfl rfl cb_36) h ?_
            clear hs a h
            intro v a w hk hs
            obtain ⟨rfl, h⟩ := hk
            refine f_end (fn := Try.f34) hs (fun a hs => r_many hs (rs := []) (vs := []) rfl (by decide) trivial) ⟨rfl, h⟩
          · replace h := h.2 hb
            clear hb
            refine wp_skip ?_
            refine f_end (fn := Try.f34) hs (fun a hs => r_many hs (rs := []) (vs := []) rfl (by decide) trivial) ⟨rfl, h⟩
        clear hK14
        refine wp_seq_k fun K16 hK16 => ?_
        refine wp_region_lit ?_
        refine t_pure hs rfl rfl (by decide) (p_fieldAddr rfl rfl ft_74_2) ?_
        clear hs a
        intro a hs
        obtain ⟨t95, hv, h⟩ := h
        refine t_eff hs rfl rfl (by decide) (e_load rfl rfl ct_3 hv) ?_
        clear hs a hv
        intro a hs
        obtain ⟨t96, he, h⟩ := h
        refine t_pure hs rfl rfl (by decide) (Pure.int he (p_and rfl rfl rfl)) ?_
        clear hs a he
        intro a hs
        refine t_pure hs rfl rfl (by decide) (p_eq rfl rfl rfl) ?_
        clear hs a
        intro a hs
        refine hK16 _ _ ?_
        refine c_cond hs rfl (fun hb => ?_) (fun hb => ?_)
        · replace h := h.1 hb
          clear hb
          obtain ⟨w1, hw1, h⟩ := h
          obtain ⟨S, hS, h⟩ := h
          subst hw1
          refine d_start (S := S) (ds := [21, 25]) #[false, false, false, false, false, false, false, false, false, false, false, false, false, false, false, false, false, false, false, false, false, false, false, false, false, false] mixed rfl rfl ?_
          refine d_pure hs #[true, false, false, false, false, false, false, false, false, false, false, false, false, false, false, false, false, false, false, false, false, false, false, false, false, false] (i := 0) rfl rfl rfl (by decide) (by kernel_rfl) (tight_body (P := Try.prog) (fn := Try.f34)) (p_move rfl rfl) ?_
          clear hs a
          intro a hs
          refine d_pure hs #[true, true, false, false, false, false, false, false, false, false, false, false, false, false, false, false, false, false, false, false, false, false, false, false, false, false] (i := 1) rfl rfl rfl (by decide) (by kernel_rfl) (tight_body (P := Try.prog) (fn := Try.f34)) (p_move rfl rfl) ?_
          clear hs a
          intro a hs
          refine d_pure hs #[true, true, false, true, false, false, false, false, false, false, false, false, false, false, false, false, false, false, false, false, false, false, false, false, false, false] (i := 3) rfl rfl rfl (by decide) (by kernel_rfl) (tight_body (P := Try.prog) (fn := Try.f34)) (p_move rfl rfl) ?_
          clear hs a
          intro a hs
          refine d_pure hs #[true, true, false, true, true, false, false, false, false, false, false, false, false, false, false, false, false, false, false, false, false, false, false, false, false, false] (i := 4) rfl rfl rfl (by decide) (by kernel_rfl) (tight_body (P := Try.prog) (fn := Try.f34)) (p_move rfl rfl) ?_
          clear hs a
          intro a hs
          refine d_pure hs #[true, true, false, true, true, true, false, false, false, false, false, false, false, false, false, false, false, false, false, false, false, false, false, false, false, false] (i := 5) rfl rfl rfl (by decide) (by kernel_rfl) (tight_body (P := Try.prog) (fn := Try.f34)) (p_nil rfl rfl) ?_
          clear hs a
          intro a hs
          refine d_pure hs #[true, true, false, true, true, true, true, false, false, false, false, false, false, false, false, false, false, false, false, false, false, false, false, false, false, false] (i := 6) rfl rfl rfl (by decide) (by kernel_rfl) (tight_body (P := Try.prog) (fn := Try.f34)) (p_fieldAddr rfl rfl ft_72_1) ?_
          clear hs a
          intro a hs
          obtain ⟨t105, h0, h1, he, h⟩ := h
          refine d_pure hs #[true, true, false, true, true, true, true, true, false, false, false, false, false, false, false, false, false, false, false, false, false, false, false, false, false, false] (i := 7) rfl rfl rfl (by decide) (by kernel_rfl) (tight_body (P := Try.prog) (fn := Try.f34)) (Pure.adr he (p_idxA rfl rfl rfl ar_69 h0 h1)) ?_
          clear hs a h0 h1 he
          intro a hs
          refine d_pure hs #[true, true, false, true, true, true, true, true, false, true, false, false, false, false, false, false, false, false, false, false, false, false, false, false, false, false] (i := 9) rfl rfl rfl (by decide) (by kernel_rfl) (tight_body (P := Try.prog) (fn := Try.f34)) (p_move rfl rfl) ?_
          clear hs a
          intro a hs
          replace hs := hs.to (τ := [(0, (.pointer (some t68))), (3, (.pointer (some s3))), (4, (.int .i64 t9)), (5, (.int .i64 t84)), (6, (.pointer (some x6))), (98, (.pointer (some t68))), (99, (.int .i64 t9)), (105, (.pointer (some t105))), (107, (.int .i64 t84))]) ⟨rfl, rfl, rfl, rfl, rfl, rfl, rfl, rfl, rfl, trivial⟩
          refine d_pure hs #[true, true, false, true, true, true, true, true, false, true, false, false, true, false, false, false, false, false, false, false, false, false, false, false, false, false] (i := 12) rfl rfl rfl (by decide) (by kernel_rfl) (tight_body (P := Try.prog) (fn := Try.f34)) (p_move rfl rfl) ?_
          clear hs a
          intro a hs
          refine d_pure hs #[true, true, false, true, true, true, true, true, false, true, false, false, true, true, false, false, false, false, false, false, false, false, false, false, false, false] (i := 13) rfl rfl rfl (by decide) (by kernel_rfl) (tight_body (P := Try.prog) (fn := Try.f34)) (p_move rfl rfl) ?_
          clear hs a
          intro a hs
          refine d_pure hs #[true, true, false, true, true, true, true, true, false, true, false, false, true, true, true, false, false, false, false, false, false, false, false, false, false, false] (i := 14) rfl rfl rfl (by decide) (by kernel_rfl) (tight_body (P := Try.prog) (fn := Try.f34)) (p_nil rfl rfl) ?_
          clear hs a
          intro a hs
          refine d_pure hs #[true, true, false, true, true, true, true, true, false, true, false, false, true, true, true, true, false, false, false, false, false, false, false, false, false, false] (i := 15) rfl rfl rfl (by decide) (by kernel_rfl) (tight_body (P := Try.prog) (fn := Try.f34)) (p_fieldAddr rfl rfl ft_72_1) ?_
          clear hs a
          intro a hs
          obtain ⟨t114, h0, h1, he, h⟩ := h
          refine d_pure hs #[true, true, false, true, true, true, true, true, false, true, false, false, true, true, true, true, true, false, false, false, false, false, false, false, false, false] (i := 16) rfl rfl rfl (by decide) (by kernel_rfl) (tight_body (P := Try.prog) (fn := Try.f34)) (Pure.adr he (p_idxA rfl rfl rfl ar_69 h0 h1)) ?_
          clear hs a h0 h1 he
          intro a hs
          refine d_pure hs #[true, true, false, true, true, true, true, true, false, true, false, false, true, true, true, true, true, false, true, false, false, false, false, false, false, false] (i := 18) rfl rfl rfl (by decide) (by kernel_rfl) (tight_body (P := Try.prog) (fn := Try.f34)) (p_move rfl rfl) ?_
          clear hs a
          intro a hs
          obtain ⟨t117, he, h⟩ := h
          refine d_pure hs #[true, true, false, true, true, true, true, true, false, true, false, false, true, true, true, true, true, false, true, true, false, false, false, false, false, false] (i := 19) rfl rfl rfl (by decide) (by kernel_rfl) (tight_body (P := Try.prog) (fn := Try.f34)) (Pure.int he (p_add rfl rfl rfl)) ?_
          clear hs a he
          intro a hs
          refine d_pure hs #[true, true, false, true, true, true, true, true, false, true, false, false, true, true, true, true, true, false, true, true, false, false, true, false, false, false] (i := 22) rfl rfl rfl (by decide) (by kernel_rfl) (tight_body (P := Try.prog) (fn := Try.f34)) (p_nil rfl rfl) ?_
          clear hs a
          intro a hs
          replace hs := hs.to (τ := [(0, (.pointer (some t68))), (3, (.pointer (some s3))), (4, (.int .i64 t9)), (6, (.pointer (some x6))), (99, (.int .i64 t9)), (105, (.pointer (some t105))), (107, (.int .i64 t84)), (114, (.pointer (some t114))), (117, (.int .i64 t117)), (120, (.pointer (some t68)))]) ⟨rfl, rfl, rfl, rfl, rfl, rfl, rfl, rfl, rfl, rfl, trivial⟩
          refine d_pure hs #[true, true, false, true, true, true, true, true, false, true, false, false, true, true, true, true, true, false, true, true, false, false, true, true, false, false] (i := 23) rfl rfl rfl (by decide) (by kernel_rfl) (tight_body (P := Try.prog) (fn := Try.f34)) (p_fieldAddr rfl rfl ft_72_1) ?_
          clear hs a
          intro a hs
          obtain ⟨t106, hv, h⟩ := h
          refine d_read hs #[true, true, false, true, true, true, true, true, true, true, false, false, true, true, true, true, true, false, true, true, false, false, true, true, false, false] (i := 8) rfl rfl rfl (by decide) (by kernel_rfl) (by kernel_rfl) (tight_body (P := Try.prog) (fn := Try.f34)) hS (fun w h' => e_load rfl rfl ct_60 (hv w h')) ?_
          clear hs a hv
          intro a hs
          obtain ⟨t108, h0, h1, h2, h3, he, h⟩ := h
          refine d_pure hs #[true, true, false, true, true, true, true, true, true, true, true, false, true, true, true, true, true, false, true, true, false, false, true, true, false, false] (i := 10) rfl rfl rfl (by decide) (by kernel_rfl) (tight_body (P := Try.prog) (fn := Try.f34)) (Pure.sl he (p_slc rfl rfl sl_60 rfl ⟨_, rfl⟩ rfl (by decide) h0 h1 h2 h3)) ?_
          clear hs a h0 h1 h2 h3 he
          intro a hs
          obtain ⟨t115, hv, h⟩ := h
          refine d_read hs #[true, true, false, true, true, true, true, true, true, true, true, false, true, true, true, true, true, true, true, true, false, false, true, true, false, false] (i := 17) rfl rfl rfl (by decide) (by kernel_rfl) (by kernel_rfl) (tight_body (P := Try.prog) (fn := Try.f34)) hS (fun w h' => e_load rfl rfl ct_60 (hv w h')) ?_
          clear hs a hv
          intro a hs
          obtain ⟨t118, h0, h1, h2, h3, he, h⟩ := h
          refine d_pure hs #[true, true, false, true, true, true, true, true, true, true, true, false, true, true, true, true, true, true, true, true, true, false, true, true, false, false] (i := 20) rfl rfl rfl (by decide) (by kernel_rfl) (tight_body (P := Try.prog) (fn := Try.f34)) (Pure.sl he (p_slc rfl rfl sl_60 ⟨_, rfl⟩ rfl rfl (by decide) h0 h1 h2 h3)) ?_
          clear hs a h0 h1 h2 h3 he
          intro a hs
          refine d_all [2] (by kernel_rfl) (by decide) ?_
          refine AllS.cons ?_ AllS.nil
          obtain ⟨t100, w1, ha, hw, h⟩ := h
          obtain ⟨hS, h⟩ := h
          refine d_eff hs #[true, true, true, true, true, true, true, true, true, true, true, false, true, true, true, true, true, true, true, true, true, false, true, true, false, false] (i := 2) rfl rfl rfl (by decide) rfl (e_buildSlice (z := #[]) (cs := #[]) rfl sl_60 zt_36 (by decide) rfl rz_36_0 (by rfl) ha hw) (fun _ _ => hS) ?_
          clear hs a ha hw
          intro a hs
          refine d_all [11] (by kernel_rfl) (by decide) ?_
          refine AllS.cons ?_ AllS.nil
          obtain ⟨t109, w1, hd, h⟩ := h
          obtain ⟨hS, h⟩ := h
          refine d_eff hs #[true, true, true, true, true, true, true, true, true, true, true, true, true, true, true, true, true, true, true, true, true, false, true, true, false, false] (i := 11) rfl rfl rfl (by decide) rfl (e_append rfl rfl rfl rfl hd) (fun _ _ => hS) ?_
          clear hs a hd
          intro a hs
          refine d_all [21] (by kernel_rfl) (by decide) ?_
          refine AllS.cons ?_ AllS.nil
          obtain ⟨t119, w1, hd, h⟩ := h
          refine d_eff hs #[true, true, true, true, true, true, true, true, true, true, true, true, true, true, true, true, true, true, true, true, true, true, true, true, false, false] (i := 21) rfl rfl rfl (by decide) rfl (e_append rfl rfl rfl rfl hd) (fun hn => (hn (by decide)).elim) ?_
          clear hs a hd
          intro a hs
          replace hs := hs.to (τ := [(0, (.pointer (some t68))), (3, (.pointer (some s3))), (4, (.int .i64 t9)), (6, (.pointer (some x6))), (99, (.int .i64 t9)), (119, (Sl.val t119)), (121, (.pointer (some (t68.add 2))))]) ⟨rfl, rfl, rfl, rfl, rfl, rfl, rfl, trivial⟩
          obtain ⟨t122, h0, h1, he, h⟩ := h
          refine d_pure hs #[true, true, true, true, true, true, true, true, true, true, true, true, true, true, true, true, true, true, true, true, true, true, true, true, true, false] (i := 24) rfl rfl rfl (by decide) (by kernel_rfl) (tight_body (P := Try.prog) (fn := Try.f34)) (Pure.adr he (p_idxA rfl rfl rfl ar_69 h0 h1)) ?_
          clear hs a h0 h1 he
          intro a hs
          refine d_all [25] (by kernel_rfl) (by decide) ?_
          refine AllS.cons ?_ AllS.nil
          obtain ⟨w1, hw, hc, hf, hv, h⟩ := h
          refine d_skip hs #[true, true, true, true, true, true, true, true, true, true, true, true, true, true, true, true, true, true, true, true, true, true, true, true, true, true] (i := 25) rfl rfl rfl rfl (e_store rfl rfl rfl sz_60 hw hc hf hv) (fun hn => (hn (by decide)).elim) ?_
          clear hs a hw hc hf hv
          intro a hs
          refine d_done (by kernel_rfl) ?_ _
          clear hS
          exact J2 _ _ (hs.to ⟨rfl, rfl, rfl, rfl, trivial⟩) h
        · replace h := h.2 hb
          clear hb
          refine wp_skip ?_
          exact J2 _ _ (hs.to ⟨rfl, rfl, rfl, rfl, trivial⟩) h
def law19_pair_sound.s2 (Q : Bool → K) (X1 : Int → K) (p0_2 : Addr) (side3_2 : Int) (t44_2 : Bool) : K :=
  Ite t44_2
    (Q false)
    (Ar (IntKind.wrap .i64 (side3_2 + 1)) fun t8 =>
    X1 t8)
def law19_pair_sound.b1 (Q : Bool → K)  (X1 : Int → K) (p0_1 : (Option Addr)) (side3_1 : Int) : K :=
  Ite (decide (side3_1 < 2))
    (Nn p0_1 fun t11 =>
    IdxA (t11.add 6) 2 side3_1 1 fun t13 =>
    Ld t13 Sl.val fun t14 =>
    Dr <|
    Ar (IntKind.wrap .i64 (1 - side3_1)) fun t19 =>
    IdxA (t11.add 4) 2 t19 1 fun t22 =>
    Ld t22 Sl.val fun t23 =>
    Ite (decide ((t23.n : Int) < (t14.n : Int)))
      (law19_pair_sound.s2 Q X1 t11 side3_1 true)
      (IdxA (t11.add 6) 2 side3_1 1 fun t31 =>
      Ar (IntKind.wrap .i64 (1 - side3_1)) fun t35 =>
      IdxA (t11.add 4) 2 t35 1 fun t38 =>
      Ld t31 Sl.val fun t32 =>
      Ld t38 Sl.val fun t39 =>
      Slc t39 0 (t14.n : Int) (t39.c : Int) 1 fun t41 =>
      ref19_SameData.call t32 t41 fun t42 =>
      law19_pair_sound.s2 Q X1 t11 side3_1 (!t42)))
    (Q true)
def law19_pair_sound (p0 : (Option Addr)) (Q : Bool → K) : K :=
  LoopK (α := Int) (fun X x => law19_pair_sound.b1 Q X p0 x) 0
theorem law19_pair_sound_ok (p0 : (Option Addr)) (Q : Bool → K) (w : World) (h : law19_pair_sound p0 Q w) : law19_pair_sound.call p0 Q w := by
  unfold law19_pair_sound.call CallF
  refine f_start (args := [(.pointer p0)]) Try.func35 rfl (Nat.le_of_ble_eq_true rfl) ?_
  intro a hs
  unfold law19_pair_sound at h
  refine wp_seq_k fun K1 hK1 => ?_
  refine wp_region_lit ?_
  refine t_pure hs rfl rfl (by decide) (p_assign rfl rfl) ?_
  clear hs a
  intro a hs
  refine hK1 _ _ ?_
  refine wp_seq_k fun K2 hK2 => ?_
  refine wp_seq_k fun K3 hK3 => ?_
  refine wp_region_lit ?_
  refine t_pure hs rfl rfl (by decide) (p_assign rfl rfl) ?_
  clear hs a
  intro a hs
  refine hK3 _ _ ?_
  refine wp_block ?_
  obtain ⟨I1, μ1, h0, hr⟩ := h
  refine c_loop (α := Int) I1 μ1 (fun x a => Slots a 45 [(0, (.pointer p0)), (3, (.int .i64 x))]) 0 h0 (hs.to ⟨rfl, rfl, trivial⟩) ?_
  clear h0 hs a
  intro side3_1 a w hI hs
  have h : law19_pair_sound.b1 Q (fun side3_1n w' => I1 side3_1n w' ∧ μ1 side3_1n w' < μ1 side3_1 w) p0 side3_1 w := hr side3_1 w hI
  clear hr hI
  generalize hX1 : (fun side3_1n w' => I1 side3_1n w' ∧ μ1 side3_1n w' < μ1 side3_1 w) = X1 at h
  unfold law19_pair_sound.b1 at h
  replace hs : Slots a 45 [(0, (.pointer p0)), (3, (.int .i64 side3_1))] := hs
  refine wp_seq_k fun K4 hK4 => ?_
  refine wp_seq_k fun K5 hK5 => ?_
  refine wp_region_lit ?_
  refine t_pure hs rfl rfl (by decide) (p_move rfl rfl) ?_
  clear hs a
  intro a hs
  refine t_pure hs rfl rfl (by decide) (p_lt rfl rfl rfl) ?_
  clear hs a
  intro a hs
  refine hK5 _ _ ?_
  refine c_cond hs rfl (fun hb => ?_) (fun hb => ?_)
  · replace h := h.1 hb
    clear hb
    refine wp_skip ?_
    refine hK4 _ _ ?_
    refine wp_seq_k fun K6 hK6 => ?_
    refine wp_block ?_
    refine wp_seq_k fun K7 hK7 => ?_
    refine wp_region_lit ?_
    refine t_pure hs rfl rfl (by decide) (p_move rfl rfl) ?_
    clear hs a
    intro a hs
    refine t_pure hs rfl rfl (by decide) (p_move rfl rfl) ?_
    clear hs a
    intro a hs
    obtain ⟨t11, rfl, h⟩ := h
    refine t_pure hs rfl rfl (by decide) (p_nil rfl rfl) ?_
    clear hs a
    intro a hs
    refine t_pure hs rfl rfl (by decide) (p_fieldAddr rfl rfl ft_72_3) ?_
    clear hs a
    intro a hs
    obtain ⟨t13, h0, h1, he, h⟩ := h
    refine t_pure hs rfl rfl (by decide) (Pure.adr he (p_idxA rfl rfl rfl ar_70 h0 h1)) ?_
    clear hs a h0 h1 he
    intro a hs
    obtain ⟨t14, hv, h⟩ := h
    refine t_eff hs rfl rfl (by decide) (e_load rfl rfl ct_56 hv) ?_
    clear hs a hv
    intro a hs
    refine t_pure hs rfl rfl (by decide) (p_len rfl rfl sl_56) ?_
    clear hs a
    intro a hs
    refine t_pure hs rfl rfl (by decide) (p_assign rfl rfl) ?_
    clear hs a
    intro a hs
    refine hK7 _ _ ?_
    refine wp_seq_k fun K8 hK8 => ?_
    have J2 : ∀ (t44_2 : Bool) (a : Act) (w : World), Slots a 45 [(0, (.pointer (some t11))), (3, (.int .i64 side3_1)), (44, (.bool t44_2))] → law19_pair_sound.s2 Q X1 t11 side3_1 t44_2 w → K8 a w := by
      clear h hs
      intro t44_2 a w hs h
      refine hK8 _ _ ?_
      unfold law19_pair_sound.s2 at h
      refine c_cond hs rfl (fun hb => ?_) (fun hb => ?_)
      · replace h := h.1 hb
        clear hb
        refine wp_seq_k fun K9 hK9 => ?_
        refine wp_region_lit ?_
        refine t_pure hs rfl rfl (by decide) (p_assign rfl rfl) ?_
        clear hs a
        intro a hs
        refine hK9 _ _ ?_
        refine wp_ret ?_
        refine f_ret (fn := Try.f35) hs (fun a hs => r_one hs rfl (rfl)) ⟨false, rfl, h⟩
      · replace h := h.2 hb
        clear hb
        refine wp_skip ?_
        refine hK6 _ _ ?_
        refine wp_region_lit ?_
        refine t_pure hs rfl rfl (by decide) (p_move rfl rfl) ?_
        clear hs a
        intro a hs
        obtain ⟨t8, he, h⟩ := h
        refine t_pure hs rfl rfl (by decide) (Pure.int he (p_add rfl rfl rfl)) ?_
        clear hs a he
        intro a hs
        refine t_pure hs rfl rfl (by decide) (p_assign rfl rfl) ?_
        clear hs a
        intro a hs
        rw [← hX1] at h
        exact ⟨t8, hs.to ⟨rfl, rfl, trivial⟩, h⟩
    clear hK8
    obtain ⟨w1, hw1, h⟩ := h
    refine d_start (S := Is w1) (ds := [26]) #[false, false, false, false, false, false, false, false, false, false, false, false, false, false, false, false, false, false, false, false, false, false, false, false, false, false, false, false, false] mixed rfl rfl ?_
    rw [← hw1]
    have hS := Is.intro w1
    clear hw1
    refine d_pure hs #[true, false, false, false, false, false, false, false, false, false, false, false, false, false, false, false, false, false, false, false, false, false, false, false, false, false, false, false, false] (i := 0) rfl rfl rfl (by decide) (by kernel_rfl) (tight_body (P := Try.prog) (fn := Try.f35)) (p_move rfl rfl) ?_
    clear hs a
    intro a hs
    refine d_pure hs #[true, true, false, false, false, false, false, false, false, false, false, false, false, false, false, false, false, false, false, false, false, false, false, false, false, false, false, false, false] (i := 1) rfl rfl rfl (by decide) (by kernel_rfl) (tight_body (P := Try.prog) (fn := Try.f35)) (p_move rfl rfl) ?_
    clear hs a
    intro a hs
    refine d_pure hs #[true, true, true, false, false, false, false, false, false, false, false, false, false, false, false, false, false, false, false, false, false, false, false, false, false, false, false, false, false] (i := 2) rfl rfl rfl (by decide) (by kernel_rfl) (tight_body (P := Try.prog) (fn := Try.f35)) (p_move rfl rfl) ?_
    clear hs a
    intro a hs
    obtain ⟨t19, he, h⟩ := h
    refine d_pure hs #[true, true, true, true, false, false, false, false, false, false, false, false, false, false, false, false, false, false, false, false, false, false, false, false, false, false, false, false, false] (i := 3) rfl rfl rfl (by decide) (by kernel_rfl) (tight_body (P := Try.prog) (fn := Try.f35)) (Pure.int he (p_sub rfl rfl rfl)) ?_
    clear hs a he
    intro a hs
    refine d_pure hs #[true, true, true, true, true, false, false, false, false, false, false, false, false, false, false, false, false, false, false, false, false, false, false, false, false, false, false, false, false] (i := 4) rfl rfl rfl (by decide) (by kernel_rfl) (tight_body (P := Try.prog) (fn := Try.f35)) (p_nil rfl rfl) ?_
    clear hs a
    intro a hs
    refine d_pure hs #[true, true, true, true, true, true, false, false, false, false, false, false, false, false, false, false, false, false, false, false, false, false, false, false, false, false, false, false, false] (i := 5) rfl rfl rfl (by decide) (by kernel_rfl) (tight_body (P := Try.prog) (fn := Try.f35)) (p_fieldAddr rfl rfl ft_72_2) ?_
    clear hs a
    intro a hs
    obtain ⟨t22, h0, h1, he, h⟩ := h
    refine d_pure hs #[true, true, true, true, true, true, true, false, false, false, false, false, false, false, false, false, false, false, false, false, false, false, false, false, false, false, false, false, false] (i := 6) rfl rfl rfl (by decide) (by kernel_rfl) (tight_body (P := Try.prog) (fn := Try.f35)) (Pure.adr he (p_idxA rfl rfl rfl ar_70 h0 h1)) ?_
    clear hs a h0 h1 he
    intro a hs
    obtain ⟨t23, hv, h⟩ := h
    refine d_read hs #[true, true, true, true, true, true, true, true, false, false, false, false, false, false, false, false, false, false, false, false, false, false, false, false, false, false, false, false, false] (i := 7) rfl rfl rfl (by decide) (by kernel_rfl) (by kernel_rfl) (tight_body (P := Try.prog) (fn := Try.f35)) hS (fun w h' => by have h1 := h'.out; subst h1; exact e_load rfl rfl ct_56 hv) ?_
    clear hs a hv
    intro a hs
    replace hs := hs.to (τ := [(0, (.pointer (some t11))), (3, (.int .i64 side3_1)), (4, (.int .i64 (t14.n : Int))), (16, (.int .i64 (t14.n : Int))), (23, (Sl.val t23))]) ⟨rfl, rfl, rfl, rfl, rfl, trivial⟩
    refine d_pure hs #[true, true, true, true, true, true, true, true, true, false, false, false, false, false, false, false, false, false, false, false, false, false, false, false, false, false, false, false, false] (i := 8) rfl rfl rfl (by decide) (by kernel_rfl) (tight_body (P := Try.prog) (fn := Try.f35)) (p_len rfl rfl sl_56) ?_
    clear hs a
    intro a hs
    refine d_pure hs #[true, true, true, true, true, true, true, true, true, true, false, false, false, false, false, false, false, false, false, false, false, false, false, false, false, false, false, false, false] (i := 9) rfl rfl rfl (by decide) (by kernel_rfl) (tight_body (P := Try.prog) (fn := Try.f35)) (p_gt rfl rfl rfl) ?_
    clear hs a
    intro a hs
    refine d_pure hs #[true, true, true, true, true, true, true, true, true, true, true, false, false, false, false, false, false, false, false, false, false, false, false, false, false, false, false, false, false] (i := 10) rfl rfl rfl (by decide) (by kernel_rfl) (tight_body (P := Try.prog) (fn := Try.f35)) (p_move rfl rfl) ?_
    clear hs a
    intro a hs
    refine split_bool (decide ((t23.n : Int) < (t14.n : Int))) (fun hb => ?_) (fun hb => ?_)
    · replace h := h.1 hb
      rw [hb] at hs
      clear hb
      refine d_no hs #[true, true, true, true, true, true, true, true, true, true, true, true, false, false, false, false, false, false, false, false, false, false, false, false, false, false, false, false, false] (i := 11) rfl rfl rfl (by decide) (by kernel_rfl) (tight_body (P := Try.prog) (fn := Try.f35)) ?_
      clear hs a
      intro a hs
      refine d_no hs #[true, true, true, true, true, true, true, true, true, true, true, true, true, false, false, false, false, false, false, false, false, false, false, false, false, false, false, false, false] (i := 12) rfl rfl rfl (by decide) (by kernel_rfl) (tight_body (P := Try.prog) (fn := Try.f35)) ?_
      clear hs a
      intro a hs
      refine d_no hs #[true, true, true, true, true, true, true, true, true, true, true, true, true, true, false, false, false, false, false, false, false, false, false, false, false, false, false, false, false] (i := 13) rfl rfl rfl (by decide) (by kernel_rfl) (tight_body (P := Try.prog) (fn := Try.f35)) ?_
      clear hs a
      intro a hs
      refine d_no hs #[true, true, true, true, true, true, true, true, true, true, true, true, true, true, true, false, false, false, false, false, false, false, false, false, false, false, false, false, false] (i := 14) rfl rfl rfl (by decide) (by kernel_rfl) (tight_body (P := Try.prog) (fn := Try.f35)) ?_
      clear hs a
      intro a hs
      refine d_no hs #[true, true, true, true, true, true, true, true, true, true, true, true, true, true, true, true, false, false, false, false, false, false, false, false, false, false, false, false, false] (i := 15) rfl rfl rfl (by decide) (by kernel_rfl) (tight_body (P := Try.prog) (fn := Try.f35)) ?_
      clear hs a
      intro a hs
      replace hs := hs.to (τ := [(0, (.pointer (some t11))), (3, (.int .i64 side3_1)), (4, (.int .i64 (t14.n : Int))), (26, (.bool true)), (31, undef)]) ⟨rfl, rfl, rfl, rfl, rfl, trivial⟩
      refine d_no hs #[true, true, true, true, true, true, true, true, true, true, true, true, true, true, true, true, true, false, false, false, false, false, false, false, false, false, false, false, false] (i := 16) rfl rfl rfl (by decide) (by kernel_rfl) (tight_body (P := Try.prog) (fn := Try.f35)) ?_
      clear hs a
      intro a hs
      refine d_no hs #[true, true, true, true, true, true, true, true, true, true, true, true, true, true, true, true, true, true, false, false, false, false, false, false, false, false, false, false, false] (i := 17) rfl rfl rfl (by decide) (by kernel_rfl) (tight_body (P := Try.prog) (fn := Try.f35)) ?_
      clear hs a
      intro a hs
      refine d_no hs #[true, true, true, true, true, true, true, true, true, true, true, true, true, true, true, true, true, true, true, false, false, false, false, false, false, false, false, false, false] (i := 18) rfl rfl rfl (by decide) (by kernel_rfl) (tight_body (P := Try.prog) (fn := Try.f35)) ?_
      clear hs a
      intro a hs
      refine d_no hs #[true, true, true, true, true, true, true, true, true, true, true, true, true, true, true, true, true, true, true, true, false, false, false, false, false, false, false, false, false] (i := 19) rfl rfl rfl (by decide) (by kernel_rfl) (tight_body (P := Try.prog) (fn := Try.f35)) ?_
      clear hs a
      intro a hs
      refine d_no hs #[true, true, true, true, true, true, true, true, true, true, true, true, true, true, true, true, true, true, true, true, true, false, false, false, false, false, false, false, false] (i := 20) rfl rfl rfl (by decide) (by kernel_rfl) (tight_body (P := Try.prog) (fn := Try.f35)) ?_
      clear hs a
      intro a hs
      refine d_no hs #[true, true, true, true, true, true, true, true, true, true, true, true, true, true, true, true, true, true, true, true, true, true, false, false, false, false, false, false, false] (i := 21) rfl rfl rfl (by decide) (by kernel_rfl) (tight_body (P := Try.prog) (fn := Try.f35)) ?_
      clear hs a
      intro a hs
      refine d_no hs #[true, true, true, true, true, true, true, true, true, true, true, true, true, true, true, true, true, true, true, true, true, true, true, false, false, false, false, false, false] (i := 22) rfl rfl rfl (by decide) (by kernel_rfl) (tight_body (P := Try.prog) (fn := Try.f35)) ?_
      clear hs a
      intro a hs
      refine d_no hs #[true, true, true, true, true, true, true, true, true, true, true, true, true, true, true, true, true, true, true, true, true, true, true, true, false, false, false, false, false] (i := 23) rfl rfl rfl (by decide) (by kernel_rfl) (tight_body (P := Try.prog) (fn := Try.f35)) ?_
      clear hs a
      intro a hs
      replace hs := hs.to (τ := [(0, (.pointer (some t11))), (3, (.int .i64 side3_1)), (4, (.int .i64 (t14.n : Int))), (26, (.bool true)), (32, undef), (39, undef)]) ⟨rfl, rfl, rfl, rfl, rfl, rfl, trivial⟩
      refine d_no hs #[true, true, true, true, true, true, true, true, true, true, true, true, true, true, true, true, true, true, true, true, true, true, true, true, true, false, false, false, false] (i := 24) rfl rfl rfl (by decide) (by kernel_rfl) (tight_body (P := Try.prog) (fn := Try.f35)) ?_
      clear hs a
      intro a hs
      refine d_no hs #[true, true, true, true, true, true, true, true, true, true, true, true, true, true, true, true, true, true, true, true, true, true, true, true, true, true, false, false, false] (i := 25) rfl rfl rfl (by decide) (by kernel_rfl) (tight_body (P := Try.prog) (fn := Try.f35)) ?_
      clear hs a
      intro a hs
      refine d_no hs #[true, true, true, true, true, true, true, true, true, true, true, true, true, true, true, true, true, true, true, true, true, true, true, true, true, true, true, false, false] (i := 26) rfl rfl rfl (by decide) (by kernel_rfl) (tight_body (P := Try.prog) (fn := Try.f35)) ?_
      clear hs a
      intro a hs
      refine d_no hs #[true, true, true, true, true, true, true, true, true, true, true, true, true, true, true, true, true, true, true, true, true, true, true, true, true, true, true, true, false] (i := 27) rfl rfl rfl (by decide) (by kernel_rfl) (tight_body (P := Try.prog) (fn := Try.f35)) ?_
      clear hs a
      intro a hs
      refine d_pure hs #[true, true, true, true, true, true, true, true, true, true, true, true, true, true, true, true, true, true, true, true, true, true, true, true, true, true, true, true, true] (i := 28) rfl rfl rfl (by decide) (by kernel_rfl) (tight_body (P := Try.prog) (fn := Try.f35)) (p_pick_t rfl rfl rfl) ?_
      clear hs a
      intro a hs
      refine d_done (by kernel_rfl) ?_ _
      clear hS
      exact J2 true _ _ (hs.to ⟨rfl, rfl, rfl, trivial⟩) h
    · replace h := h.2 hb
      rw [hb] at hs
      clear hb
      refine d_pure hs #[true, true, true, true, true, true, true, true, true, true, true, true, false, false, false, false, false, false, false, false, false, false, false, false, false, false, false, false, false] (i := 11) rfl rfl rfl (by decide) (by kernel_rfl) (tight_body (P := Try.prog) (fn := Try.f35)) (p_move rfl rfl) ?_
      clear hs a
      intro a hs
      refine d_pure hs #[true, true, true, true, true, true, true, true, true, true, true, true, true, false, false, false, false, false, false, false, false, false, false, false, false, false, false, false, false] (i := 12) rfl rfl rfl (by decide) (by kernel_rfl) (tight_body (P := Try.prog) (fn := Try.f35)) (p_move rfl rfl) ?_
      clear hs a
      intro a hs
      refine d_pure hs #[true, true, true, true, true, true, true, true, true, true, true, true, true, true, false, false, false, false, false, false, false, false, false, false, false, false, false, false, false] (i := 13) rfl rfl rfl (by decide) (by kernel_rfl) (tight_body (P := Try.prog) (fn := Try.f35)) (p_nil rfl rfl) ?_
      clear hs a
      intro a hs
      refine d_pure hs #[true, true, true, true, true, true, true, true, true, true, true, true, true, true, true, false, false, false, false, false, false, false, false, false, false, false, false, false, false] (i := 14) rfl rfl rfl (by decide) (by kernel_rfl) (tight_body (P := Try.prog) (fn := Try.f35)) (p_fieldAddr rfl rfl ft_72_3) ?_
      clear hs a
      intro a hs
      obtain ⟨t31, h0, h1, he, h⟩ := h
      refine d_pure hs #[true, true, true, true, true, true, true, true, true, true, true, true, true, true, true, true, false, false, false, false, false, false, false, false, false, false, false, false, false] (i := 15) rfl rfl rfl (by decide) (by kernel_rfl) (tight_body (P := Try.prog) (fn := Try.f35)) (Pure.adr he (p_idxA rfl rfl rfl ar_70 h0 h1)) ?_
      clear hs a h0 h1 he
      intro a hs
      replace hs := hs.to (τ := [(0, (.pointer (some t11))), (3, (.int .i64 side3_1)), (4, (.int .i64 (t14.n : Int))), (26, (.bool false)), (31, (.pointer (some t31)))]) ⟨rfl, rfl, rfl, rfl, rfl, trivial⟩
      refine d_pure hs #[true, true, true, true, true, true, true, true, true, true, true, true, true, true, true, true, false, true, false, false, false, false, false, false, false, false, false, false, false] (i := 17) rfl rfl rfl (by decide) (by kernel_rfl) (tight_body (P := Try.prog) (fn := Try.f35)) (p_move rfl rfl) ?_
      clear hs a
      intro a hs
      refine d_pure hs #[true, true, true, true, true, true, true, true, true, true, true, true, true, true, true, true, false, true, true, false, false, false, false, false, false, false, false, false, false] (i := 18) rfl rfl rfl (by decide) (by kernel_rfl) (tight_body (P := Try.prog) (fn := Try.f35)) (p_move rfl rfl) ?_
      clear hs a
      intro a hs
      obtain ⟨t35, he, h⟩ := h
      refine d_pure hs #[true, true, true, true, true, true, true, true, true, true, true, true, true, true, true, true, false, true, true, true, false, false, false, false, false, false, false, false, false] (i := 19) rfl rfl rfl (by decide) (by kernel_rfl) (tight_body (P := Try.prog) (fn := Try.f35)) (Pure.int he (p_sub rfl rfl rfl)) ?_
      clear hs a he
      intro a hs
      refine d_pure hs #[true, true, true, true, true, true, true, true, true, true, true, true, true, true, true, true, false, true, true, true, true, false, false, false, false, false, false, false, false] (i := 20) rfl rfl rfl (by decide) (by kernel_rfl) (tight_body (P := Try.prog) (fn := Try.f35)) (p_nil rfl rfl) ?_
      clear hs a
      intro a hs
      refine d_pure hs #[true, true, true, true, true, true, true, true, true, true, true, true, true, true, true, true, false, true, true, true, true, true, false, false, false, false, false, false, false] (i := 21) rfl rfl rfl (by decide) (by kernel_rfl) (tight_body (P := Try.prog) (fn := Try.f35)) (p_fieldAddr rfl rfl ft_72_2) ?_
      clear hs a
      intro a hs
      obtain ⟨t38, h0, h1, he, h⟩ := h
      refine d_pure hs #[true, true, true, true, true, true, true, true, true, true, true, true, true, true, true, true, false, true, true, true, true, true, true, false, false, false, false, false, false] (i := 22) rfl rfl rfl (by decide) (by kernel_rfl) (tight_body (P := Try.prog) (fn := Try.f35)) (Pure.adr he (p_idxA rfl rfl rfl ar_70 h0 h1)) ?_
      clear hs a h0 h1 he
      intro a hs
      refine d_pure hs #[true, true, true, true, true, true, true, true, true, true, true, true, true, true, true, true, false, true, true, true, true, true, true, false, true, false, false, false, false] (i := 24) rfl rfl rfl (by decide) (by kernel_rfl) (tight_body (P := Try.prog) (fn := Try.f35)) (p_move rfl rfl) ?_
      clear hs a
      intro a hs
      obtain ⟨t32, hv, h⟩ := h
      refine d_read hs #[true, true, true, true, true, true, true, true, true, true, true, true, true, true, true, true, true, true, true, true, true, true, true, false, true, false, false, false, false] (i := 16) rfl rfl rfl (by decide) (by kernel_rfl) (by kernel_rfl) (tight_body (P := Try.prog) (fn := Try.f35)) hS (fun w h' => by have h1 := h'.out; subst h1; exact e_load rfl rfl ct_56 hv) ?_
      clear hs a hv
      intro a hs
      replace hs := hs.to (τ := [(0, (.pointer (some t11))), (3, (.int .i64 side3_1)), (26, (.bool false)), (32, (Sl.val t32)), (38, (.pointer (some t38))), (40, (.int .i64 (t14.n : Int)))]) ⟨rfl, rfl, rfl, rfl, rfl, rfl, trivial⟩
      obtain ⟨t39, hv, h⟩ := h
      refine d_read hs #[true, true, true, true, true, true, true, true, true, true, true, true, true, true, true, true, true, true, true, true, true, true, true, true, true, false, false, false, false] (i := 23) rfl rfl rfl (by decide) (by kernel_rfl) (by kernel_rfl) (tight_body (P := Try.prog) (fn := Try.f35)) hS (fun w h' => by have h1 := h'.out; subst h1; exact e_load rfl rfl ct_56 hv) ?_
      clear hs a hv
      intro a hs
      obtain ⟨t41, h0, h1, h2, h3, he, h⟩ := h
      refine d_pure hs #[true, true, true, true, true, true, true, true, true, true, true, true, true, true, true, true, true, true, true, true, true, true, true, true, true, true, false, false, false] (i := 25) rfl rfl rfl (by decide) (by kernel_rfl) (tight_body (P := Try.prog) (fn := Try.f35)) (Pure.sl he (p_slc rfl rfl sl_56 rfl ⟨_, rfl⟩ rfl (by decide) h0 h1 h2 h3)) ?_
      clear hs a h0 h1 h2 h3 he
      intro a hs
      refine d_all [26] (by kernel_rfl) (by decide) ?_
      refine AllS.cons ?_ AllS.nil
      refine d_call hs #[true, true, true, true, true, true, true, true, true, true, true, true, true, true, true, true, true, true, true, true, true, true, true, true, true, true, true, false, false] (i := 26) rfl rfl rfl (by decide) rfl (e_call rfl rfl rfl cb_33) h (fun _ _ _ hn => (hn (by decide)).elim) ?_
      clear hs a h
      intro v a w hk hs
      obtain ⟨t42, rfl, h⟩ := hk
      refine d_pure hs #[true, true, true, true, true, true, true, true, true, true, true, true, true, true, true, true, true, true, true, true, true, true, true, true, true, true, true, true, false] (i := 27) rfl rfl rfl (by decide) (by kernel_rfl) (tight_body (P := Try.prog) (fn := Try.f35)) (p_not rfl rfl) ?_
      clear hs a
      intro a hs
      refine d_pure hs #[true, true, true, true, true, true, true, true, true, true, true, true, true, true, true, true, true, true, true, true, true, true, true, true, true, true, true, true, true] (i := 28) rfl rfl rfl (by decide) (by kernel_rfl) (tight_body (P := Try.prog) (fn := Try.f35)) (p_pick_f rfl rfl rfl) ?_
      clear hs a
      intro a hs
      refine d_done (by kernel_rfl) ?_ _
      clear hS
      exact J2 (!t42) _ _ (hs.to ⟨rfl, rfl, rfl, trivial⟩) h
  · replace h := h.2 hb
    clear hb
    refine wp_exit ?_
    refine hK2 _ _ ?_
    refine wp_seq_k fun K10 hK10 => ?_
    refine wp_region_lit ?_
    refine t_pure hs rfl rfl (by decide) (p_assign rfl rfl) ?_
    clear hs a
    intro a hs
    refine hK10 _ _ ?_
    refine wp_ret ?_
    refine f_ret (fn := Try.f35) hs (fun a hs => r_one hs rfl (rfl)) ⟨true, rfl, h⟩
def law19_pair_come (p0 : (Option Addr)) (side1 : Int) (x2 : (Array Value)) (Q : K) : K :=
  New 36 x2 fun x5 =>
  Dr <|
  Nn p0 fun t11 =>
  IdxA t11 2 side1 1 fun t13 =>
  Ld t13 Value.pointer fun t14 =>
  LdN x5 5 fun t15 =>
  link_Link_Receive.call t14 t15 fun t16x0 t16x1 =>
  Dr <|
  IdxA (t11.add 6) 2 side1 1 fun t25 =>
  Ld t25 Sl.val fun t26 =>
  Do Try.prog (Builtin.append_ #[56, 56] 56 #[(Sl.val t26), (Sl.val t16x0)]) Sl.val fun t28 =>
  IdxA (t11.add 6) 2 side1 1 fun t31 =>
  St t31 (Sl.val t28) <|
  Dr <|
  Ar (IntKind.wrap .i64 (1 - side1)) fun t34 =>
  Ar (IntKind.wrap .i64 (1 - side1)) fun t37 =>
  IdxA (t11.add 2) 2 t37 1 fun t40 =>
  Ld t40 Sl.val fun t41 =>
  Do Try.prog (Builtin.append_ #[60, 60] 60 #[(Sl.val t41), (Sl.val t16x1)]) Sl.val fun t43 =>
  IdxA (t11.add 2) 2 t34 1 fun t46 =>
  St t46 (Sl.val t43) <|
  Q
theorem law19_pair_come_ok (p0 : (Option Addr)) (side1 : Int) (x2 : (Array Value)) (Q : K) (w : World) (h : law19_pair_come p0 side1 x2 Q w) : law19_pair_come.call p0 side1 x2 Q w := by
  unfold law19_pair_come.call CallF
  refine f_start (args := [(.pointer p0), (.int .i64 side1), (.agg x2)]) Try.func36 rfl (Nat.le_of_ble_eq_true rfl) ?_
  intro a hs
  unfold law19_pair_come at h
  refine wp_seq_k fun K1 hK1 => ?_
  refine wp_region_lit ?_
  obtain ⟨x5, w1, ha, hw, h⟩ := h
  refine t_eff hs rfl rfl (by decide) (e_box rfl rfl rfl ha hw) ?_
  clear hs a ha hw
  intro a hs
  refine hK1 _ _ ?_
  refine wp_seq_k fun K2 hK2 => ?_
  obtain ⟨w1, hw1, h⟩ := h
  refine d_start (S := Is w1) (ds := [7]) #[false, false, false, false, false, false, false, false, false, false, false, false, false] mixed rfl rfl ?_
  rw [← hw1]
  have hS := Is.intro w1
  clear hw1
  refine d_pure hs #[true, false, false, false, false, false, false, false, false, false, false, false, false] (i := 0) rfl rfl rfl (by decide) (by kernel_rfl) (tight_body (P := Try.prog) (fn := Try.f36)) (p_move rfl rfl) ?_
  clear hs a
  intro a hs
  refine d_pure hs #[true, true, false, false, false, false, false, false, false, false, false, false, false] (i := 1) rfl rfl rfl (by decide) (by kernel_rfl) (tight_body (P := Try.prog) (fn := Try.f36)) (p_move rfl rfl) ?_
  clear hs a
  intro a hs
  obtain ⟨t11, rfl, h⟩ := h
  refine d_pure hs #[true, true, true, false, false, false, false, false, false, false, false, false, false] (i := 2) rfl rfl rfl (by decide) (by kernel_rfl) (tight_body (P := Try.prog) (fn := Try.f36)) (p_nil rfl rfl) ?_
  clear hs a
  intro a hs
  refine d_pure hs #[true, true, true, true, false, false, false, false, false, false, false, false, false] (i := 3) rfl rfl rfl (by decide) (by kernel_rfl) (tight_body (P := Try.prog) (fn := Try.f36)) (p_fieldAddr0 rfl rfl ft_72_0) ?_
  clear hs a
  intro a hs
  obtain ⟨t13, h0, h1, he, h⟩ := h
  refine d_pure hs #[true, true, true, true, true, false, false, false, false, false, false, false, false] (i := 4) rfl rfl rfl (by decide) (by kernel_rfl) (tight_body (P := Try.prog) (fn := Try.f36)) (Pure.adr he (p_idxA rfl rfl rfl ar_68 h0 h1)) ?_
  clear hs a h0 h1 he
  intro a hs
  obtain ⟨t14, hv, h⟩ := h
  refine d_read hs #[true, true, true, true, true, true, false, false, false, false, false, false, false] (i := 5) rfl rfl rfl (by decide) (by kernel_rfl) (by kernel_rfl) (tight_body (P := Try.prog) (fn := Try.f36)) hS (fun w h' => by have h1 := h'.out; subst h1; exact e_load rfl rfl ct_57 hv) ?_
  clear hs a hv
  intro a hs
  obtain ⟨t15, hn, hv, h⟩ := h
  refine d_read hs #[true, true, true, true, true, true, true, false, false, false, false, false, false] (i := 6) rfl rfl rfl (by decide) (by kernel_rfl) (by kernel_rfl) (tight_body (P := Try.prog) (fn := Try.f36)) hS (fun w h' => by have h1 := h'.out; subst h1; exact e_loadN rfl rfl at_36 hn hv) ?_
  clear hs a hn hv
  intro a hs
  refine d_all [7] (by kernel_rfl) (by decide) ?_
  refine AllS.cons ?_ AllS.nil
  refine d_call hs #[true, true, true, true, true, true, true, true, false, false, false, false, false] (i := 7) rfl rfl rfl (by decide) rfl (e_call rfl rfl rfl cb_31) h (fun _ _ _ hn => (hn (by decide)).elim) ?_
  clear hs a h
  intro v a w hk hs
  obtain ⟨t16x0, t16x1, rfl, h⟩ := hk
  replace hs := hs.to (τ := [(0, (.pointer (some t11))), (1, (.int .i64 side1)), (16, (.tuple #[(Sl.val t16x0), (Sl.val t16x1)]))]) ⟨rfl, rfl, rfl, trivial⟩
  refine d_pure hs #[true, true, true, true, true, true, true, true, true, false, false, false, false] (i := 8) rfl rfl rfl (by decide) (by kernel_rfl) (tight_body (P := Try.prog) (fn := Try.f36)) (p_move rfl rfl) ?_
  clear hs a
  intro a hs
  refine d_pure hs #[true, true, true, true, true, true, true, true, true, true, false, false, false] (i := 9) rfl rfl rfl (by decide) (by kernel_rfl) (tight_body (P := Try.prog) (fn := Try.f36)) (p_extract rfl rfl rfl) ?_
  clear hs a
  intro a hs
  refine d_pure hs #[true, true, true, true, true, true, true, true, true, true, true, false, false] (i := 10) rfl rfl rfl (by decide) (by kernel_rfl) (tight_body (P := Try.prog) (fn := Try.f36)) (p_extract rfl rfl rfl) ?_
  clear hs a
  intro a hs
  refine d_pure hs #[true, true, true, true, true, true, true, true, true, true, true, true, false] (i := 11) rfl rfl rfl (by decide) (by kernel_rfl) (tight_body (P := Try.prog) (fn := Try.f36)) (p_assign rfl rfl) ?_
  clear hs a
  intro a hs
  refine d_pure hs #[true, true, true, true, true, true, true, true, true, true, true, true, true] (i := 12) rfl rfl rfl (by decide) (by kernel_rfl) (tight_body (P := Try.prog) (fn := Try.f36)) (p_assign rfl rfl) ?_
  clear hs a
  intro a hs
  refine d_done (by kernel_rfl) ?_ _
  clear hS
  refine hK2 _ _ ?_
  refine wp_seq_k fun K3 hK3 => ?_
  obtain ⟨w1, hw1, h⟩ := h
  refine d_start (S := Is w1) (ds := [9, 13]) #[false, false, false, false, false, false, false, false, false, false, false, false, false, false] mixed rfl rfl ?_
  rw [← hw1]
  have hS := Is.intro w1
  clear hw1
  refine d_pure hs #[true, false, false, false, false, false, false, false, false, false, false, false, false, false] (i := 0) rfl rfl rfl (by decide) (by kernel_rfl) (tight_body (P := Try.prog) (fn := Try.f36)) (p_move rfl rfl) ?_
  clear hs a
  intro a hs
  refine d_pure hs #[true, true, false, false, false, false, false, false, false, false, false, false, false, false] (i := 1) rfl rfl rfl (by decide) (by kernel_rfl) (tight_body (P := Try.prog) (fn := Try.f36)) (p_move rfl rfl) ?_
  clear hs a
  intro a hs
  refine d_pure hs #[true, true, true, false, false, false, false, false, false, false, false, false, false, false] (i := 2) rfl rfl rfl (by decide) (by kernel_rfl) (tight_body (P := Try.prog) (fn := Try.f36)) (p_move rfl rfl) ?_
  clear hs a
  intro a hs
  refine d_pure hs #[true, true, true, true, false, false, false, false, false, false, false, false, false, false] (i := 3) rfl rfl rfl (by decide) (by kernel_rfl) (tight_body (P := Try.prog) (fn := Try.f36)) (p_move rfl rfl) ?_
  clear hs a
  intro a hs
  refine d_pure hs #[true, true, true, true, true, false, false, false, false, false, false, false, false, false] (i := 4) rfl rfl rfl (by decide) (by kernel_rfl) (tight_body (P := Try.prog) (fn := Try.f36)) (p_nil rfl rfl) ?_
  clear hs a
  intro a hs
  refine d_pure hs #[true, true, true, true, true, true, false, false, false, false, false, false, false, false] (i := 5) rfl rfl rfl (by decide) (by kernel_rfl) (tight_body (P := Try.prog) (fn := Try.f36)) (p_fieldAddr rfl rfl ft_72_3) ?_
  clear hs a
  intro a hs
  obtain ⟨t25, h0, h1, he, h⟩ := h
  refine d_pure hs #[true, true, true, true, true, true, true, false, false, false, false, false, false, false] (i := 6) rfl rfl rfl (by decide) (by kernel_rfl) (tight_body (P := Try.prog) (fn := Try.f36)) (Pure.adr he (p_idxA rfl rfl rfl ar_70 h0 h1)) ?_
  clear hs a h0 h1 he
  intro a hs
  refine d_pure hs #[true, true, true, true, true, true, true, false, true, false, false, false, false, false] (i := 8) rfl rfl rfl (by decide) (by kernel_rfl) (tight_body (P := Try.prog) (fn := Try.f36)) (p_move rfl rfl) ?_
  clear hs a
  intro a hs
  replace hs := hs.to (τ := [(0, (.pointer (some t11))), (1, (.int .i64 side1)), (7, (Sl.val t16x1)), (19, (.pointer (some t11))), (20, (.int .i64 side1)), (25, (.pointer (some t25))), (27, (Sl.val t16x0))]) ⟨rfl, rfl, rfl, rfl, rfl, rfl, rfl, trivial⟩
  refine d_pure hs #[true, true, true, true, true, true, true, false, true, false, true, false, false, false] (i := 10) rfl rfl rfl (by decide) (by kernel_rfl) (tight_body (P := Try.prog) (fn := Try.f36)) (p_nil rfl rfl) ?_
  clear hs a
  intro a hs
  refine d_pure hs #[true, true, true, true, true, true, true, false, true, false, true, true, false, false] (i := 11) rfl rfl rfl (by decide) (by kernel_rfl) (tight_body (P := Try.prog) (fn := Try.f36)) (p_fieldAddr rfl rfl ft_72_3) ?_
  clear hs a
  intro a hs
  obtain ⟨t26, hv, h⟩ := h
  refine d_read hs #[true, true, true, true, true, true, true, true, true, false, true, true, false, false] (i := 7) rfl rfl rfl (by decide) (by kernel_rfl) (by kernel_rfl) (tight_body (P := Try.prog) (fn := Try.f36)) hS (fun w h' => by have h1 := h'.out; subst h1; exact e_load rfl rfl ct_56 hv) ?_
  clear hs a hv
  intro a hs
  refine d_all [9] (by kernel_rfl) (by decide) ?_
  refine AllS.cons ?_ AllS.nil
  obtain ⟨t28, w1, hd, h⟩ := h
  refine d_eff hs #[true, true, true, true, true, true, true, true, true, true, true, true, false, false] (i := 9) rfl rfl rfl (by decide) rfl (e_append rfl rfl rfl rfl hd) (fun hn => (hn (by decide)).elim) ?_
  clear hs a hd
  intro a hs
  obtain ⟨t31, h0, h1, he, h⟩ := h
  refine d_pure hs #[true, true, true, true, true, true, true, true, true, true, true, true, true, false] (i := 12) rfl rfl rfl (by decide) (by kernel_rfl) (tight_body (P := Try.prog) (fn := Try.f36)) (Pure.adr he (p_idxA rfl rfl rfl ar_70 h0 h1)) ?_
  clear hs a h0 h1 he
  intro a hs
  refine d_all [13] (by kernel_rfl) (by decide) ?_
  refine AllS.cons ?_ AllS.nil
  obtain ⟨w1, hw, hc, hf, hv, h⟩ := h
  refine d_skip hs #[true, true, true, true, true, true, true, true, true, true, true, true, true, true] (i := 13) rfl rfl rfl rfl (e_store rfl rfl rfl sz_56 hw hc hf hv) (fun hn => (hn (by decide)).elim) ?_
  clear hs a hw hc hf hv
  intro a hs
  refine d_done (by kernel_rfl) ?_ _
  clear hS
  refine hK3 _ _ ?_
  obtain ⟨w1, hw1, h⟩ := h
  refine d_start (S := Is w1) (ds := [11, 15]) #[false, false, false, false, false, false, false, false, false, false, false, false, false, false, false, false] mixed rfl rfl ?_
  rw [← hw1]
  have hS := Is.intro w1
  clear hw1
  refine d_pure hs #[true, false, false, false, false, false, false, false, false, false, false, false, false, false, false, false] (i := 0) rfl rfl rfl (by decide) (by kernel_rfl) (tight_body (P := Try.prog) (fn := Try.f36)) (p_move rfl rfl) ?_
  clear hs a
  intro a hs
  refine d_pure hs #[true, true, false, false, false, false, false, false, false, false, false, false, false, false, false, false] (i := 1) rfl rfl rfl (by decide) (by kernel_rfl) (tight_body (P := Try.prog) (fn := Try.f36)) (p_move rfl rfl) ?_
  clear hs a
  intro a hs
  obtain ⟨t34, he, h⟩ := h
  refine d_pure hs #[true, true, true, false, false, false, false, false, false, false, false, false, false, false, false, false] (i := 2) rfl rfl rfl (by decide) (by kernel_rfl) (tight_body (P := Try.prog) (fn := Try.f36)) (Pure.int he (p_sub rfl rfl rfl)) ?_
  clear hs a he
  intro a hs
  refine d_pure hs #[true, true, true, true, false, false, false, false, false, false, false, false, false, false, false, false] (i := 3) rfl rfl rfl (by decide) (by kernel_rfl) (tight_body (P := Try.prog) (fn := Try.f36)) (p_move rfl rfl) ?_
  clear hs a
  intro a hs
  refine d_pure hs #[true, true, true, true, true, false, false, false, false, false, false, false, false, false, false, false] (i := 4) rfl rfl rfl (by decide) (by kernel_rfl) (tight_body (P := Try.prog) (fn := Try.f36)) (p_move rfl rfl) ?_
  clear hs a
  intro a hs
  obtain ⟨t37, he, h⟩ := h
  refine d_pure hs #[true, true, true, true, true, true, false, false, false, false, false, false, false, false, false, false] (i := 5) rfl rfl rfl (by decide) (by kernel_rfl) (tight_body (P := Try.prog) (fn := Try.f36)) (Pure.int he (p_sub rfl rfl rfl)) ?_
  clear hs a he
  intro a hs
  refine d_pure hs #[true, true, true, true, true, true, true, false, false, false, false, false, false, false, false, false] (i := 6) rfl rfl rfl (by decide) (by kernel_rfl) (tight_body (P := Try.prog) (fn := Try.f36)) (p_nil rfl rfl) ?_
  clear hs a
  intro a hs
  refine d_pure hs #[true, true, true, true, true, true, true, true, false, false, false, false, false, false, false, false] (i := 7) rfl rfl rfl (by decide) (by kernel_rfl) (tight_body (P := Try.prog) (fn := Try.f36)) (p_fieldAddr rfl rfl ft_72_1) ?_
  clear hs a
  intro a hs
  replace hs := hs.to (τ := [(7, (Sl.val t16x1)), (32, (.pointer (some t11))), (34, (.int .i64 t34)), (37, (.int .i64 t37)), (39, (.pointer (some (t11.add 2))))]) ⟨rfl, rfl, rfl, rfl, rfl, trivial⟩
  obtain ⟨t40, h0, h1, he, h⟩ := h
  refine d_pure hs #[true, true, true, true, true, true, true, true, true, false, false, false, false, false, false, false] (i := 8) rfl rfl rfl (by decide) (by kernel_rfl) (tight_body (P := Try.prog) (fn := Try.f36)) (Pure.adr he (p_idxA rfl rfl rfl ar_69 h0 h1)) ?_
  clear hs a h0 h1 he
  intro a hs
  refine d_pure hs #[true, true, true, true, true, true, true, true, true, false, true, false, false, false, false, false] (i := 10) rfl rfl rfl (by decide) (by kernel_rfl) (tight_body (P := Try.prog) (fn := Try.f36)) (p_move rfl rfl) ?_
  clear hs a
  intro a hs
  refine d_pure hs #[true, true, true, true, true, true, true, true, true, false, true, false, true, false, false, false] (i := 12) rfl rfl rfl (by decide) (by kernel_rfl) (tight_body (P := Try.prog) (fn := Try.f36)) (p_nil rfl rfl) ?_
  clear hs a
  intro a hs
  refine d_pure hs #[true, true, true, true, true, true, true, true, true, false, true, false, true, true, false, false] (i := 13) rfl rfl rfl (by decide) (by kernel_rfl) (tight_body (P := Try.prog) (fn := Try.f36)) (p_fieldAddr rfl rfl ft_72_1) ?_
  clear hs a
  intro a hs
  obtain ⟨t41, hv, h⟩ := h
  refine d_read hs #[true, true, true, true, true, true, true, true, true, true, true, false, true, true, false, false] (i := 9) rfl rfl rfl (by decide) (by kernel_rfl) (by kernel_rfl) (tight_body (P := Try.prog) (fn := Try.f36)) hS (fun w h' => by have h1 := h'.out; subst h1; exact e_load rfl rfl ct_60 hv) ?_
  clear hs a hv
  intro a hs
  refine d_all [11] (by kernel_rfl) (by decide) ?_
  refine AllS.cons ?_ AllS.nil
  obtain ⟨t43, w1, hd, h⟩ := h
  refine d_eff hs #[true, true, true, true, true, true, true, true, true, true, true, true, true, true, false, false] (i := 11) rfl rfl rfl (by decide) rfl (e_append rfl rfl rfl rfl hd) (fun hn => (hn (by decide)).elim) ?_
  clear hs a hd
  intro a hs
  obtain ⟨t46, h0, h1, he, h⟩ := h
  refine d_pure hs #[true, true, true, true, true, true, true, true, true, true, true, true, true, true, true, false] (i := 14) rfl rfl rfl (by decide) (by kernel_rfl) (tight_body (P := Try.prog) (fn := Try.f36)) (Pure.adr he (p_idxA rfl rfl rfl ar_69 h0 h1)) ?_
  clear hs a h0 h1 he
  intro a hs
  refine d_all [15] (by kernel_rfl) (by decide) ?_
  refine AllS.cons ?_ AllS.nil
  obtain ⟨w1, hw, hc, hf, hv, h⟩ := h
  refine d_skip hs #[true, true, true, true, true, true, true, true, true, true, true, true, true, true, true, true] (i := 15) rfl rfl rfl rfl (e_store rfl rfl rfl sz_60 hw hc hf hv) (fun hn => (hn (by decide)).elim) ?_
  clear hs a hw hc hf hv
  intro a hs
  replace hs := hs.to (τ := []) trivial
  refine d_done (by kernel_rfl) ?_ _
  clear hS
  refine f_end (fn := Try.f36) hs (fun a hs => r_many hs (rs := []) (vs := []) rfl (by decide) trivial) ⟨rfl, h⟩
def law19_great.s2 (Q : Bool → K) (X1 : Int → K) (t8_2 : Sl) (t9_2 : Int) (t10_2 : Int) (t24_2 : Bool) : K :=
  Ite t24_2
    (Q true)
    (Ar (IntKind.wrap .i64 (t10_2 + 1)) fun t25 =>
    X1 t25)
def law19_great.b1 (Q : Bool → K)  (X1 : Int → K) (t8_1 : Sl) (t9_1 : Int) (t10_1 : Int) : K :=
  Ite (decide (t10_1 < t9_1))
    (Idx t8_1 t10_1 7 fun t12 =>
    LdN t12 7 fun t13 =>
    New 87 #[(.int .i64 0), (Sl.val ⟨none, 0, 0⟩), (.int .u64 0), (.int .u64 0), (.int .u64 0), (.int .u64 0), (Sl.val ⟨none, 0, 0⟩)] fun o4 =>
    StN o4 7 t13 <|
    Ld (o4.add 1) Sl.val fun t15 =>
    Ite (decide ((500 : Int) < (t15.n : Int)))
      (law19_great.s2 Q X1 t8_1 t9_1 t10_1 true)
      (Ld ((o4.add 2).add 4) Sl.val fun t21 =>
      law19_great.s2 Q X1 t8_1 t9_1 t10_1 (decide ((500 : Int) < (t21.n : Int)))))
    (Q false)
def law19_great (script0 : Sl) (Q : Bool → K) : K :=
  Ite (decide ((200 : Int) < (script0.n : Int)))
    (Q true)
    (LoopK (α := Int) (fun X x => law19_great.b1 Q X script0 (script0.n : Int) x) 0)
theorem law19_great_ok (script0 : Sl) (Q : Bool → K) (w : World) (h : law19_great script0 Q w) : law19_great.call script0 Q w := by
  unfold law19_great.call CallF
  refine f_start (args := [(Sl.val script0)]) Try.func39 rfl (Nat.le_of_ble_eq_true rfl) ?_
  intro a hs
  unfold law19_great at h
  refine wp_seq_k fun K1 hK1 => ?_
  refine wp_region_lit ?_
  refine t_pure hs rfl rfl (by decide) (p_assign rfl rfl) ?_
  clear hs a
  intro a hs
  refine hK1 _ _ ?_
  refine wp_seq_k fun K2 hK2 => ?_
  refine wp_seq_k fun K3 hK3 => ?_
  refine wp_region_lit ?_
  refine t_pure hs rfl rfl (by decide) (p_move rfl rfl) ?_
  clear hs a
  intro a hs
  refine t_pure hs rfl rfl (by decide) (p_len rfl rfl sl_82) ?_
  clear hs a
  intro a hs
  refine t_pure hs rfl rfl (by decide) (p_gt rfl rfl rfl) ?_
  clear hs a
  intro a hs
  refine hK3 _ _ ?_
  refine c_cond hs rfl (fun hb => ?_) (fun hb => ?_)
  · replace h := h.1 hb
    clear hb
    refine wp_seq_k fun K4 hK4 => ?_
    refine wp_region_lit ?_
    refine t_pure hs rfl rfl (by decide) (p_assign rfl rfl) ?_
    clear hs a
    intro a hs
    refine hK4 _ _ ?_
    refine wp_ret ?_
    refine f_ret (fn := Try.f39) hs (fun a hs => r_one hs rfl (rfl)) ⟨true, rfl, h⟩
  · replace h := h.2 hb
    clear hb
    refine wp_skip ?_
    refine hK2 _ _ ?_
    refine wp_seq_k fun K5 hK5 => ?_
    refine wp_seq_k fun K6 hK6 => ?_
    refine wp_region_lit ?_
    refine t_pure hs rfl rfl (by decide) (p_move rfl rfl) ?_
    clear hs a
    intro a hs
    refine t_pure hs rfl rfl (by decide) (p_len rfl rfl sl_82) ?_
    clear hs a
    intro a hs
    refine t_pure hs rfl rfl (by decide) (p_move rfl rfl) ?_
    clear hs a
    intro a hs
    refine hK6 _ _ ?_
    refine wp_block ?_
    obtain ⟨I1, μ1, h0, hr⟩ := h
    refine c_loop (α := Int) I1 μ1 (fun x a => Slots a 26 [(8, (Sl.val script0)), (9, (.int .i64 (script0.n : Int))), (10, (.int .i64 x))]) 0 h0 (hs.to ⟨rfl, rfl, rfl, trivial⟩) ?_
    clear h0 hs a
    intro t10_1 a w hI hs
    have h : law19_great.b1 Q (fun t10_1n w' => I1 t10_1n w' ∧ μ1 t10_1n w' < μ1 t10_1 w) script0 (script0.n : Int) t10_1 w := hr t10_1 w hI
    clear hr hI
    generalize hX1 : (fun t10_1n w' => I1 t10_1n w' ∧ μ1 t10_1n w' < μ1 t10_1 w) = X1 at h
    unfold law19_great.b1 at h
    replace hs : Slots a 26 [(8, (Sl.val script0)), (9, (.int .i64 (script0.n : Int))), (10, (.int .i64 t10_1))] := hs
    refine wp_seq_k fun K7 hK7 => ?_
    refine wp_region_lit ?_
    refine t_pure hs rfl rfl (by decide) (p_lt rfl rfl rfl) ?_
    clear hs a
    intro a hs
    refine hK7 _ _ ?_
    refine wp_seq_k fun K8 hK8 => ?_
    refine c_cond hs rfl (fun hb => ?_) (fun hb => ?_)
    · replace h := h.1 hb
      clear hb
      refine wp_skip ?_
      refine hK8 _ _ ?_
      refine wp_seq_k fun K9 hK9 => ?_
      refine wp_block ?_
      refine wp_seq_k fun K10 hK10 => ?_
      refine wp_region_lit ?_
      obtain ⟨qt12, t12, ha, h0, h1, he, h⟩ := h
      refine t_pure hs rfl rfl (by decide) (Pure.adr he (p_idx rfl rfl rfl sl_82 ha h0 h1)) ?_
      clear hs a ha h0 h1 he
      intro a hs
      obtain ⟨t13, hn, hv, h⟩ := h
      refine t_eff hs rfl rfl (by decide) (e_loadN rfl rfl at_87 hn hv) ?_
      clear hs a hn hv
      intro a hs
      obtain ⟨o4, w1, ha, hw, h⟩ := h
      refine t_eff hs rfl rfl (by decide) (e_alloc rfl zt_87 rfl ha hw) ?_
      clear hs a ha hw
      intro a hs
      obtain ⟨w1, hw, hn, hc, hv, h⟩ := h
      refine t_skip hs rfl rfl (e_storeN rfl rfl rfl sz_87 hw hn hc hv) ?_
      clear hs a hw hn hc hv
      intro a hs
      refine hK10 _ _ ?_
      refine wp_seq_k fun K11 hK11 => ?_
      have J2 : ∀ (t24_2 : Bool) (a : Act) (w : World), Slots a 26 [(8, (Sl.val script0)), (9, (.int .i64 (script0.n : Int))), (10, (.int .i64 t10_1)), (24, (.bool t24_2))] → law19_great.s2 Q X1 script0 (script0.n : Int) t10_1 t24_2 w → K11 a w := by
        clear h hs
        intro t24_2 a w hs h
        refine hK11 _ _ ?_
        unfold law19_great.s2 at h
        refine c_cond hs rfl (fun hb => ?_) (fun hb => ?_)
        · replace h := h.1 hb
          clear hb
          refine wp_seq_k fun K12 hK12 => ?_
          refine wp_region_lit ?_
          refine t_pure hs rfl rfl (by decide) (p_assign rfl rfl) ?_
          clear hs a
          intro a hs
          refine hK12 _ _ ?_
          refine wp_ret ?_
          refine f_ret (fn := Try.f39) hs (fun a hs => r_one hs rfl (rfl)) ⟨true, rfl, h⟩
        · replace h := h.2 hb
          clear hb
          refine wp_skip ?_
          refine hK9 _ _ ?_
          refine wp_region_lit ?_
          obtain ⟨t25, he, h⟩ := h
          refine t_pure hs rfl rfl (by decide) (Pure.int he (p_add rfl rfl rfl)) ?_
          clear hs a he
          intro a hs
          refine t_pure hs rfl rfl (by decide) (p_move rfl rfl) ?_
          clear hs a
          intro a hs
          rw [← hX1] at h
          exact ⟨t25, hs.to ⟨rfl, rfl, rfl, trivial⟩, h⟩
      clear hK11
      refine wp_region_lit ?_
      refine t_pure hs rfl rfl (by decide) (p_fieldAddr rfl rfl ft_87_1) ?_
      clear hs a
      intro a hs
      obtain ⟨t15, hv, h⟩ := h
      refine t_eff hs rfl rfl (by decide) (e_load rfl rfl ct_22 hv) ?_
      clear hs a hv
      intro a hs
      refine t_pure hs rfl rfl (by decide) (p_len rfl rfl sl_22) ?_
      clear hs a
      intro a hs
      refine t_pure hs rfl rfl (by decide) (p_gt rfl rfl rfl) ?_
      clear hs a
      intro a hs
      refine t_pure hs rfl rfl (by decide) (p_move rfl rfl) ?_
      clear hs a
      intro a hs
      refine split_bool (decide ((500 : Int) < (t15.n : Int))) (fun hb => ?_) (fun hb => ?_)
      · replace h := h.1 hb
        rw [hb] at hs
        clear hb
        refine t_no hs rfl rfl (by decide) ?_
        clear hs a
        intro a hs
        refine t_no hs rfl rfl (by decide) ?_
        clear hs a
        intro a hs
        refine t_no hs rfl rfl (by decide) ?_
        clear hs a
        intro a hs
        replace hs := hs.to (τ := [(8, (Sl.val script0)), (9, (.int .i64 (script0.n : Int))), (10, (.int .i64 t10_1)), (18, (.bool true)), (21, undef)]) ⟨rfl, rfl, rfl, rfl, rfl, trivial⟩
        refine t_no hs rfl rfl (by decide) ?_
        clear hs a
        intro a hs
        refine t_no hs rfl rfl (by decide) ?_
        clear hs a
        intro a hs
        refine t_pure hs rfl rfl (by decide) (p_pick_t rfl rfl rfl) ?_
        clear hs a
        intro a hs
        exact J2 true _ _ (hs.to ⟨rfl, rfl, rfl, rfl, trivial⟩) h
      · replace h := h.2 hb
        rw [hb] at hs
        clear hb
        refine t_yes hs rfl ?_
        refine t_pure hs rfl rfl (by decide) (p_fieldAddr rfl rfl ft_87_2) ?_
        clear hs a
        intro a hs
        refine t_yes hs rfl ?_
        refine t_pure hs rfl rfl (by decide) (p_fieldAddr rfl rfl ft_36_4) ?_
        clear hs a
        intro a hs
        refine t_yes hs rfl ?_
        obtain ⟨t21, hv, h⟩ := h
        refine t_eff hs rfl rfl (by decide) (e_load rfl rfl ct_22 hv) ?_
        clear hs a hv
        intro a hs
        replace hs := hs.to (τ := [(8, (Sl.val script0)), (9, (.int .i64 (script0.n : Int))), (10, (.int .i64 t10_1)), (18, (.bool false)), (21, (Sl.val t21))]) ⟨rfl, rfl, rfl, rfl, rfl, trivial⟩
        refine t_yes hs rfl ?_
        refine t_pure hs rfl rfl (by decide) (p_len rfl rfl sl_22) ?_
        clear hs a
        intro a hs
        refine t_yes hs rfl ?_
        refine t_pure hs rfl rfl (by decide) (p_gt rfl rfl rfl) ?_
        clear hs a
        intro a hs
        refine t_pure hs rfl rfl (by decide) (p_pick_f rfl rfl rfl) ?_
        clear hs a
        intro a hs
        exact J2 (decide ((500 : Int) < (t21.n : Int))) _ _ (hs.to ⟨rfl, rfl, rfl, rfl, trivial⟩) h
    · replace h := h.2 hb
      clear hb
      refine wp_exit ?_
      refine hK5 _ _ ?_
      refine wp_seq_k fun K13 hK13 => ?_
      refine wp_region_lit ?_
      refine t_pure hs rfl rfl (by decide) (p_assign rfl rfl) ?_
      clear hs a
      intro a hs
      refine hK13 _ _ ?_
      refine wp_ret ?_
      refine f_ret (fn := Try.f39) hs (fun a hs => r_one hs rfl (rfl)) ⟨false, rfl, h⟩
end Go.Proofs.Ytilejcnbacmdnaa
