/- Plain forms of functions, and that their code comes to them (package link). -/
import Derived.Test.YtilejcnbacmdnaaCalls
namespace Go.Proofs.Ytilejcnbacmdnaa
open Go Go.Sep
set_option linter.unusedVariables false
set_option linter.unusedSimpArgs false
set_option maxRecDepth 100000
set_option maxHeartbeats 4000000
def link_New (epoch0 : Int) (Q : (Option Addr) → K) : K :=
  Do Try.prog (Instr.makeMap 105 none) Value.map fun t4 =>
  New 107 #[(.int .u64 epoch0), (.int .u64 0), (.int .u64 1), (.int .u64 1), (Sl.val ⟨none, 0, 0⟩), (.map t4)] fun t6 =>
  Q (some t6)
theorem link_New_ok (epoch0 : Int) (Q : (Option Addr) → K) (w : World) (h : link_New epoch0 Q w) : link_New.call epoch0 Q w := by
  unfold link_New.call CallF
  refine f_start (args := [(.int .u64 epoch0)]) Try.func29 rfl (Nat.le_of_ble_eq_true rfl) ?_
  intro a hs
  unfold link_New at h
  refine wp_seq_k fun K1 hK1 => ?_
  refine wp_region_lit ?_
  refine t_pure hs rfl rfl (by decide) (p_assign rfl rfl) ?_
  clear hs a
  intro a hs
  refine hK1 _ _ ?_
  refine wp_seq_k fun K2 hK2 => ?_
  refine wp_region_lit ?_
  refine t_pure hs rfl rfl (by decide) (p_move rfl rfl) ?_
  clear hs a
  intro a hs
  obtain ⟨t4, w1, hd, h⟩ := h
  refine t_eff hs rfl rfl (by decide) (e_makeMap rfl hd) ?_
  clear hs a hd
  intro a hs
  refine t_pure hs rfl rfl (by decide) (e_build (cs := #[(.int .u64 epoch0), (.int .u64 0), (.int .u64 1), (.int .u64 1), (Sl.val ⟨none, 0, 0⟩), (.map t4)]) rfl zt_107 pl_107 rfl rfl) ?_
  clear hs a
  intro a hs
  obtain ⟨t6, w1, ha, hw, h⟩ := h
  refine t_eff hs rfl rfl (by decide) (e_box rfl rfl rfl ha hw) ?_
  clear hs a ha hw
  intro a hs
  refine t_pure hs rfl rfl (by decide) (p_assign rfl rfl) ?_
  clear hs a
  intro a hs
  refine hK2 _ _ ?_
  refine wp_ret ?_
  refine f_ret (fn := Try.f29) hs (fun a hs => r_one hs rfl (rfl)) ⟨(some t6), rfl, h⟩
def link_Link_Send (l0 : (Option Addr)) (data1 : Sl) (Q : Int → K) : K :=
  Nn l0 fun t6 =>
  Ld (t6.add 4) Sl.val fun t8 =>
  Ite (decide ((16 : Int) ≤ (t8.n : Int)))
    (Q 2)
    (Dr <| WithS fun S =>
    LdS S (t6.add 4) Sl.val fun t15 =>
    bytes_Clone.call data1 fun t17 =>
    Sv S <|
    New 22 #[(Sl.val t17)] fun t18 =>
    Sv S <|
    Do Try.prog (Builtin.append_ #[56, 56] 56 #[(Sl.val t15), (Sl.val (Sl.mk (some t18) 1 1))]) Sl.val fun t19 =>
    St (t6.add 4) (Sl.val t19) <|
    Q 0)
theorem link_Link_Send_ok (l0 : (Option Addr)) (data1 : Sl) (Q : Int → K) (w : World) (h : link_Link_Send l0 data1 Q w) : link_Link_Send.call l0 data1 Q w := by
  unfold link_Link_Send.call CallF
  refine f_start (args := [(.pointer l0), (Sl.val data1)]) Try.func30 rfl (Nat.le_of_ble_eq_true rfl) ?_
  intro a hs
  unfold link_Link_Send at h
  refine wp_seq_k fun K1 hK1 => ?_
  refine wp_region_lit ?_
  refine t_pure hs rfl rfl (by decide) (p_assign rfl rfl) ?_
  clear hs a
  intro a hs
  refine hK1 _ _ ?_
  refine wp_seq_k fun K2 hK2 => ?_
  refine wp_seq_k fun K3 hK3 => ?_
  refine wp_region_lit ?_
  refine t_pure hs rfl rfl (by decide) (p_move rfl rfl) ?_
  clear hs a
  intro a hs
  obtain ⟨t6, rfl, h⟩ := h
  refine t_pure hs rfl rfl (by decide) (p_nil rfl rfl) ?_
  clear hs a
  intro a hs
  refine t_pure hs rfl rfl (by decide) (p_fieldAddr rfl rfl ft_107_4) ?_
  clear hs a
  intro a hs
  obtain ⟨t8, hv, h⟩ := h
  refine t_eff hs rfl rfl (by decide) (e_load rfl rfl ct_56 hv) ?_
  clear hs a hv
  intro a hs
  refine t_pure hs rfl rfl (by decide) (p_len rfl rfl sl_56) ?_
  clear hs a
  intro a hs
  refine t_pure hs rfl rfl (by decide) (p_ge rfl rfl rfl) ?_
  clear hs a
  intro a hs
  refine hK3 _ _ ?_
  refine c_cond hs rfl (fun hb => ?_) (fun hb => ?_)
  · replace h := h.1 hb
    clear hb
    refine wp_seq_k fun K4 hK4 => ?_
    refine wp_region_lit ?_
    refine t_pure hs rfl rfl (by decide) (p_assign rfl rfl) ?_
    clear hs a
    intro a hs
    refine hK4 _ _ ?_
    refine wp_ret ?_
    refine f_ret (fn := Try.f30) hs (fun a hs => r_one hs rfl (rfl)) ⟨2, rfl, h⟩
  · replace h := h.2 hb
    clear hb
    refine wp_skip ?_
    refine hK2 _ _ ?_
    refine wp_seq_k fun K5 hK5 => ?_
    obtain ⟨w1, hw1, h⟩ := h
    obtain ⟨S, hS, h⟩ := h
    subst hw1
    refine d_start (S := S) (ds := [8, 11]) #[false, false, false, false, false, false, false, false, false, false, false, false] mixed rfl rfl ?_
    refine d_pure hs #[true, false, false, false, false, false, false, false, false, false, false, false] (i := 0) rfl rfl rfl (by decide) (by kernel_rfl) (tight_body (P := Try.prog) (fn := Try.f30)) (p_move rfl rfl) ?_
    clear hs a
    intro a hs
    refine d_pure hs #[true, true, false, false, false, false, false, false, false, false, false, false] (i := 1) rfl rfl rfl (by decide) (by kernel_rfl) (tight_body (P := Try.prog) (fn := Try.f30)) (p_move rfl rfl) ?_
    clear hs a
    intro a hs
    refine d_pure hs #[true, true, true, false, false, false, false, false, false, false, false, false] (i := 2) rfl rfl rfl (by decide) (by kernel_rfl) (tight_body (P := Try.prog) (fn := Try.f30)) (p_nil rfl rfl) ?_
    clear hs a
    intro a hs
    refine d_pure hs #[true, true, true, true, false, false, false, false, false, false, false, false] (i := 3) rfl rfl rfl (by decide) (by kernel_rfl) (tight_body (P := Try.prog) (fn := Try.f30)) (p_fieldAddr rfl rfl ft_107_4) ?_
    clear hs a
    intro a hs
    refine d_pure hs #[true, true, true, true, false, true, false, false, false, false, false, false] (i := 5) rfl rfl rfl (by decide) (by kernel_rfl) (tight_body (P := Try.prog) (fn := Try.f30)) (p_move rfl rfl) ?_
    clear hs a
    intro a hs
    obtain ⟨t15, hv, h⟩ := h
    refine d_read hs #[true, true, true, true, true, true, false, false, false, false, false, false] (i := 4) rfl rfl rfl (by decide) (by kernel_rfl) (by kernel_rfl) (tight_body (P := Try.prog) (fn := Try.f30)) hS (fun w h' => e_load rfl rfl ct_56 (hv w h')) ?_
    clear hs a hv
    intro a hs
    refine d_all [6] (by kernel_rfl) (by decide) ?_
    refine AllS.cons ?_ AllS.nil
    refine d_call hs #[true, true, true, true, true, true, true, false, false, false, false, false] (i := 6) rfl rfl rfl (by decide) rfl (e_call rfl rfl rfl cb_53) h (fun v w'' hk => by obtain ⟨t17, _, hS, _⟩ := hk; exact fun _ _ => hS) ?_
    clear hs a h
    intro v a w hk hs
    obtain ⟨t17, rfl, h⟩ := hk
    obtain ⟨hS, h⟩ := h
    refine d_all [7] (by kernel_rfl) (by decide) ?_
    refine AllS.cons ?_ AllS.nil
    obtain ⟨t18, w1, ha, hw, h⟩ := h
    obtain ⟨hS, h⟩ := h
    refine d_eff hs #[true, true, true, true, true, true, true, true, false, false, false, false] (i := 7) rfl rfl rfl (by decide) rfl (e_buildSlice (z := #[(Sl.val ⟨none, 0, 0⟩)]) (cs := #[(Sl.val t17)]) rfl sl_56 zt_22 (by decide) rfl rz_22_1 (by rfl) ha hw) (fun _ _ => hS) ?_
    clear hs a ha hw
    intro a hs
    replace hs := hs.to (τ := [(11, (.pointer (some t6))), (15, (Sl.val t15)), (18, (Sl.val (Sl.mk (some t18) 1 1)))]) ⟨rfl, rfl, rfl, trivial⟩
    refine d_all [8] (by kernel_rfl) (by decide) ?_
    refine AllS.cons ?_ AllS.nil
    obtain ⟨t19, w1, hd, h⟩ := h
    refine d_eff hs #[true, true, true, true, true, true, true, true, true, false, false, false] (i := 8) rfl rfl rfl (by decide) rfl (e_append rfl rfl rfl rfl hd) (fun hn => (hn (by decide)).elim) ?_
    clear hs a hd
    intro a hs
    refine d_pure hs #[true, true, true, true, true, true, true, true, true, true, false, false] (i := 9) rfl rfl rfl (by decide) (by kernel_rfl) (tight_body (P := Try.prog) (fn := Try.f30)) (p_nil rfl rfl) ?_
    clear hs a
    intro a hs
    refine d_pure hs #[true, true, true, true, true, true, true, true, true, true, true, false] (i := 10) rfl rfl rfl (by decide) (by kernel_rfl) (tight_body (P := Try.prog) (fn := Try.f30)) (p_fieldAddr rfl rfl ft_107_4) ?_
    clear hs a
    intro a hs
    refine d_all [11] (by kernel_rfl) (by decide) ?_
    refine AllS.cons ?_ AllS.nil
    obtain ⟨w1, hw, hc, hf, hv, h⟩ := h
    refine d_skip hs #[true, true, true, true, true, true, true, true, true, true, true, true] (i := 11) rfl rfl rfl rfl (e_store rfl rfl rfl sz_56 hw hc hf hv) (fun hn => (hn (by decide)).elim) ?_
    clear hs a hw hc hf hv
    intro a hs
    refine d_done (by kernel_rfl) ?_ _
    clear hS
    refine hK5 _ _ ?_
    refine wp_seq_k fun K6 hK6 => ?_
    refine wp_region_lit ?_
    refine t_pure hs rfl rfl (by decide) (p_assign rfl rfl) ?_
    clear hs a
    intro a hs
    refine hK6 _ _ ?_
    refine wp_ret ?_
    refine f_ret (fn := Try.f30) hs (fun a hs => r_one hs rfl (rfl)) ⟨0, rfl, h⟩
def link_Link_Receive.b3 (Q : Sl → Sl → K)  (X3 : Sl → K) (l0_3 : Addr) (came4_3 : Sl) : K :=
  Dr <|
  Ld (l0_3.add 5) Value.map fun t87 =>
  Ld (l0_3.add 3) (Value.int .u64) fun t91 =>
  Rd2 Try.prog (Instr.lookup 105 (.map t87) (.int .u64 t91) true) (fun x y => .tuple #[Sl.val x, .bool y]) fun t92v t92ok =>
  Ite (!t92ok)
    (link_Link_packet.call (some l0_3) fun t99 =>
    Bld #[(.int .u64 0), (.int .u64 0), (.int .u64 0), (.int .u64 0), (Sl.val ⟨none, 0, 0⟩)] (fun i => some (i * 5, 5)) [(0, (.agg t99))] fun ct100 =>
    New 36 ct100 fun t100 =>
    Q came4_3 (Sl.mk (some t100) 1 1))
    (Dr <|
    Ld (l0_3.add 5) Value.map fun t104 =>
    Ld (l0_3.add 3) (Value.int .u64) fun t108 =>
    Do Try.prog (Builtin.delete_ #[105, 23] 0 #[(.map t104), (.int .u64 t108)]) id fun _ =>
    New 22 #[(Sl.val t92v)] fun t111 =>
    Do Try.prog (Builtin.append_ #[56, 56] 56 #[(Sl.val came4_3), (Sl.val (Sl.mk (some t111) 1 1))]) Sl.val fun t112 =>
    Ld (l0_3.add 3) (Value.int .u64) fun t116 =>
    Ar (IntKind.wrap .u64 (t116 + 1)) fun t117 =>
    St (l0_3.add 3) (.int .u64 t117) <|
    X3 t112)
def link_Link_Receive.s2 (Q : Sl → Sl → K)  (l0_2 : Addr) : K :=
  LoopK (α := Sl) (fun X x => link_Link_Receive.b3 Q X l0_2 x) (Sl.mk none 0 0)
def link_Link_Receive.s4 (Q : Sl → Sl → K)  (l0_4 : Addr) (p3_4 : Addr) (t73_4 : Bool) : K :=
  Ite t73_4
    (Dr <| WithS fun S =>
    LdS S (l0_4.add 5) Value.map fun t77 =>
    LdS S (p3_4.add 2) (Value.int .u64) fun t79 =>
    LdS S (p3_4.add 4) Sl.val fun t81 =>
    bytes_Clone.call t81 fun t82 =>
    Sv S <|
    DoU Try.prog (Instr.mapUpdate 105 (.map t77) (.int .u64 t79) (Sl.val t82)) <|
    link_Link_Receive.s2 Q l0_4)
    (link_Link_Receive.s2 Q l0_4)
def link_Link_Receive.s1 (Q : Sl → Sl → K)  (l0_1 : (Option Addr)) (p3_1 : Addr) (t21_1 : Bool) : K :=
  Ite t21_1
    (Q (Sl.mk none 0 0) (Sl.mk none 0 0))
    (Ld p3_1 (Value.int .u64) fun t24 =>
    link_Link_meet.call l0_1 t24 <|
    Dr <|
    Ld (p3_1.add 1) (Value.int .u64) fun t27 =>
    Nn l0_1 fun t29 =>
    Ld t29 (Value.int .u64) fun t31 =>
    Ite (decide (t27 ≠ t31))
      (link_Link_packet.call (some t29) fun t34 =>
      Bld #[(.int .u64 0), (.int .u64 0), (.int .u64 0), (.int .u64 0), (Sl.val ⟨none, 0, 0⟩)] (fun i => some (i * 5, 5)) [(0, (.agg t34))] fun ct35 =>
      New 36 ct35 fun t35 =>
      Q (Sl.mk none 0 0) (Sl.mk (some t35) 1 1))
      (Ld (p3_1.add 3) (Value.int .u64) fun t38 =>
      link_Link_acknowledged.call (some t29) t38 <|
      Ld (p3_1.add 2) (Value.int .u64) fun t41 =>
      Ite (decide (t41 = 0))
        (Q (Sl.mk none 0 0) (Sl.mk none 0 0))
        (Dr <|
        Ld (t29.add 5) Value.map fun t47 =>
        Ld (p3_1.add 2) (Value.int .u64) fun t49 =>
        Rd2 Try.prog (Instr.lookup 105 (.map t47) (.int .u64 t49) true) (fun x y => .tuple #[Sl.val x, .bool y]) fun t50v t50ok =>
        Dr <|
        Ite (!t50ok)
          (Ld (p3_1.add 2) (Value.int .u64) fun t57 =>
          Ld (t29.add 3) (Value.int .u64) fun t61 =>
          Ite (decide (t61 ≤ t57))
            (Ld (p3_1.add 2) (Value.int .u64) fun t66 =>
            Ld (t29.add 3) (Value.int .u64) fun t70 =>
            Ar (IntKind.wrap .u64 (t66 - t70)) fun t71 =>
            link_Link_Receive.s4 Q t29 p3_1 (decide (t71 < 16)))
            (link_Link_Receive.s4 Q t29 p3_1 false))
          (link_Link_Receive.s4 Q t29 p3_1 false))))
def link_Link_Receive (l0 : (Option Addr)) (p1 : (Array Value)) (Q : Sl → Sl → K) : K :=
  New 36 p1 fun p3 =>
  Dr <|
  Ld p3 (Value.int .u64) fun t11 =>
  Ite (decide (t11 = 0))
    (link_Link_Receive.s1 Q l0 p3 true)
    (Ld p3 (Value.int .u64) fun t15 =>
    Nn l0 fun t17 =>
    Ld (t17.add 1) (Value.int .u64) fun t19 =>
    link_Link_Receive.s1 Q (some t17) p3 (decide (t15 < t19)))
theorem link_Link_Receive_ok (l0 : (Option Addr)) (p1 : (Array Value)) (Q : Sl → Sl → K) (w : World) (h : link_Link_Receive l0 p1 Q w) : link_Link_Receive.call l0 p1 Q w := by
  unfold link_Link_Receive.call CallF
  refine f_start (args := [(.pointer l0), (.agg p1)]) Try.func31 rfl (Nat.le_of_ble_eq_true rfl) ?_
  intro a hs
  unfold link_Link_Receive at h
  refine wp_seq_k fun K1 hK1 => ?_
  refine wp_region_lit ?_
  obtain ⟨p3, w1, ha, hw, h⟩ := h
  refine t_eff hs rfl rfl (by decide) (e_box rfl rfl rfl ha hw) ?_
  clear hs a ha hw
  intro a hs
  refine t_pure hs rfl rfl (by decide) (p_assign rfl rfl) ?_
  clear hs a
  intro a hs
  refine t_pure hs rfl rfl (by decide) (p_assign rfl rfl) ?_
  clear hs a
  intro a hs
  refine hK1 _ _ ?_
  refine wp_seq_k fun K2 hK2 => ?_
  refine wp_seq_k fun K3 hK3 => ?_
  have J1 : ∀ (t21_1 : Bool) (a : Act) (w : World), Slots a 120 [(0, (.pointer l0)), (3, (.pointer (some p3))), (4, (Sl.val (Sl.mk none 0 0))), (21, (.bool t21_1))] → link_Link_Receive.s1 Q l0 p3 t21_1 w → K3 a w := by
    clear h hs
    intro t21_1 a w hs h
    refine hK3 _ _ ?_
    unfold link_Link_Receive.s1 at h
    refine c_cond hs rfl (fun hb => ?_) (fun hb => ?_)
    · replace h := h.1 hb
      clear hb
      refine wp_seq_k fun K4 hK4 => ?_
      refine wp_region_lit ?_
      refine t_pure hs rfl rfl (by decide) (p_assign rfl rfl) ?_
      clear hs a
      intro a hs
      refine t_pure hs rfl rfl (by decide) (p_assign rfl rfl) ?_
      clear hs a
      intro a hs
      refine hK4 _ _ ?_
      refine wp_ret ?_
      refine f_ret (fn := Try.f31) hs (fun a hs => r_many hs (rs := [ResultVar.tmp 4, ResultVar.tmp 5]) (vs := [(Sl.val (Sl.mk none 0 0)), (Sl.val (Sl.mk none 0 0))]) rfl (by decide) ⟨rfl, rfl, trivial⟩) ⟨(Sl.mk none 0 0), (Sl.mk none 0 0), rfl, h⟩
    · replace h := h.2 hb
      clear hb
      refine wp_skip ?_
      refine hK2 _ _ ?_
      refine wp_seq_k fun K5 hK5 => ?_
      refine wp_region_lit ?_
      refine t_pure hs rfl rfl (by decide) (p_move rfl rfl) ?_
      clear hs a
      intro a hs
      refine t_pure hs rfl rfl (by decide) (p_fieldAddr0 rfl rfl ft_36_0) ?_
      clear hs a
      intro a hs
      obtain ⟨t24, hv, h⟩ := h
      refine t_eff hs rfl rfl (by decide) (e_load rfl rfl ct_23 hv) ?_
      clear hs a hv
      intro a hs
      refine t_call hs rfl rfl (by decide) (e_call rfl rfl rfl cb_54) h ?_
      clear hs a h
      intro v a w hk hs
      obtain ⟨rfl, h⟩ := hk
      refine hK5 _ _ ?_
      refine wp_seq_k fun K6 hK6 => ?_
      refine wp_seq_k fun K7 hK7 => ?_
      obtain ⟨w1, hw1, h⟩ := h
      refine s_start mixed (by kernel_rfl) hw1 ?_
      clear hw1
      refine s_pure hs rfl rfl (by decide) (p_fieldAddr rfl rfl ft_36_1) ?_
      clear hs a
      intro a hs
      obtain ⟨t27, hv, h⟩ := h
      refine s_eff hs rfl rfl (by decide) (e_load rfl rfl ct_23 hv) ?_
      clear hs a hv
      intro a hs
      refine s_pure hs rfl rfl (by decide) (p_move rfl rfl) ?_
      clear hs a
      intro a hs
      obtain ⟨t29, rfl, h⟩ := h
      refine s_pure hs rfl rfl (by decide) (p_nil rfl rfl) ?_
      clear hs a
      intro a hs
      refine s_pure hs rfl rfl (by decide) (p_fieldAddr0 rfl rfl ft_107_0) ?_
      clear hs a
      intro a hs
      obtain ⟨t31, hv, h⟩ := h
      refine s_eff hs rfl rfl (by decide) (e_load rfl rfl ct_23 hv) ?_
      clear hs a hv
      intro a hs
      refine s_pure hs rfl rfl (by decide) (p_ne rfl rfl rfl) ?_
      clear hs a
      intro a hs
      refine hK7 _ _ ?_
      refine c_cond hs rfl (fun hb => ?_) (fun hb => ?_)
      · replace h := h.1 hb
        clear hb
        refine wp_seq_k fun K8 hK8 => ?_
        refine wp_region_lit ?_
        refine t_pure hs rfl rfl (by decide) (p_move rfl rfl) ?_
        clear hs a
        intro a hs
        refine t_call hs rfl rfl (by decide) (e_call rfl rfl rfl cb_55) h ?_
        clear hs a h
        intro v a w hk hs
        obtain ⟨t34, rfl, h⟩ := hk
        obtain ⟨ct35, hb, t35, w1, ha, hw, h⟩ := h
        refine t_eff hs rfl rfl (by decide) (e_buildSlice (z := #[(.int .u64 0), (.int .u64 0), (.int .u64 0), (.int .u64 0), (Sl.val ⟨none, 0, 0⟩)]) rfl sl_60 zt_36 (by decide) rfl rz_36_1 hb ha hw) ?_
        clear hs a hb ha hw
        intro a hs
        refine t_pure hs rfl rfl (by decide) (p_assign rfl rfl) ?_
        clear hs a
        intro a hs
        refine t_pure hs rfl rfl (by decide) (p_assign rfl rfl) ?_
        clear hs a
        intro a hs
        refine hK8 _ _ ?_
        refine wp_ret ?_
        refine f_ret (fn := Try.f31) hs (fun a hs => r_many hs (rs := [ResultVar.tmp 4, ResultVar.tmp 5]) (vs := [(Sl.val (Sl.mk none 0 0)), (Sl.val (Sl.mk (some t35) 1 1))]) rfl (by decide) ⟨rfl, rfl, trivial⟩) ⟨(Sl.mk none 0 0), (Sl.mk (some t35) 1 1), rfl, h⟩
      · replace h := h.2 hb
        clear hb
        refine wp_skip ?_
        refine hK6 _ _ ?_
        refine wp_seq_k fun K9 hK9 => ?_
        refine wp_region_lit ?_
        refine t_pure hs rfl rfl (by decide) (p_move rfl rfl) ?_
        clear hs a
        intro a hs
        refine t_pure hs rfl rfl (by decide) (p_fieldAddr rfl rfl ft_36_3) ?_
        clear hs a
        intro a hs
        obtain ⟨t38, hv, h⟩ := h
        refine t_eff hs rfl rfl (by decide) (e_load rfl rfl ct_23 hv) ?_
        clear hs a hv
        intro a hs
        refine t_call hs rfl rfl (by decide) (e_call rfl rfl rfl cb_56) h ?_
        clear hs a h
        intro v a w hk hs
        obtain ⟨rfl, h⟩ := hk
        refine hK9 _ _ ?_
        refine wp_seq_k fun K10 hK10 => ?_
        refine wp_seq_k fun K11 hK11 => ?_
        refine wp_region_lit ?_
        refine t_pure hs rfl rfl (by decide) (p_fieldAddr rfl rfl ft_36_2) ?_
        clear hs a
        intro a hs
        obtain ⟨t41, hv, h⟩ := h
        refine t_eff hs rfl rfl (by decide) (e_load rfl rfl ct_23 hv) ?_
        clear hs a hv
        intro a hs
        refine t_pure hs rfl rfl (by decide) (p_eq rfl rfl rfl) ?_
        clear hs a
        intro a hs
        refine hK11 _ _ ?_
        refine c_cond hs rfl (fun hb => ?_) (fun hb => ?_)
        · replace h := h.1 hb
          clear hb
          refine wp_seq_k fun K12 hK12 => ?_
          refine wp_region_lit ?_
          refine t_pure hs rfl rfl (by decide) (p_assign rfl rfl) ?_
          clear hs a
          intro a hs
          refine t_pure hs rfl rfl (by decide) (p_assign rfl rfl) ?_
          clear hs a
          intro a hs
          refine hK12 _ _ ?_
          refine wp_ret ?_
          refine f_ret (fn := Try.f31) hs (fun a hs => r_many hs (rs := [ResultVar.tmp 4, ResultVar.tmp 5]) (vs := [(Sl.val (Sl.mk none 0 0)), (Sl.val (Sl.mk none 0 0))]) rfl (by decide) ⟨rfl, rfl, trivial⟩) ⟨(Sl.mk none 0 0), (Sl.mk none 0 0), rfl, h⟩
        · replace h := h.2 hb
          clear hb
          refine wp_skip ?_
          refine hK10 _ _ ?_
          refine wp_seq_k fun K13 hK13 => ?_
          have J2 : ∀ (a : Act) (w : World), Slots a 120 [(0, (.pointer (some t29))), (4, (Sl.val (Sl.mk none 0 0)))] → link_Link_Receive.s2 Q t29 w → K13 a w := by
            clear h hs
            intro a w hs h
            refine hK13 _ _ ?_
            unfold link_Link_Receive.s2 at h
            refine wp_block ?_
            obtain ⟨I3, μ3, h0, hr⟩ := h
            refine c_loop (α := Sl) I3 μ3 (fun x a => Slots a 120 [(0, (.pointer (some t29))), (4, (Sl.val x))]) (Sl.mk none 0 0) h0 (hs.to ⟨rfl, rfl, trivial⟩) ?_
            clear h0 hs a
            intro came4_3 a w hI hs
            have h : link_Link_Receive.b3 Q (fun came4_3n w' => I3 came4_3n w' ∧ μ3 came4_3n w' < μ3 came4_3 w) t29 came4_3 w := hr came4_3 w hI
            clear hr hI
            generalize hX3 : (fun came4_3n w' => I3 came4_3n w' ∧ μ3 came4_3n w' < μ3 came4_3 w) = X3 at h
            unfold link_Link_Receive.b3 at h
            replace hs : Slots a 120 [(0, (.pointer (some t29))), (4, (Sl.val came4_3))] := hs
            refine wp_block ?_
            refine wp_seq_k fun K14 hK14 => ?_
            obtain ⟨w1, hw1, h⟩ := h
            refine s_start mixed (by kernel_rfl) hw1 ?_
            clear hw1
            refine s_pure hs rfl rfl (by decide) (p_move rfl rfl) ?_
            clear hs a
            intro a hs
            refine s_pure hs rfl rfl (by decide) (p_nil rfl rfl) ?_
            clear hs a
            intro a hs
            refine s_pure hs rfl rfl (by decide) (p_fieldAddr rfl rfl ft_107_5) ?_
            clear hs a
            intro a hs
            obtain ⟨t87, hv, h⟩ := h
            refine s_eff hs rfl rfl (by decide) (e_load rfl rfl ct_105 hv) ?_
            clear hs a hv
            intro a hs
            refine s_pure hs rfl rfl (by decide) (p_move rfl rfl) ?_
            clear hs a
            intro a hs
            refine s_pure hs rfl rfl (by decide) (p_nil rfl rfl) ?_
            clear hs a
            intro a hs
            refine s_pure hs rfl rfl (by decide) (p_fieldAddr rfl rfl ft_107_3) ?_
            clear hs a
            intro a hs
            obtain ⟨t91, hv, h⟩ := h
            refine s_eff hs rfl rfl (by decide) (e_load rfl rfl ct_23 hv) ?_
            clear hs a hv
            intro a hs
            replace hs := hs.to (τ := [(0, (.pointer (some t29))), (4, (Sl.val came4_3)), (87, (.map t87)), (91, (.int .u64 t91))]) ⟨rfl, rfl, rfl, rfl, trivial⟩
            obtain ⟨t92v, t92ok, hd, h⟩ := h
            refine s_eff hs rfl rfl (by decide) (e_lookup rfl rfl rfl hd) ?_
            clear hs a hd
            intro a hs
            refine s_pure hs rfl rfl (by decide) (p_move rfl rfl) ?_
            clear hs a
            intro a hs
            refine s_pure hs rfl rfl (by decide) (p_extract rfl rfl rfl) ?_
            clear hs a
            intro a hs
            refine s_pure hs rfl rfl (by decide) (p_extract rfl rfl rfl) ?_
            clear hs a
            intro a hs
            refine s_pure hs rfl rfl (by decide) (p_assign rfl rfl) ?_
            clear hs a
            intro a hs
            refine s_pure hs rfl rfl (by decide) (p_assign rfl rfl) ?_
            clear hs a
            intro a hs
            refine hK14 _ _ ?_
            refine wp_seq_k fun K15 hK15 => ?_
            refine wp_seq_k fun K16 hK16 => ?_
            refine wp_region_lit ?_
            refine t_pure hs rfl rfl (by decide) (p_move rfl rfl) ?_
            clear hs a
            intro a hs
            refine t_pure hs rfl rfl (by decide) (p_not rfl rfl) ?_
            clear hs a
            intro a hs
            refine hK16 _ _ ?_
            refine c_cond hs rfl (fun hb => ?_) (fun hb => ?_)
            · replace h := h.1 hb
              clear hb
              refine wp_seq_k fun K17 hK17 => ?_
              refine wp_region_lit ?_
              refine t_pure hs rfl rfl (by decide) (p_move rfl rfl) ?_
              clear hs a
              intro a hs
              refine t_pure hs rfl rfl (by decide) (p_move rfl rfl) ?_
              clear hs a
              intro a hs
              refine t_call hs rfl rfl (by decide) (e_call rfl rfl rfl cb_55) h ?_
              clear hs a h
              intro v a w hk hs
              obtain ⟨t99, rfl, h⟩ := hk
              obtain ⟨ct100, hb, t100, w1, ha, hw, h⟩ := h
              refine t_eff hs rfl rfl (by decide) (e_buildSlice (z := #[(.int .u64 0), (.int .u64 0), (.int .u64 0), (.int .u64 0), (Sl.val ⟨none, 0, 0⟩)]) rfl sl_60 zt_36 (by decide) rfl rz_36_1 hb ha hw) ?_
              clear hs a hb ha hw
              intro a hs
              refine t_pure hs rfl rfl (by decide) (p_assign rfl rfl) ?_
              clear hs a
              intro a hs
              refine t_pure hs rfl rfl (by decide) (p_assign rfl rfl) ?_
              clear hs a
              intro a hs
              refine hK17 _ _ ?_
              refine wp_ret ?_
              refine f_ret (fn := Try.f31) hs (fun a hs => r_many hs (rs := [ResultVar.tmp 4, ResultVar.tmp 5]) (vs := [(Sl.val came4_3), (Sl.val (Sl.mk (some t100) 1 1))]) rfl (by decide) ⟨rfl, rfl, trivial⟩) ⟨came4_3, (Sl.mk (some t100) 1 1), rfl, h⟩
            · replace h := h.2 hb
              clear hb
              refine wp_skip ?_
              refine hK15 _ _ ?_
              refine wp_seq_k fun K18 hK18 => ?_
              obtain ⟨w1, hw1, h⟩ := h
              refine d_start (S := Is w1) (ds := [8]) #[false, false, false, false, false, false, false, false, false] mixed rfl rfl ?_
              rw [← hw1]
              have hS := Is.intro w1
              clear hw1
              refine d_pure hs #[true, false, false, false, false, false, false, false, false] (i := 0) rfl rfl rfl (by decide) (by kernel_rfl) (tight_body (P := Try.prog) (fn := Try.f31)) (p_move rfl rfl) ?_
              clear hs a
              intro a hs
              refine d_pure hs #[true, true, false, false, false, false, false, false, false] (i := 1) rfl rfl rfl (by decide) (by kernel_rfl) (tight_body (P := Try.prog) (fn := Try.f31)) (p_nil rfl rfl) ?_
              clear hs a
              intro a hs
              refine d_pure hs #[true, true, true, false, false, false, false, false, false] (i := 2) rfl rfl rfl (by decide) (by kernel_rfl) (tight_body (P := Try.prog) (fn := Try.f31)) (p_fieldAddr rfl rfl ft_107_5) ?_
              clear hs a
              intro a hs
              refine d_pure hs #[true, true, true, false, true, false, false, false, false] (i := 4) rfl rfl rfl (by decide) (by kernel_rfl) (tight_body (P := Try.prog) (fn := Try.f31)) (p_move rfl rfl) ?_
              clear hs a
              intro a hs
              refine d_pure hs #[true, true, true, false, true, true, false, false, false] (i := 5) rfl rfl rfl (by decide) (by kernel_rfl) (tight_body (P := Try.prog) (fn := Try.f31)) (p_nil rfl rfl) ?_
              clear hs a
              intro a hs
              refine d_pure hs #[true, true, true, false, true, true, true, false, false] (i := 6) rfl rfl rfl (by decide) (by kernel_rfl) (tight_body (P := Try.prog) (fn := Try.f31)) (p_fieldAddr rfl rfl ft_107_3) ?_
              clear hs a
              intro a hs
              obtain ⟨t104, hv, h⟩ := h
              refine d_read hs #[true, true, true, true, true, true, true, false, false] (i := 3) rfl rfl rfl (by decide) (by kernel_rfl) (by kernel_rfl) (tight_body (P := Try.prog) (fn := Try.f31)) hS (fun w h' => by have h1 := h'.out; subst h1; exact e_load rfl rfl ct_105 hv) ?_
              clear hs a hv
              intro a hs
              obtain ⟨t108, hv, h⟩ := h
              refine d_read hs #[true, true, true, true, true, true, true, true, false] (i := 7) rfl rfl rfl (by decide) (by kernel_rfl) (by kernel_rfl) (tight_body (P := Try.prog) (fn := Try.f31)) hS (fun w h' => by have h1 := h'.out; subst h1; exact e_load rfl rfl ct_23 hv) ?_
              clear hs a hv
              intro a hs
              replace hs := hs.to (τ := [(0, (.pointer (some t29))), (4, (Sl.val came4_3)), (8, (Sl.val t92v)), (104, (.map t104)), (108, (.int .u64 t108))]) ⟨rfl, rfl, rfl, rfl, rfl, trivial⟩
              refine d_all [8] (by kernel_rfl) (by decide) ?_
              refine AllS.cons ?_ AllS.nil
              obtain ⟨u1, w1, hd, h⟩ := h
              refine d_eff_none hs #[true, true, true, true, true, true, true, true, true] (i := 8) rfl rfl rfl rfl (e_delete rfl rfl rfl rfl hd) (fun hn => (hn (by decide)).elim) ?_
              clear hs a hd
              intro a hs
              refine d_done (by kernel_rfl) ?_ _
              clear hS
              refine hK18 _ _ ?_
              refine wp_seq_k fun K19 hK19 => ?_
              refine wp_region_lit ?_
              refine t_pure hs rfl rfl (by decide) (p_move rfl rfl) ?_
              clear hs a
              intro a hs
              refine t_pure hs rfl rfl (by decide) (p_move rfl rfl) ?_
              clear hs a
              intro a hs
              obtain ⟨t111, w1, ha, hw, h⟩ := h
              refine t_eff hs rfl rfl (by decide) (e_buildSlice (z := #[(Sl.val ⟨none, 0, 0⟩)]) (cs := #[(Sl.val t92v)]) rfl sl_56 zt_22 (by decide) rfl rz_22_1 (by rfl) ha hw) ?_
              clear hs a ha hw
              intro a hs
              obtain ⟨t112, w1, hd, h⟩ := h
              refine t_eff hs rfl rfl (by decide) (e_append rfl rfl rfl rfl hd) ?_
              clear hs a hd
              intro a hs
              refine t_pure hs rfl rfl (by decide) (p_assign rfl rfl) ?_
              clear hs a
              intro a hs
              refine hK19 _ _ ?_
              refine wp_region_lit ?_
              refine t_pure hs rfl rfl (by decide) (p_move rfl rfl) ?_
              clear hs a
              intro a hs
              refine t_pure hs rfl rfl (by decide) (p_nil rfl rfl) ?_
              clear hs a
              intro a hs
              refine t_pure hs rfl rfl (by decide) (p_fieldAddr rfl rfl ft_107_3) ?_
              clear hs a
              intro a hs
              obtain ⟨t116, hv, h⟩ := h
              refine t_eff hs rfl rfl (by decide) (e_load rfl rfl ct_23 hv) ?_
              clear hs a hv
              intro a hs
              obtain ⟨t117, he, h⟩ := h
              refine t_pure hs rfl rfl (by decide) (Pure.int he (p_add rfl rfl rfl)) ?_
              clear hs a he
              intro a hs
              refine t_pure hs rfl rfl (by decide) (p_nil rfl rfl) ?_
              clear hs a
              intro a hs
              refine t_pure hs rfl rfl (by decide) (p_fieldAddr rfl rfl ft_107_3) ?_
              clear hs a
              intro a hs
              obtain ⟨w1, hw, hc, hf, hv, h⟩ := h
              refine t_skip hs rfl rfl (e_store rfl rfl rfl sz_23 hw hc hf hv) ?_
              clear hs a hw hc hf hv
              intro a hs
              rw [← hX3] at h
              exact ⟨t112, hs.to ⟨rfl, rfl, trivial⟩, h⟩
          clear hK13
          refine wp_seq_k fun K20 hK20 => ?_
          obtain ⟨w1, hw1, h⟩ := h
          refine s_start mixed (by kernel_rfl) hw1 ?_
          clear hw1
          refine s_pure hs rfl rfl (by decide) (p_move rfl rfl) ?_
          clear hs a
          intro a hs
          refine s_pure hs rfl rfl (by decide) (p_nil rfl rfl) ?_
          clear hs a
          intro a hs
          refine s_pure hs rfl rfl (by decide) (p_fieldAddr rfl rfl ft_107_5) ?_
          clear hs a
          intro a hs
          obtain ⟨t47, hv, h⟩ := h
          refine s_eff hs rfl rfl (by decide) (e_load rfl rfl ct_105 hv) ?_
          clear hs a hv
          intro a hs
          refine s_pure hs rfl rfl (by decide) (p_fieldAddr rfl rfl ft_36_2) ?_
          clear hs a
          intro a hs
          obtain ⟨t49, hv, h⟩ := h
          refine s_eff hs rfl rfl (by decide) (e_load rfl rfl ct_23 hv) ?_
          clear hs a hv
          intro a hs
          obtain ⟨t50v, t50ok, hd, h⟩ := h
          refine s_eff hs rfl rfl (by decide) (e_lookup rfl rfl rfl hd) ?_
          clear hs a hd
          intro a hs
          refine s_pure hs rfl rfl (by decide) (p_move rfl rfl) ?_
          clear hs a
          intro a hs
          replace hs := hs.to (τ := [(0, (.pointer (some t29))), (3, (.pointer (some p3))), (4, (Sl.val (Sl.mk none 0 0))), (43, (.tuple #[(Sl.val t50v), (.bool t50ok)]))]) ⟨rfl, rfl, rfl, rfl, trivial⟩
          refine s_pure hs rfl rfl (by decide) (p_extract rfl rfl rfl) ?_
          clear hs a
          intro a hs
          refine s_pure hs rfl rfl (by decide) (p_extract rfl rfl rfl) ?_
          clear hs a
          intro a hs
          refine s_pure hs rfl rfl (by decide) (p_assign rfl rfl) ?_
          clear hs a
          intro a hs
          refine s_pure hs rfl rfl (by decide) (p_assign rfl rfl) ?_
          clear hs a
          intro a hs
          refine hK20 _ _ ?_
          refine wp_seq_k fun K21 hK21 => ?_
          have J4 : ∀ (t73_4 : Bool) (a : Act) (w : World), Slots a 120 [(0, (.pointer (some t29))), (3, (.pointer (some p3))), (4, (Sl.val (Sl.mk none 0 0))), (73, (.bool t73_4))] → link_Link_Receive.s4 Q t29 p3 t73_4 w → K21 a w := by
            clear h hs
            intro t73_4 a w hs h
            refine hK21 _ _ ?_
            unfold link_Link_Receive.s4 at h
            refine c_cond hs rfl (fun hb => ?_) (fun hb => ?_)
            · replace h := h.1 hb
              clear hb
              obtain ⟨w1, hw1, h⟩ := h
              obtain ⟨S, hS, h⟩ := h
              subst hw1
              refine d_start (S := S) (ds := [9]) #[false, false, false, false, false, false, false, false, false, false] mixed rfl rfl ?_
              refine d_pure hs #[true, false, false, false, false, false, false, false, false, false] (i := 0) rfl rfl rfl (by decide) (by kernel_rfl) (tight_body (P := Try.prog) (fn := Try.f31)) (p_move rfl rfl) ?_
              clear hs a
              intro a hs
              refine d_pure hs #[true, true, false, false, false, false, false, false, false, false] (i := 1) rfl rfl rfl (by decide) (by kernel_rfl) (tight_body (P := Try.prog) (fn := Try.f31)) (p_nil rfl rfl) ?_
              clear hs a
              intro a hs
              refine d_pure hs #[true, true, true, false, false, false, false, false, false, false] (i := 2) rfl rfl rfl (by decide) (by kernel_rfl) (tight_body (P := Try.prog) (fn := Try.f31)) (p_fieldAddr rfl rfl ft_107_5) ?_
              clear hs a
              intro a hs
              refine d_pure hs #[true, true, true, false, true, false, false, false, false, false] (i := 4) rfl rfl rfl (by decide) (by kernel_rfl) (tight_body (P := Try.prog) (fn := Try.f31)) (p_fieldAddr rfl rfl ft_36_2) ?_
              clear hs a
              intro a hs
              refine d_pure hs #[true, true, true, false, true, false, true, false, false, false] (i := 6) rfl rfl rfl (by decide) (by kernel_rfl) (tight_body (P := Try.prog) (fn := Try.f31)) (p_fieldAddr rfl rfl ft_36_4) ?_
              clear hs a
              intro a hs
              obtain ⟨t77, hv, h⟩ := h
              refine d_read hs #[true, true, true, true, true, false, true, false, false, false] (i := 3) rfl rfl rfl (by decide) (by kernel_rfl) (by kernel_rfl) (tight_body (P := Try.prog) (fn := Try.f31)) hS (fun w h' => e_load rfl rfl ct_105 (hv w h')) ?_
              clear hs a hv
              intro a hs
              obtain ⟨t79, hv, h⟩ := h
              refine d_read hs #[true, true, true, true, true, true, true, false, false, false] (i := 5) rfl rfl rfl (by decide) (by kernel_rfl) (by kernel_rfl) (tight_body (P := Try.prog) (fn := Try.f31)) hS (fun w h' => e_load rfl rfl ct_23 (hv w h')) ?_
              clear hs a hv
              intro a hs
              obtain ⟨t81, hv, h⟩ := h
              refine d_read hs #[true, true, true, true, true, true, true, true, false, false] (i := 7) rfl rfl rfl (by decide) (by kernel_rfl) (by kernel_rfl) (tight_body (P := Try.prog) (fn := Try.f31)) hS (fun w h' => e_load rfl rfl ct_22 (hv w h')) ?_
              clear hs a hv
              intro a hs
              replace hs := hs.to (τ := [(0, (.pointer (some t29))), (4, (Sl.val (Sl.mk none 0 0))), (77, (.map t77)), (79, (.int .u64 t79)), (81, (Sl.val t81))]) ⟨rfl, rfl, rfl, rfl, rfl, trivial⟩
              refine d_all [8] (by kernel_rfl) (by decide) ?_
              refine AllS.cons ?_ AllS.nil
              refine d_call hs #[true, true, true, true, true, true, true, true, true, false] (i := 8) rfl rfl rfl (by decide) rfl (e_call rfl rfl rfl cb_53) h (fun v w'' hk => by obtain ⟨t82, _, hS, _⟩ := hk; exact fun _ _ => hS) ?_
              clear hs a h
              intro v a w hk hs
              obtain ⟨t82, rfl, h⟩ := hk
              obtain ⟨hS, h⟩ := h
              refine d_all [9] (by kernel_rfl) (by decide) ?_
              refine AllS.cons ?_ AllS.nil
              obtain ⟨u1, w1, hd, h⟩ := h
              refine d_skip hs #[true, true, true, true, true, true, true, true, true, true] (i := 9) rfl rfl rfl rfl (e_mapUpdate rfl rfl rfl rfl hd) (fun hn => (hn (by decide)).elim) ?_
              clear hs a hd
              intro a hs
              refine d_done (by kernel_rfl) ?_ _
              clear hS
              exact J2 _ _ (hs.to ⟨rfl, rfl, trivial⟩) h
            · replace h := h.2 hb
              clear hb
              refine wp_skip ?_
              exact J2 _ _ (hs.to ⟨rfl, rfl, trivial⟩) h
          clear hK21
          obtain ⟨w1, hw1, h⟩ := h
          refine s_start mixed (by kernel_rfl) hw1 ?_
          clear hw1
          refine s_pure hs rfl rfl (by decide) (p_move rfl rfl) ?_
          clear hs a
          intro a hs
          refine s_pure hs rfl rfl (by decide) (p_not rfl rfl) ?_
          clear hs a
          intro a hs
          refine s_pure hs rfl rfl (by decide) (p_move rfl rfl) ?_
          clear hs a
          intro a hs
          refine split_bool (!t50ok) (fun hb => ?_) (fun hb => ?_)
          · replace h := h.1 hb
            rw [hb] at hs
            clear hb
            refine s_yes hs rfl ?_
            refine s_pure hs rfl rfl (by decide) (p_fieldAddr rfl rfl ft_36_2) ?_
            clear hs a
            intro a hs
            refine s_yes hs rfl ?_
            obtain ⟨t57, hv, h⟩ := h
            refine s_eff hs rfl rfl (by decide) (e_load rfl rfl ct_23 hv) ?_
            clear hs a hv
            intro a hs
            refine s_yes hs rfl ?_
            refine s_pure hs rfl rfl (by decide) (p_move rfl rfl) ?_
            clear hs a
            intro a hs
            refine s_yes hs rfl ?_
            refine s_pure hs rfl rfl (by decide) (p_nil rfl rfl) ?_
            clear hs a
            intro a hs
            refine s_yes hs rfl ?_
            refine s_pure hs rfl rfl (by decide) (p_fieldAddr rfl rfl ft_107_3) ?_
            clear hs a
            intro a hs
            replace hs := hs.to (τ := [(0, (.pointer (some t29))), (3, (.pointer (some p3))), (4, (Sl.val (Sl.mk none 0 0))), (55, (.bool true)), (57, (.int .u64 t57)), (60, (.pointer (some (t29.add 3))))]) ⟨rfl, rfl, rfl, rfl, rfl, rfl, trivial⟩
            refine s_yes hs rfl ?_
            obtain ⟨t61, hv, h⟩ := h
            refine s_eff hs rfl rfl (by decide) (e_load rfl rfl ct_23 hv) ?_
            clear hs a hv
            intro a hs
            refine s_yes hs rfl ?_
            refine s_pure hs rfl rfl (by decide) (p_ge rfl rfl rfl) ?_
            clear hs a
            intro a hs
            refine s_pure hs rfl rfl (by decide) (p_pick_t rfl rfl rfl) ?_
            clear hs a
            intro a hs
            refine s_pure hs rfl rfl (by decide) (p_move rfl rfl) ?_
            clear hs a
            intro a hs
            refine split_bool (decide (t61 ≤ t57)) (fun hb => ?_) (fun hb => ?_)
            · replace h := h.1 hb
              rw [hb] at hs
              clear hb
              refine s_yes hs rfl ?_
              refine s_pure hs rfl rfl (by decide) (p_fieldAddr rfl rfl ft_36_2) ?_
              clear hs a
              intro a hs
              refine s_yes hs rfl ?_
              obtain ⟨t66, hv, h⟩ := h
              refine s_eff hs rfl rfl (by decide) (e_load rfl rfl ct_23 hv) ?_
              clear hs a hv
              intro a hs
              refine s_yes hs rfl ?_
              refine s_pure hs rfl rfl (by decide) (p_move rfl rfl) ?_
              clear hs a
              intro a hs
              refine s_yes hs rfl ?_
              refine s_pure hs rfl rfl (by decide) (p_nil rfl rfl) ?_
              clear hs a
              intro a hs
              replace hs := hs.to (τ := [(0, (.pointer (some t29))), (3, (.pointer (some p3))), (4, (Sl.val (Sl.mk none 0 0))), (64, (.bool true)), (66, (.int .u64 t66)), (68, (.pointer (some t29)))]) ⟨rfl, rfl, rfl, rfl, rfl, rfl, trivial⟩
              refine s_yes hs rfl ?_
              refine s_pure hs rfl rfl (by decide) (p_fieldAddr rfl rfl ft_107_3) ?_
              clear hs a
              intro a hs
              refine s_yes hs rfl ?_
              obtain ⟨t70, hv, h⟩ := h
              refine s_eff hs rfl rfl (by decide) (e_load rfl rfl ct_23 hv) ?_
              clear hs a hv
              intro a hs
              refine s_yes hs rfl ?_
              obtain ⟨t71, he, h⟩ := h
              refine s_pure hs rfl rfl (by decide) (Pure.int he (p_sub rfl rfl rfl)) ?_
              clear hs a he
              intro a hs
              refine s_yes hs rfl ?_
              refine s_pure hs rfl rfl (by decide) (p_lt rfl rfl rfl) ?_
              clear hs a
              intro a hs
              refine s_pure hs rfl rfl (by decide) (p_pick_t rfl rfl rfl) ?_
              clear hs a
              intro a hs
              exact J4 (decide (t71 < 16)) _ _ (hs.to ⟨rfl, rfl, rfl, rfl, trivial⟩) h
            · replace h := h.2 hb
              rw [hb] at hs
              clear hb
              refine s_no hs rfl rfl (by decide) ?_
              clear hs a
              intro a hs
              refine s_no hs rfl rfl (by decide) ?_
              clear hs a
              intro a hs
              refine s_no hs rfl rfl (by decide) ?_
              clear hs a
              intro a hs
              refine s_no hs rfl rfl (by decide) ?_
              clear hs a
              intro a hs
              replace hs := hs.to (τ := [(0, (.pointer (some t29))), (3, (.pointer (some p3))), (4, (Sl.val (Sl.mk none 0 0))), (64, (.bool false)), (66, undef), (68, undef)]) ⟨rfl, rfl, rfl, rfl, rfl, rfl, trivial⟩
              refine s_no hs rfl rfl (by decide) ?_
              clear hs a
              intro a hs
              refine s_no hs rfl rfl (by decide) ?_
              clear hs a
              intro a hs
              refine s_no hs rfl rfl (by decide) ?_
              clear hs a
              intro a hs
              refine s_no hs rfl rfl (by decide) ?_
              clear hs a
              intro a hs
              refine s_pure hs rfl rfl (by decide) (p_pick_f rfl rfl rfl) ?_
              clear hs a
              intro a hs
              exact J4 false _ _ (hs.to ⟨rfl, rfl, rfl, rfl, trivial⟩) h
          · replace h := h.2 hb
            rw [hb] at hs
            clear hb
            refine s_no hs rfl rfl (by decide) ?_
            clear hs a
            intro a hs
            refine s_no hs rfl rfl (by decide) ?_
            clear hs a
            intro a hs
            refine s_no hs rfl rfl (by decide) ?_
            clear hs a
            intro a hs
            refine s_no hs rfl rfl (by decide) ?_
            clear hs a
            intro a hs
            refine s_no hs rfl rfl (by decide) ?_
            clear hs a
            intro a hs
            replace hs := hs.to (τ := [(0, (.pointer (some t29))), (3, (.pointer (some p3))), (4, (Sl.val (Sl.mk none 0 0))), (55, (.bool false)), (57, undef), (60, undef)]) ⟨rfl, rfl, rfl, rfl, rfl, rfl, trivial⟩
            refine s_no hs rfl rfl (by decide) ?_
            clear hs a
            intro a hs
            refine s_no hs rfl rfl (by decide) ?_
            clear hs a
            intro a hs
            refine s_pure hs rfl rfl (by decide) (p_pick_f rfl rfl rfl) ?_
            clear hs a
            intro a hs
            refine s_pure hs rfl rfl (by decide) (p_move rfl rfl) ?_
            clear hs a
            intro a hs
            refine s_no hs rfl rfl (by decide) ?_
            clear hs a
            intro a hs
            refine s_no hs rfl rfl (by decide) ?_
            clear hs a
            intro a hs
            refine s_no hs rfl rfl (by decide) ?_
            clear hs a
            intro a hs
            refine s_no hs rfl rfl (by decide) ?_
            clear hs a
            intro a hs
            replace hs := hs.to (τ := [(0, (.pointer (some t29))), (3, (.pointer (some p3))), (4, (Sl.val (Sl.mk none 0 0))), (64, (.bool false)), (66, undef), (68, undef)]) ⟨rfl, rfl, rfl, rfl, rfl, rfl, trivial⟩
            refine s_no hs rfl rfl (by decide) ?_
            clear hs a
            intro a hs
            refine s_no hs rfl rfl (by decide) ?_
            clear hs a
            intro a hs
            refine s_no hs rfl rfl (by decide) ?_
            clear hs a
            intro a hs
            refine s_no hs rfl rfl (by decide) ?_
            clear hs a
            intro a hs
            refine s_pure hs rfl rfl (by decide) (p_pick_f rfl rfl rfl) ?_
            clear hs a
            intro a hs
            exact J4 false _ _ (hs.to ⟨rfl, rfl, rfl, rfl, trivial⟩) h
  clear hK3
  obtain ⟨w1, hw1, h⟩ := h
  refine s_start mixed (by kernel_rfl) hw1 ?_
  clear hw1
  refine s_pure hs rfl rfl (by decide) (p_fieldAddr0 rfl rfl ft_36_0) ?_
  clear hs a
  intro a hs
  obtain ⟨t11, hv, h⟩ := h
  refine s_eff hs rfl rfl (by decide) (e_load rfl rfl ct_23 hv) ?_
  clear hs a hv
  intro a hs
  refine s_pure hs rfl rfl (by decide) (p_eq rfl rfl rfl) ?_
  clear hs a
  intro a hs
  refine s_pure hs rfl rfl (by decide) (p_move rfl rfl) ?_
  clear hs a
  intro a hs
  refine split_bool (decide (t11 = 0)) (fun hb => ?_) (fun hb => ?_)
  · replace h := h.1 hb
    rw [hb] at hs
    clear hb
    refine s_no hs rfl rfl (by decide) ?_
    clear hs a
    intro a hs
    refine s_no hs rfl rfl (by decide) ?_
    clear hs a
    intro a hs
    refine s_no hs rfl rfl (by decide) ?_
    clear hs a
    intro a hs
    refine s_no hs rfl rfl (by decide) ?_
    clear hs a
    intro a hs
    replace hs := hs.to (τ := [(0, (.pointer l0)), (3, (.pointer (some p3))), (4, (Sl.val (Sl.mk none 0 0))), (13, (.bool true)), (15, undef), (17, undef)]) ⟨rfl, rfl, rfl, rfl, rfl, rfl, trivial⟩
    refine s_no hs rfl rfl (by decide) ?_
    clear hs a
    intro a hs
    refine s_no hs rfl rfl (by decide) ?_
    clear hs a
    intro a hs
    refine s_no hs rfl rfl (by decide) ?_
    clear hs a
    intro a hs
    refine s_pure hs rfl rfl (by decide) (p_pick_t rfl rfl rfl) ?_
    clear hs a
    intro a hs
    exact J1 true _ _ (hs.to ⟨rfl, rfl, rfl, rfl, trivial⟩) h
  · replace h := h.2 hb
    rw [hb] at hs
    clear hb
    refine s_yes hs rfl ?_
    refine s_pure hs rfl rfl (by decide) (p_fieldAddr0 rfl rfl ft_36_0) ?_
    clear hs a
    intro a hs
    refine s_yes hs rfl ?_
    obtain ⟨t15, hv, h⟩ := h
    refine s_eff hs rfl rfl (by decide) (e_load rfl rfl ct_23 hv) ?_
    clear hs a hv
    intro a hs
    refine s_yes hs rfl ?_
    refine s_pure hs rfl rfl (by decide) (p_move rfl rfl) ?_
    clear hs a
    intro a hs
    refine s_yes hs rfl ?_
    obtain ⟨t17, rfl, h⟩ := h
    refine s_pure hs rfl rfl (by decide) (p_nil rfl rfl) ?_
    clear hs a
    intro a hs
    replace hs := hs.to (τ := [(0, (.pointer (some t17))), (3, (.pointer (some p3))), (4, (Sl.val (Sl.mk none 0 0))), (13, (.bool false)), (15, (.int .u64 t15)), (17, (.pointer (some t17)))]) ⟨rfl, rfl, rfl, rfl, rfl, rfl, trivial⟩
    refine s_yes hs rfl ?_
    refine s_pure hs rfl rfl (by decide) (p_fieldAddr rfl rfl ft_107_1) ?_
    clear hs a
    intro a hs
    refine s_yes hs rfl ?_
    obtain ⟨t19, hv, h⟩ := h
    refine s_eff hs rfl rfl (by decide) (e_load rfl rfl ct_23 hv) ?_
    clear hs a hv
    intro a hs
    refine s_yes hs rfl ?_
    refine s_pure hs rfl rfl (by decide) (p_lt rfl rfl rfl) ?_
    clear hs a
    intro a hs
    refine s_pure hs rfl rfl (by decide) (p_pick_f rfl rfl rfl) ?_
    clear hs a
    intro a hs
    exact J1 (decide (t15 < t19)) _ _ (hs.to ⟨rfl, rfl, rfl, rfl, trivial⟩) h
def link_Link_Packets.b2 (Q : Sl → K)  (X2 : Sl → Int → K) (l0_2 : Addr) (t28_2 : Sl) (t29_2 : Int) (out2_2 : Sl) (t30_2 : Int) : K :=
  Ite (decide (t30_2 < t29_2))
    (Idx t28_2 t30_2 1 fun t33 =>
    Ld t33 Sl.val fun t34 =>
    link_Link_packet.call (some l0_2) fun t36 =>
    New 36 #[(.int .u64 0), (.int .u64 0), (.int .u64 0), (.int .u64 0), (Sl.val ⟨none, 0, 0⟩)] fun p5 =>
    StN p5 5 t36 <|
    Dr <| WithS fun S =>
    Ar (IntKind.wrap .u64 t30_2) fun t42 =>
    LdS S (l0_2.add 2) (Value.int .u64) fun t40 =>
    Ar (IntKind.wrap .u64 (t40 + t42)) fun t43 =>
    bytes_Clone.call t34 fun t45 =>
    Sv S <|
    St (p5.add 2) (.int .u64 t43) <|
    St (p5.add 4) (Sl.val t45) <|
    LdN p5 5 fun t49 =>
    Bld #[(.int .u64 0), (.int .u64 0), (.int .u64 0), (.int .u64 0), (Sl.val ⟨none, 0, 0⟩)] (fun i => some (i * 5, 5)) [(0, (.agg t49))] fun ct50 =>
    New 36 ct50 fun t50 =>
    Do Try.prog (Builtin.append_ #[60, 60] 60 #[(Sl.val out2_2), (Sl.val (Sl.mk (some t50) 1 1))]) Sl.val fun t51 =>
    Ar (IntKind.wrap .i64 (t30_2 + 1)) fun t52 =>
    X2 t51 t52)
    (Q out2_2)
def link_Link_Packets.s1 (Q : Sl → K)  (l0_1 : (Option Addr)) (t18_1 : Bool) : K :=
  Ite t18_1
    (Nn l0_1 fun t20 =>
    Ld t20 (Value.int .u64) fun t22 =>
    Bld #[(.int .u64 0), (.int .u64 0), (.int .u64 0), (.int .u64 0), (Sl.val ⟨none, 0, 0⟩)] (fun i => some (i * 5, 5)) [(0, (.agg #[(.int .u64 t22), (.int .u64 0), (.int .u64 0), (.int .u64 0), (Sl.val ⟨none, 0, 0⟩)]))] fun ct24 =>
    New 36 ct24 fun t24 =>
    Q (Sl.mk (some t24) 1 1))
    (Nn l0_1 fun t26 =>
    Ld (t26.add 4) Sl.val fun t28 =>
    LoopK (α := Sl × Int) (fun X x => link_Link_Packets.b2 Q (fun out2_2 t30_2 => X (out2_2, t30_2)) t26 t28 (t28.n : Int) x.1 x.2) ((Sl.mk none 0 0), 0))
def link_Link_Packets (l0 : (Option Addr)) (Q : Sl → K) : K :=
  Nn l0 fun t7 =>
  Ld (t7.add 4) Sl.val fun t9 =>
  Ite (decide ((0 : Int) < (t9.n : Int)))
    (Ld (t7.add 1) (Value.int .u64) fun t16 =>
    link_Link_Packets.s1 Q (some t7) (decide (t16 = 0)))
    (link_Link_Packets.s1 Q (some t7) false)
theorem link_Link_Packets_ok (l0 : (Option Addr)) (Q : Sl → K) (w : World) (h : link_Link_Packets l0 Q w) : link_Link_Packets.call l0 Q w := by
  unfold link_Link_Packets.call CallF
  refine f_start (args := [(.pointer l0)]) Try.func32 rfl (Nat.le_of_ble_eq_true rfl) ?_
  intro a hs
  unfold link_Link_Packets at h
  refine wp_seq_k fun K1 hK1 => ?_
  refine wp_region_lit ?_
  refine t_pure hs rfl rfl (by decide) (p_assign rfl rfl) ?_
  clear hs a
  intro a hs
  refine hK1 _ _ ?_
  refine wp_seq_k fun K2 hK2 => ?_
  refine wp_seq_k fun K3 hK3 => ?_
  have J1 : ∀ (t18_1 : Bool) (a : Act) (w : World), Slots a 54 [(0, (.pointer l0)), (2, (Sl.val (Sl.mk none 0 0))), (18, (.bool t18_1))] → link_Link_Packets.s1 Q l0 t18_1 w → K3 a w := by
    clear h hs
    intro t18_1 a w hs h
    refine hK3 _ _ ?_
    unfold link_Link_Packets.s1 at h
    refine c_cond hs rfl (fun hb => ?_) (fun hb => ?_)
    · replace h := h.1 hb
      clear hb
      refine wp_seq_k fun K4 hK4 => ?_
      refine wp_region_lit ?_
      refine t_pure hs rfl rfl (by decide) (p_move rfl rfl) ?_
      clear hs a
      intro a hs
      obtain ⟨t20, rfl, h⟩ := h
      refine t_pure hs rfl rfl (by decide) (p_nil rfl rfl) ?_
      clear hs a
      intro a hs
      refine t_pure hs rfl rfl (by decide) (p_fieldAddr0 rfl rfl ft_107_0) ?_
      clear hs a
      intro a hs
      obtain ⟨t22, hv, h⟩ := h
      refine t_eff hs rfl rfl (by decide) (e_load rfl rfl ct_23 hv) ?_
      clear hs a hv
      intro a hs
      refine t_pure hs rfl rfl (by decide) (e_build (cs := #[(.int .u64 t22), (.int .u64 0), (.int .u64 0), (.int .u64 0), (Sl.val ⟨none, 0, 0⟩)]) rfl zt_36 pl_36 rfl rfl) ?_
      clear hs a
      intro a hs
      obtain ⟨ct24, hb, t24, w1, ha, hw, h⟩ := h
      refine t_eff hs rfl rfl (by decide) (e_buildSlice (z := #[(.int .u64 0), (.int .u64 0), (.int .u64 0), (.int .u64 0), (Sl.val ⟨none, 0, 0⟩)]) rfl sl_60 zt_36 (by decide) rfl rz_36_1 hb ha hw) ?_
      clear hs a hb ha hw
      intro a hs
      refine t_pure hs rfl rfl (by decide) (p_assign rfl rfl) ?_
      clear hs a
      intro a hs
      refine hK4 _ _ ?_
      refine wp_ret ?_
      refine f_ret (fn := Try.f32) hs (fun a hs => r_one hs rfl (rfl)) ⟨(Sl.mk (some t24) 1 1), rfl, h⟩
    · replace h := h.2 hb
      clear hb
      refine wp_skip ?_
      refine hK2 _ _ ?_
      refine wp_seq_k fun K5 hK5 => ?_
      refine wp_seq_k fun K6 hK6 => ?_
      refine wp_region_lit ?_
      refine t_pure hs rfl rfl (by decide) (p_move rfl rfl) ?_
      clear hs a
      intro a hs
      obtain ⟨t26, rfl, h⟩ := h
      refine t_pure hs rfl rfl (by decide) (p_nil rfl rfl) ?_
      clear hs a
      intro a hs
      refine t_pure hs rfl rfl (by decide) (p_fieldAddr rfl rfl ft_107_4) ?_
      clear hs a
      intro a hs
      obtain ⟨t28, hv, h⟩ := h
      refine t_eff hs rfl rfl (by decide) (e_load rfl rfl ct_56 hv) ?_
      clear hs a hv
      intro a hs
      refine t_pure hs rfl rfl (by decide) (p_len rfl rfl sl_56) ?_
      clear hs a
      intro a hs
      refine t_pure hs rfl rfl (by decide) (p_move rfl rfl) ?_
      clear hs a
      intro a hs
      refine hK6 _ _ ?_
      refine wp_block ?_
      obtain ⟨I2, μ2, h0, hr⟩ := h
      refine c_loop (α := Sl × Int) I2 μ2 (fun x a => Slots a 54 [(0, (.pointer (some t26))), (2, (Sl.val x.1)), (28, (Sl.val t28)), (29, (.int .i64 (t28.n : Int))), (30, (.int .i64 x.2))]) ((Sl.mk none 0 0), 0) h0 (hs.to ⟨rfl, rfl, rfl, rfl, rfl, trivial⟩) ?_
      clear h0 hs a
      rintro ⟨out2_2, t30_2⟩ a w hI hs
      have h : link_Link_Packets.b2 Q (fun out2_2n t30_2n w' => I2 (out2_2n, t30_2n) w' ∧ μ2 (out2_2n, t30_2n) w' < μ2 (out2_2, t30_2) w) t26 t28 (t28.n : Int) out2_2 t30_2 w := hr (out2_2, t30_2) w hI
      clear hr hI
      generalize hX2 : (fun out2_2n t30_2n w' => I2 (out2_2n, t30_2n) w' ∧ μ2 (out2_2n, t30_2n) w' < μ2 (out2_2, t30_2) w) = X2 at h
      unfold link_Link_Packets.b2 at h
      replace hs : Slots a 54 [(0, (.pointer (some t26))), (2, (Sl.val out2_2)), (28, (Sl.val t28)), (29, (.int .i64 (t28.n : Int))), (30, (.int .i64 t30_2))] := hs
      refine wp_seq_k fun K7 hK7 => ?_
      refine wp_region_lit ?_
      refine t_pure hs rfl rfl (by decide) (p_lt rfl rfl rfl) ?_
      clear hs a
      intro a hs
      refine hK7 _ _ ?_
      refine wp_seq_k fun K8 hK8 => ?_
      refine c_cond hs rfl (fun hb => ?_) (fun hb => ?_)
      · replace h := h.1 hb
        clear hb
        refine wp_skip ?_
        refine hK8 _ _ ?_
        refine wp_seq_k fun K9 hK9 => ?_
        refine wp_block ?_
        refine wp_seq_k fun K10 hK10 => ?_
        refine wp_region_lit ?_
        refine t_pure hs rfl rfl (by decide) (p_move rfl rfl) ?_
        clear hs a
        intro a hs
        obtain ⟨qt33, t33, ha, h0, h1, he, h⟩ := h
        refine t_pure hs rfl rfl (by decide) (Pure.adr he (p_idx rfl rfl rfl sl_56 ha h0 h1)) ?_
        clear hs a ha h0 h1 he
        intro a hs
        obtain ⟨t34, hv, h⟩ := h
        refine t_eff hs rfl rfl (by decide) (e_load rfl rfl ct_22 hv) ?_
        clear hs a hv
        intro a hs
        refine t_pure hs rfl rfl (by decide) (p_assign rfl rfl) ?_
        clear hs a
        intro a hs
        refine t_pure hs rfl rfl (by decide) (p_assign rfl rfl) ?_
        clear hs a
        intro a hs
        refine hK10 _ _ ?_
        refine wp_seq_k fun K11 hK11 => ?_
        refine wp_region_lit ?_
        refine t_pure hs rfl rfl (by decide) (p_move rfl rfl) ?_
        clear hs a
        intro a hs
        refine t_call hs rfl rfl (by decide) (e_call rfl rfl rfl cb_55) h ?_
        clear hs a h
        intro v a w hk hs
        obtain ⟨t36, rfl, h⟩ := hk
        obtain ⟨p5, w1, ha, hw, h⟩ := h
        refine t_eff hs rfl rfl (by decide) (e_alloc rfl zt_36 rfl ha hw) ?_
        clear hs a ha hw
        intro a hs
        obtain ⟨w1, hw, hn, hc, hv, h⟩ := h
        refine t_skip hs rfl rfl (e_storeN rfl rfl rfl sz_36 hw hn hc hv) ?_
        clear hs a hw hn hc hv
        intro a hs
        refine hK11 _ _ ?_
        refine wp_seq_k fun K12 hK12 => ?_
        obtain ⟨w1, hw1, h⟩ := h
        obtain ⟨S, hS, h⟩ := h
        subst hw1
        refine d_start (S := S) (ds := [10, 12]) #[false, false, false, false, false, false, false, false, false, false, false, false, false] mixed rfl rfl ?_
        refine d_pure hs #[true, false, false, false, false, false, false, false, false, false, false, false, false] (i := 0) rfl rfl rfl (by decide) (by kernel_rfl) (tight_body (P := Try.prog) (fn := Try.f32)) (p_move rfl rfl) ?_
        clear hs a
        intro a hs
        refine d_pure hs #[true, true, false, false, false, false, false, false, false, false, false, false, false] (i := 1) rfl rfl rfl (by decide) (by kernel_rfl) (tight_body (P := Try.prog) (fn := Try.f32)) (p_nil rfl rfl) ?_
        clear hs a
        intro a hs
        refine d_pure hs #[true, true, true, false, false, false, false, false, false, false, false, false, false] (i := 2) rfl rfl rfl (by decide) (by kernel_rfl) (tight_body (P := Try.prog) (fn := Try.f32)) (p_fieldAddr rfl rfl ft_107_2) ?_
        clear hs a
        intro a hs
        refine d_pure hs #[true, true, true, false, true, false, false, false, false, false, false, false, false] (i := 4) rfl rfl rfl (by decide) (by kernel_rfl) (tight_body (P := Try.prog) (fn := Try.f32)) (p_move rfl rfl) ?_
        clear hs a
        intro a hs
        obtain ⟨t42, he, h⟩ := h
        refine d_pure hs #[true, true, true, false, true, true, false, false, false, false, false, false, false] (i := 5) rfl rfl rfl (by decide) (by kernel_rfl) (tight_body (P := Try.prog) (fn := Try.f32)) (Pure.int he (p_conv_int rfl rfl in_3 in_23)) ?_
        clear hs a he
        intro a hs
        refine d_pure hs #[true, true, true, false, true, true, false, true, false, false, false, false, false] (i := 7) rfl rfl rfl (by decide) (by kernel_rfl) (tight_body (P := Try.prog) (fn := Try.f32)) (p_move rfl rfl) ?_
        clear hs a
        intro a hs
        obtain ⟨t40, hv, h⟩ := h
        refine d_read hs #[true, true, true, true, true, true, false, true, false, false, false, false, false] (i := 3) rfl rfl rfl (by decide) (by kernel_rfl) (by kernel_rfl) (tight_body (P := Try.prog) (fn := Try.f32)) hS (fun w h' => e_load rfl rfl ct_23 (hv w h')) ?_
        clear hs a hv
        intro a hs
        obtain ⟨t43, he, h⟩ := h
        refine d_pure hs #[true, true, true, true, true, true, true, true, false, false, false, false, false] (i := 6) rfl rfl rfl (by decide) (by kernel_rfl) (tight_body (P := Try.prog) (fn := Try.f32)) (Pure.int he (p_add rfl rfl rfl)) ?_
        clear hs a he
        intro a hs
        replace hs := hs.to (τ := [(0, (.pointer (some t26))), (2, (Sl.val out2_2)), (5, (.pointer (some p5))), (28, (Sl.val t28)), (29, (.int .i64 (t28.n : Int))), (30, (.int .i64 t30_2)), (43, (.int .u64 t43)), (44, (Sl.val t34))]) ⟨rfl, rfl, rfl, rfl, rfl, rfl, rfl, rfl, trivial⟩
        refine d_pure hs #[true, true, true, true, true, true, true, true, false, true, false, false, false] (i := 9) rfl rfl rfl (by decide) (by kernel_rfl) (tight_body (P := Try.prog) (fn := Try.f32)) (p_fieldAddr rfl rfl ft_36_2) ?_
        clear hs a
        intro a hs
        refine d_all [8] (by kernel_rfl) (by decide) ?_
        refine AllS.cons ?_ AllS.nil
        refine d_call hs #[true, true, true, true, true, true, true, true, true, true, false, false, false] (i := 8) rfl rfl rfl (by decide) rfl (e_call rfl rfl rfl cb_53) h (fun v w'' hk => by obtain ⟨t45, _, hS, _⟩ := hk; exact fun _ _ => hS) ?_
        clear hs a h
        intro v a w hk hs
        obtain ⟨t45, rfl, h⟩ := hk
        obtain ⟨hS, h⟩ := h
        refine d_all [10] (by kernel_rfl) (by decide) ?_
        refine AllS.cons ?_ AllS.nil
        obtain ⟨w1, hw, hc, hf, hv, h⟩ := h
        refine d_skip hs #[true, true, true, true, true, true, true, true, true, true, true, false, false] (i := 10) rfl rfl rfl rfl (e_store rfl rfl rfl sz_23 hw hc hf hv) (fun hn => (hn (by decide)).elim) ?_
        clear hs a hw hc hf hv
        intro a hs
        refine d_pure hs #[true, true, true, true, true, true, true, true, true, true, true, true, false] (i := 11) rfl rfl rfl (by decide) (by kernel_rfl) (tight_body (P := Try.prog) (fn := Try.f32)) (p_fieldAddr rfl rfl ft_36_4) ?_
        clear hs a
        intro a hs
        refine d_all [12] (by kernel_rfl) (by decide) ?_
        refine AllS.cons ?_ AllS.nil
        obtain ⟨w1, hw, hc, hf, hv, h⟩ := h
        refine d_skip hs #[true, true, true, true, true, true, true, true, true, true, true, true, true] (i := 12) rfl rfl rfl rfl (e_store rfl rfl rfl sz_22 hw hc hf hv) (fun hn => (hn (by decide)).elim) ?_
        clear hs a hw hc hf hv
        intro a hs
        refine d_done (by kernel_rfl) ?_ _
        clear hS
        refine hK12 _ _ ?_
        refine wp_region_lit ?_
        refine t_pure hs rfl rfl (by decide) (p_move rfl rfl) ?_
        clear hs a
        intro a hs
        obtain ⟨t49, hn, hv, h⟩ := h
        refine t_eff hs rfl rfl (by decide) (e_loadN rfl rfl at_36 hn hv) ?_
        clear hs a hn hv
        intro a hs
        obtain ⟨ct50, hb, t50, w1, ha, hw, h⟩ := h
        refine t_eff hs rfl rfl (by decide) (e_buildSlice (z := #[(.int .u64 0), (.int .u64 0), (.int .u64 0), (.int .u64 0), (Sl.val ⟨none, 0, 0⟩)]) rfl sl_60 zt_36 (by decide) rfl rz_36_1 hb ha hw) ?_
        clear hs a hb ha hw
        intro a hs
        obtain ⟨t51, w1, hd, h⟩ := h
        refine t_eff hs rfl rfl (by decide) (e_append rfl rfl rfl rfl hd) ?_
        clear hs a hd
        intro a hs
        refine t_pure hs rfl rfl (by decide) (p_assign rfl rfl) ?_
        clear hs a
        intro a hs
        refine hK9 _ _ ?_
        refine wp_region_lit ?_
        obtain ⟨t52, he, h⟩ := h
        refine t_pure hs rfl rfl (by decide) (Pure.int he (p_add rfl rfl rfl)) ?_
        clear hs a he
        intro a hs
        refine t_pure hs rfl rfl (by decide) (p_move rfl rfl) ?_
        clear hs a
        intro a hs
        rw [← hX2] at h
        exact ⟨(t51, t52), hs.to ⟨rfl, rfl, rfl, rfl, rfl, trivial⟩, h⟩
      · replace h := h.2 hb
        clear hb
        refine wp_exit ?_
        refine hK5 _ _ ?_
        refine wp_seq_k fun K13 hK13 => ?_
        refine wp_region_lit ?_
        refine t_pure hs rfl rfl (by decide) (p_move rfl rfl) ?_
        clear hs a
        intro a hs
        refine t_pure hs rfl rfl (by decide) (p_assign rfl rfl) ?_
        clear hs a
        intro a hs
        refine hK13 _ _ ?_
        refine wp_ret ?_
        refine f_ret (fn := Try.f32) hs (fun a hs => r_one hs rfl (rfl)) ⟨out2_2, rfl, h⟩
  clear hK3
  refine wp_region_lit ?_
  refine t_pure hs rfl rfl (by decide) (p_move rfl rfl) ?_
  clear hs a
  intro a hs
  obtain ⟨t7, rfl, h⟩ := h
  refine t_pure hs rfl rfl (by decide) (p_nil rfl rfl) ?_
  clear hs a
  intro a hs
  refine t_pure hs rfl rfl (by decide) (p_fieldAddr rfl rfl ft_107_4) ?_
  clear hs a
  intro a hs
  obtain ⟨t9, hv, h⟩ := h
  refine t_eff hs rfl rfl (by decide) (e_load rfl rfl ct_56 hv) ?_
  clear hs a hv
  intro a hs
  refine t_pure hs rfl rfl (by decide) (p_len rfl rfl sl_56) ?_
  clear hs a
  intro a hs
  refine t_pure hs rfl rfl (by decide) (p_gt rfl rfl rfl) ?_
  clear hs a
  intro a hs
  refine t_pure hs rfl rfl (by decide) (p_move rfl rfl) ?_
  clear hs a
  intro a hs
  refine split_bool (decide ((0 : Int) < (t9.n : Int))) (fun hb => ?_) (fun hb => ?_)
  · replace h := h.1 hb
    rw [hb] at hs
    clear hb
    refine t_yes hs rfl ?_
    refine t_pure hs rfl rfl (by decide) (p_move rfl rfl) ?_
    clear hs a
    intro a hs
    replace hs := hs.to (τ := [(0, (.pointer (some t7))), (2, (Sl.val (Sl.mk none 0 0))), (12, (.bool true)), (13, (.pointer (some t7)))]) ⟨rfl, rfl, rfl, rfl, trivial⟩
    refine t_yes hs rfl ?_
    refine t_pure hs rfl rfl (by decide) (p_nil rfl rfl) ?_
    clear hs a
    intro a hs
    refine t_yes hs rfl ?_
    refine t_pure hs rfl rfl (by decide) (p_fieldAddr rfl rfl ft_107_1) ?_
    clear hs a
    intro a hs
    refine t_yes hs rfl ?_
    obtain ⟨t16, hv, h⟩ := h
    refine t_eff hs rfl rfl (by decide) (e_load rfl rfl ct_23 hv) ?_
    clear hs a hv
    intro a hs
    refine t_yes hs rfl ?_
    refine t_pure hs rfl rfl (by decide) (p_eq rfl rfl rfl) ?_
    clear hs a
    intro a hs
    refine t_pure hs rfl rfl (by decide) (p_pick_t rfl rfl rfl) ?_
    clear hs a
    intro a hs
    exact J1 (decide (t16 = 0)) _ _ (hs.to ⟨rfl, rfl, rfl, trivial⟩) h
  · replace h := h.2 hb
    rw [hb] at hs
    clear hb
    refine t_no hs rfl rfl (by decide) ?_
    clear hs a
    intro a hs
    replace hs := hs.to (τ := [(0, (.pointer (some t7))), (2, (Sl.val (Sl.mk none 0 0))), (12, (.bool false)), (13, undef)]) ⟨rfl, rfl, rfl, rfl, trivial⟩
    refine t_no hs rfl rfl (by decide) ?_
    clear hs a
    intro a hs
    refine t_no hs rfl rfl (by decide) ?_
    clear hs a
    intro a hs
    refine t_no hs rfl rfl (by decide) ?_
    clear hs a
    intro a hs
    refine t_no hs rfl rfl (by decide) ?_
    clear hs a
    intro a hs
    refine t_pure hs rfl rfl (by decide) (p_pick_f rfl rfl rfl) ?_
    clear hs a
    intro a hs
    exact J1 false _ _ (hs.to ⟨rfl, rfl, rfl, trivial⟩) h
def link_Link_Open (l0 : (Option Addr)) (Q : Int → K) : K :=
  Nn l0 fun t4 =>
  Ld (t4.add 4) Sl.val fun t6 =>
  Q (t6.n : Int)
theorem link_Link_Open_ok (l0 : (Option Addr)) (Q : Int → K) (w : World) (h : link_Link_Open l0 Q w) : link_Link_Open.call l0 Q w := by
  unfold link_Link_Open.call CallF
  refine f_start (args := [(.pointer l0)]) Try.func37 rfl (Nat.le_of_ble_eq_true rfl) ?_
  intro a hs
  unfold link_Link_Open at h
  refine wp_seq_k fun K1 hK1 => ?_
  refine wp_region_lit ?_
  refine t_pure hs rfl rfl (by decide) (p_assign rfl rfl) ?_
  clear hs a
  intro a hs
  refine hK1 _ _ ?_
  refine wp_seq_k fun K2 hK2 => ?_
  refine wp_region_lit ?_
  refine t_pure hs rfl rfl (by decide) (p_move rfl rfl) ?_
  clear hs a
  intro a hs
  obtain ⟨t4, rfl, h⟩ := h
  refine t_pure hs rfl rfl (by decide) (p_nil rfl rfl) ?_
  clear hs a
  intro a hs
  refine t_pure hs rfl rfl (by decide) (p_fieldAddr rfl rfl ft_107_4) ?_
  clear hs a
  intro a hs
  obtain ⟨t6, hv, h⟩ := h
  refine t_eff hs rfl rfl (by decide) (e_load rfl rfl ct_56 hv) ?_
  clear hs a hv
  intro a hs
  refine t_pure hs rfl rfl (by decide) (p_len rfl rfl sl_56) ?_
  clear hs a
  intro a hs
  refine t_pure hs rfl rfl (by decide) (p_assign rfl rfl) ?_
  clear hs a
  intro a hs
  refine hK2 _ _ ?_
  refine wp_ret ?_
  refine f_ret (fn := Try.f37) hs (fun a hs => r_one hs rfl (rfl)) ⟨(t6.n : Int), rfl, h⟩
def link_Link_Peer (l0 : (Option Addr)) (Q : Int → K) : K :=
  Nn l0 fun t4 =>
  Ld (t4.add 1) (Value.int .u64) fun t6 =>
  Q t6
theorem link_Link_Peer_ok (l0 : (Option Addr)) (Q : Int → K) (w : World) (h : link_Link_Peer l0 Q w) : link_Link_Peer.call l0 Q w := by
  unfold link_Link_Peer.call CallF
  refine f_start (args := [(.pointer l0)]) Try.func38 rfl (Nat.le_of_ble_eq_true rfl) ?_
  intro a hs
  unfold link_Link_Peer at h
  refine wp_seq_k fun K1 hK1 => ?_
  refine wp_region_lit ?_
  refine t_pure hs rfl rfl (by decide) (p_assign rfl rfl) ?_
  clear hs a
  intro a hs
  refine hK1 _ _ ?_
  refine wp_seq_k fun K2 hK2 => ?_
  refine wp_region_lit ?_
  refine t_pure hs rfl rfl (by decide) (p_move rfl rfl) ?_
  clear hs a
  intro a hs
  obtain ⟨t4, rfl, h⟩ := h
  refine t_pure hs rfl rfl (by decide) (p_nil rfl rfl) ?_
  clear hs a
  intro a hs
  refine t_pure hs rfl rfl (by decide) (p_fieldAddr rfl rfl ft_107_1) ?_
  clear hs a
  intro a hs
  obtain ⟨t6, hv, h⟩ := h
  refine t_eff hs rfl rfl (by decide) (e_load rfl rfl ct_23 hv) ?_
  clear hs a hv
  intro a hs
  refine t_pure hs rfl rfl (by decide) (p_assign rfl rfl) ?_
  clear hs a
  intro a hs
  refine hK2 _ _ ?_
  refine wp_ret ?_
  refine f_ret (fn := Try.f38) hs (fun a hs => r_one hs rfl (rfl)) ⟨t6, rfl, h⟩
def link_Link_meet (l0 : (Option Addr)) (epoch1 : Int) (Q : K) : K :=
  Nn l0 fun t6 =>
  Ld (t6.add 1) (Value.int .u64) fun t8 =>
  Ite (decide (t8 < epoch1))
    (St (t6.add 1) (.int .u64 epoch1) <|
    St (t6.add 3) (.int .u64 1) <|
    St (t6.add 2) (.int .u64 1) <|
    Ld (t6.add 5) Value.map fun t23 =>
    Do Try.prog (Builtin.clear_ #[105] 0 #[(.map t23)]) id fun _ =>
    Q)
    (Q)
theorem link_Link_meet_ok (l0 : (Option Addr)) (epoch1 : Int) (Q : K) (w : World) (h : link_Link_meet l0 epoch1 Q w) : link_Link_meet.call l0 epoch1 Q w := by
  unfold link_Link_meet.call CallF
  refine f_start (args := [(.pointer l0), (.int .u64 epoch1)]) Try.func54 rfl (Nat.le_of_ble_eq_true rfl) ?_
  intro a hs
  unfold link_Link_meet at h
  refine wp_seq_k fun K1 hK1 => ?_
  refine wp_region_lit ?_
  refine t_pure hs rfl rfl (by decide) (p_move rfl rfl) ?_
  clear hs a
  intro a hs
  refine t_pure hs rfl rfl (by decide) (p_move rfl rfl) ?_
  clear hs a
  intro a hs
  obtain ⟨t6, rfl, h⟩ := h
  refine t_pure hs rfl rfl (by decide) (p_nil rfl rfl) ?_
  clear hs a
  intro a hs
  refine t_pure hs rfl rfl (by decide) (p_fieldAddr rfl rfl ft_107_1) ?_
  clear hs a
  intro a hs
  obtain ⟨t8, hv, h⟩ := h
  refine t_eff hs rfl rfl (by decide) (e_load rfl rfl ct_23 hv) ?_
  clear hs a hv
  intro a hs
  refine t_pure hs rfl rfl (by decide) (p_gt rfl rfl rfl) ?_
  clear hs a
  intro a hs
  refine hK1 _ _ ?_
  refine c_cond hs rfl (fun hb => ?_) (fun hb => ?_)
  · replace h := h.1 hb
    clear hb
    refine wp_seq_k fun K2 hK2 => ?_
    refine wp_region_lit ?_
    refine t_pure hs rfl rfl (by decide) (p_move rfl rfl) ?_
    clear hs a
    intro a hs
    refine t_pure hs rfl rfl (by decide) (p_move rfl rfl) ?_
    clear hs a
    intro a hs
    refine t_pure hs rfl rfl (by decide) (p_move rfl rfl) ?_
    clear hs a
    intro a hs
    refine t_pure hs rfl rfl (by decide) (p_move rfl rfl) ?_
    clear hs a
    intro a hs
    refine t_pure hs rfl rfl (by decide) (p_nil rfl rfl) ?_
    clear hs a
    intro a hs
    refine t_pure hs rfl rfl (by decide) (p_fieldAddr rfl rfl ft_107_1) ?_
    clear hs a
    intro a hs
    obtain ⟨w1, hw, hc, hf, hv, h⟩ := h
    refine t_skip hs rfl rfl (e_store rfl rfl rfl sz_23 hw hc hf hv) ?_
    clear hs a hw hc hf hv
    intro a hs
    refine t_pure hs rfl rfl (by decide) (p_nil rfl rfl) ?_
    clear hs a
    intro a hs
    replace hs := hs.to (τ := [(0, (.pointer (some t6))), (12, (.pointer (some t6))), (16, (.pointer (some t6)))]) ⟨rfl, rfl, rfl, trivial⟩
    refine t_pure hs rfl rfl (by decide) (p_fieldAddr rfl rfl ft_107_3) ?_
    clear hs a
    intro a hs
    obtain ⟨w1, hw, hc, hf, hv, h⟩ := h
    refine t_skip hs rfl rfl (e_store rfl rfl rfl sz_23 hw hc hf hv) ?_
    clear hs a hw hc hf hv
    intro a hs
    refine t_pure hs rfl rfl (by decide) (p_nil rfl rfl) ?_
    clear hs a
    intro a hs
    refine t_pure hs rfl rfl (by decide) (p_fieldAddr rfl rfl ft_107_2) ?_
    clear hs a
    intro a hs
    obtain ⟨w1, hw, hc, hf, hv, h⟩ := h
    refine t_skip hs rfl rfl (e_store rfl rfl rfl sz_23 hw hc hf hv) ?_
    clear hs a hw hc hf hv
    intro a hs
    refine hK2 _ _ ?_
    refine wp_region_lit ?_
    refine t_pure hs rfl rfl (by decide) (p_move rfl rfl) ?_
    clear hs a
    intro a hs
    refine t_pure hs rfl rfl (by decide) (p_nil rfl rfl) ?_
    clear hs a
    intro a hs
    refine t_pure hs rfl rfl (by decide) (p_fieldAddr rfl rfl ft_107_5) ?_
    clear hs a
    intro a hs
    obtain ⟨t23, hv, h⟩ := h
    refine t_eff hs rfl rfl (by decide) (e_load rfl rfl ct_105 hv) ?_
    clear hs a hv
    intro a hs
    obtain ⟨u1, w1, hd, h⟩ := h
    refine t_none hs rfl rfl (e_clear rfl rfl rfl hd) ?_
    clear hs a hd
    intro a hs
    refine f_end (fn := Try.f54) hs (fun a hs => r_many hs (rs := []) (vs := []) rfl (by decide) trivial) ⟨rfl, h⟩
  · replace h := h.2 hb
    clear hb
    refine wp_skip ?_
    refine f_end (fn := Try.f54) hs (fun a hs => r_many hs (rs := []) (vs := []) rfl (by decide) trivial) ⟨rfl, h⟩
def link_Link_packet (l0 : (Option Addr)) (Q : (Array Value) → K) : K :=
  New 36 #[(.int .u64 0), (.int .u64 0), (.int .u64 0), (.int .u64 0), (Sl.val ⟨none, 0, 0⟩)] fun t2 =>
  Dr <|
  Nn l0 fun t4 =>
  Ld t4 (Value.int .u64) fun t6 =>
  Ld (t4.add 1) (Value.int .u64) fun t10 =>
  Ld (t4.add 3) (Value.int .u64) fun t14 =>
  Ar (IntKind.wrap .u64 (t14 - 1)) fun t15 =>
  StN t2 5 #[(.int .u64 t6), (.int .u64 t10), (.int .u64 0), (.int .u64 t15), (Sl.val ⟨none, 0, 0⟩)] <|
  LdN t2 5 fun r0 =>
  Q r0
theorem link_Link_packet_ok (l0 : (Option Addr)) (Q : (Array Value) → K) (w : World) (h : link_Link_packet l0 Q w) : link_Link_packet.call l0 Q w := by
  unfold link_Link_packet.call CallF
  refine f_start (args := [(.pointer l0)]) Try.func55 rfl (Nat.le_of_ble_eq_true rfl) ?_
  intro a hs
  unfold link_Link_packet at h
  refine wp_seq_k fun K1 hK1 => ?_
  refine wp_region_lit ?_
  obtain ⟨t2, w1, ha, hw, h⟩ := h
  refine t_eff hs rfl rfl (by decide) (e_alloc rfl zt_36 rfl ha hw) ?_
  clear hs a ha hw
  intro a hs
  refine hK1 _ _ ?_
  refine wp_seq_k fun K2 hK2 => ?_
  obtain ⟨w1, hw1, h⟩ := h
  refine d_start (S := Is w1) (ds := [14]) #[false, false, false, false, false, false, false, false, false, false, false, false, false, false, false] mixed rfl rfl ?_
  rw [← hw1]
  have hS := Is.intro w1
  clear hw1
  refine d_pure hs #[true, false, false, false, false, false, false, false, false, false, false, false, false, false, false] (i := 0) rfl rfl rfl (by decide) (by kernel_rfl) (tight_body (P := Try.prog) (fn := Try.f55)) (p_move rfl rfl) ?_
  clear hs a
  intro a hs
  obtain ⟨t4, rfl, h⟩ := h
  refine d_pure hs #[true, true, false, false, false, false, false, false, false, false, false, false, false, false, false] (i := 1) rfl rfl rfl (by decide) (by kernel_rfl) (tight_body (P := Try.prog) (fn := Try.f55)) (p_nil rfl rfl) ?_
  clear hs a
  intro a hs
  refine d_pure hs #[true, true, true, false, false, false, false, false, false, false, false, false, false, false, false] (i := 2) rfl rfl rfl (by decide) (by kernel_rfl) (tight_body (P := Try.prog) (fn := Try.f55)) (p_fieldAddr0 rfl rfl ft_107_0) ?_
  clear hs a
  intro a hs
  refine d_pure hs #[true, true, true, false, true, false, false, false, false, false, false, false, false, false, false] (i := 4) rfl rfl rfl (by decide) (by kernel_rfl) (tight_body (P := Try.prog) (fn := Try.f55)) (p_move rfl rfl) ?_
  clear hs a
  intro a hs
  refine d_pure hs #[true, true, true, false, true, true, false, false, false, false, false, false, false, false, false] (i := 5) rfl rfl rfl (by decide) (by kernel_rfl) (tight_body (P := Try.prog) (fn := Try.f55)) (p_nil rfl rfl) ?_
  clear hs a
  intro a hs
  refine d_pure hs #[true, true, true, false, true, true, true, false, false, false, false, false, false, false, false] (i := 6) rfl rfl rfl (by decide) (by kernel_rfl) (tight_body (P := Try.prog) (fn := Try.f55)) (p_fieldAddr rfl rfl ft_107_1) ?_
  clear hs a
  intro a hs
  refine d_pure hs #[true, true, true, false, true, true, true, false, true, false, false, false, false, false, false] (i := 8) rfl rfl rfl (by decide) (by kernel_rfl) (tight_body (P := Try.prog) (fn := Try.f55)) (p_move rfl rfl) ?_
  clear hs a
  intro a hs
  refine d_pure hs #[true, true, true, false, true, true, true, false, true, true, false, false, false, false, false] (i := 9) rfl rfl rfl (by decide) (by kernel_rfl) (tight_body (P := Try.prog) (fn := Try.f55)) (p_nil rfl rfl) ?_
  clear hs a
  intro a hs
  replace hs := hs.to (τ := [(2, (.pointer (some t2))), (5, (.pointer (some t4))), (9, (.pointer (some (t4.add 1)))), (12, (.pointer (some t4)))]) ⟨rfl, rfl, rfl, rfl, trivial⟩
  refine d_pure hs #[true, true, true, false, true, true, true, false, true, true, true, false, false, false, false] (i := 10) rfl rfl rfl (by decide) (by kernel_rfl) (tight_body (P := Try.prog) (fn := Try.f55)) (p_fieldAddr rfl rfl ft_107_3) ?_
  clear hs a
  intro a hs
  obtain ⟨t6, hv, h⟩ := h
  refine d_read hs #[true, true, true, true, true, true, true, false, true, true, true, false, false, false, false] (i := 3) rfl rfl rfl (by decide) (by kernel_rfl) (by kernel_rfl) (tight_body (P := Try.prog) (fn := Try.f55)) hS (fun w h' => by have h1 := h'.out; subst h1; exact e_load rfl rfl ct_23 hv) ?_
  clear hs a hv
  intro a hs
  obtain ⟨t10, hv, h⟩ := h
  refine d_read hs #[true, true, true, true, true, true, true, true, true, true, true, false, false, false, false] (i := 7) rfl rfl rfl (by decide) (by kernel_rfl) (by kernel_rfl) (tight_body (P := Try.prog) (fn := Try.f55)) hS (fun w h' => by have h1 := h'.out; subst h1; exact e_load rfl rfl ct_23 hv) ?_
  clear hs a hv
  intro a hs
  obtain ⟨t14, hv, h⟩ := h
  refine d_read hs #[true, true, true, true, true, true, true, true, true, true, true, true, false, false, false] (i := 11) rfl rfl rfl (by decide) (by kernel_rfl) (by kernel_rfl) (tight_body (P := Try.prog) (fn := Try.f55)) hS (fun w h' => by have h1 := h'.out; subst h1; exact e_load rfl rfl ct_23 hv) ?_
  clear hs a hv
  intro a hs
  obtain ⟨t15, he, h⟩ := h
  refine d_pure hs #[true, true, true, true, true, true, true, true, true, true, true, true, true, false, false] (i := 12) rfl rfl rfl (by decide) (by kernel_rfl) (tight_body (P := Try.prog) (fn := Try.f55)) (Pure.int he (p_sub rfl rfl rfl)) ?_
  clear hs a he
  intro a hs
  refine d_pure hs #[true, true, true, true, true, true, true, true, true, true, true, true, true, true, false] (i := 13) rfl rfl rfl (by decide) (by kernel_rfl) (tight_body (P := Try.prog) (fn := Try.f55)) (e_build (cs := #[(.int .u64 t6), (.int .u64 t10), (.int .u64 0), (.int .u64 t15), (Sl.val ⟨none, 0, 0⟩)]) rfl zt_36 pl_36 rfl rfl) ?_
  clear hs a
  intro a hs
  refine d_all [14] (by kernel_rfl) (by decide) ?_
  refine AllS.cons ?_ AllS.nil
  obtain ⟨w1, hw, hn, hc, hv, h⟩ := h
  refine d_skip hs #[true, true, true, true, true, true, true, true, true, true, true, true, true, true, true] (i := 14) rfl rfl rfl rfl (e_storeN rfl rfl rfl sz_36 hw hn hc hv) (fun hn => (hn (by decide)).elim) ?_
  clear hs a hw hn hc hv
  intro a hs
  refine d_done (by kernel_rfl) ?_ _
  clear hS
  refine hK2 _ _ ?_
  refine wp_ret ?_
  obtain ⟨r0, hn0, hv0, h⟩ := h
  refine f_ret (fn := Try.f55) hs (fun a hs => r_one hs rfl (⟨_, rfl, run_loadVarN at_36 hn0 hv0⟩)) ⟨r0, rfl, h⟩
def link_Link_acknowledged.s2 (Q : K) (X1 : K) (l0_2 : (Option Addr)) (ack1_2 : Int) (t17_2 : Bool) : K :=
  Ite t17_2
    (Nn l0_2 fun t20 =>
    Ld (t20.add 4) Sl.val fun t22 =>
    Slc t22 1 (t22.n : Int) (t22.c : Int) 1 fun t23 =>
    St (t20.add 4) (Sl.val t23) <|
    Ld (t20.add 2) (Value.int .u64) fun t29 =>
    Ar (IntKind.wrap .u64 (t29 + 1)) fun t30 =>
    St (t20.add 2) (.int .u64 t30) <|
    X1)
    (Q)
def link_Link_acknowledged.b1 (Q : K)  (X1 : K) (l0_1 : (Option Addr)) (ack1_1 : Int)  : K :=
  Nn l0_1 fun t5 =>
  Ld (t5.add 4) Sl.val fun t7 =>
  Ite (decide ((0 : Int) < (t7.n : Int)))
    (Ld (t5.add 2) (Value.int .u64) fun t14 =>
    link_Link_acknowledged.s2 Q X1 (some t5) ack1_1 (decide (t14 ≤ ack1_1)))
    (link_Link_acknowledged.s2 Q X1 (some t5) ack1_1 false)
def link_Link_acknowledged (l0 : (Option Addr)) (ack1 : Int) (Q : K) : K :=
  LoopK (α := Unit) (fun X x => link_Link_acknowledged.b1 Q (X ()) l0 ack1) ()
theorem link_Link_acknowledged_ok (l0 : (Option Addr)) (ack1 : Int) (Q : K) (w : World) (h : link_Link_acknowledged l0 ack1 Q w) : link_Link_acknowledged.call l0 ack1 Q w := by
  unfold link_Link_acknowledged.call CallF
  refine f_start (args := [(.pointer l0), (.int .u64 ack1)]) Try.func56 rfl (Nat.le_of_ble_eq_true rfl) ?_
  intro a hs
  unfold link_Link_acknowledged at h
  refine wp_block ?_
  obtain ⟨I1, μ1, h0, hr⟩ := h
  refine c_loop (α := Unit) I1 μ1 (fun x a => Slots a 33 [(0, (.pointer l0)), (1, (.int .u64 ack1))]) () h0 (hs.to ⟨rfl, rfl, trivial⟩) ?_
  clear h0 hs a
  intro x0_1 a w hI hs
  have h : link_Link_acknowledged.b1 Q (fun w' => I1 () w' ∧ μ1 () w' < μ1 x0_1 w) l0 ack1 w := hr x0_1 w hI
  clear hr hI
  generalize hX1 : (fun w' => I1 () w' ∧ μ1 () w' < μ1 x0_1 w) = X1 at h
  unfold link_Link_acknowledged.b1 at h
  replace hs : Slots a 33 [(0, (.pointer l0)), (1, (.int .u64 ack1))] := hs
  refine wp_seq_k fun K1 hK1 => ?_
  refine wp_seq_k fun K2 hK2 => ?_
  have J2 : ∀ (t17_2 : Bool) (a : Act) (w : World), Slots a 33 [(0, (.pointer l0)), (1, (.int .u64 ack1)), (17, (.bool t17_2))] → link_Link_acknowledged.s2 Q X1 l0 ack1 t17_2 w → K2 a w := by
    clear h hs
    intro t17_2 a w hs h
    refine hK2 _ _ ?_
    unfold link_Link_acknowledged.s2 at h
    refine c_cond hs rfl (fun hb => ?_) (fun hb => ?_)
    · replace h := h.1 hb
      clear hb
      refine wp_skip ?_
      refine hK1 _ _ ?_
      refine wp_block ?_
      refine wp_seq_k fun K3 hK3 => ?_
      refine wp_region_lit ?_
      refine t_pure hs rfl rfl (by decide) (p_move rfl rfl) ?_
      clear hs a
      intro a hs
      refine t_pure hs rfl rfl (by decide) (p_move rfl rfl) ?_
      clear hs a
      intro a hs
      obtain ⟨t20, rfl, h⟩ := h
      refine t_pure hs rfl rfl (by decide) (p_nil rfl rfl) ?_
      clear hs a
      intro a hs
      refine t_pure hs rfl rfl (by decide) (p_fieldAddr rfl rfl ft_107_4) ?_
      clear hs a
      intro a hs
      obtain ⟨t22, hv, h⟩ := h
      refine t_eff hs rfl rfl (by decide) (e_load rfl rfl ct_56 hv) ?_
      clear hs a hv
      intro a hs
      obtain ⟨t23, h0, h1, h2, h3, he, h⟩ := h
      refine t_pure hs rfl rfl (by decide) (Pure.sl he (p_slc rfl rfl sl_56 ⟨_, rfl⟩ rfl rfl (by decide) h0 h1 h2 h3)) ?_
      clear hs a h0 h1 h2 h3 he
      intro a hs
      refine t_pure hs rfl rfl (by decide) (p_nil rfl rfl) ?_
      clear hs a
      intro a hs
      refine t_pure hs rfl rfl (by decide) (p_fieldAddr rfl rfl ft_107_4) ?_
      clear hs a
      intro a hs
      replace hs := hs.to (τ := [(0, (.pointer (some t20))), (1, (.int .u64 ack1)), (23, (Sl.val t23)), (25, (.pointer (some (t20.add 4))))]) ⟨rfl, rfl, rfl, rfl, trivial⟩
      obtain ⟨w1, hw, hc, hf, hv, h⟩ := h
      refine t_skip hs rfl rfl (e_store rfl rfl rfl sz_56 hw hc hf hv) ?_
      clear hs a hw hc hf hv
      intro a hs
      refine hK3 _ _ ?_
      refine wp_region_lit ?_
      refine t_pure hs rfl rfl (by decide) (p_move rfl rfl) ?_
      clear hs a
      intro a hs
      refine t_pure hs rfl rfl (by decide) (p_nil rfl rfl) ?_
      clear hs a
      intro a hs
      refine t_pure hs rfl rfl (by decide) (p_fieldAddr rfl rfl ft_107_2) ?_
      clear hs a
      intro a hs
      obtain ⟨t29, hv, h⟩ := h
      refine t_eff hs rfl rfl (by decide) (e_load rfl rfl ct_23 hv) ?_
      clear hs a hv
      intro a hs
      obtain ⟨t30, he, h⟩ := h
      refine t_pure hs rfl rfl (by decide) (Pure.int he (p_add rfl rfl rfl)) ?_
      clear hs a he
      intro a hs
      refine t_pure hs rfl rfl (by decide) (p_nil rfl rfl) ?_
      clear hs a
      intro a hs
      refine t_pure hs rfl rfl (by decide) (p_fieldAddr rfl rfl ft_107_2) ?_
      clear hs a
      intro a hs
      obtain ⟨w1, hw, hc, hf, hv, h⟩ := h
      refine t_skip hs rfl rfl (e_store rfl rfl rfl sz_23 hw hc hf hv) ?_
      clear hs a hw hc hf hv
      intro a hs
      rw [← hX1] at h
      exact ⟨(), hs.to ⟨rfl, rfl, trivial⟩, h⟩
    · replace h := h.2 hb
      clear hb
      refine wp_exit ?_
      refine f_end (fn := Try.f56) hs (fun a hs => r_many hs (rs := []) (vs := []) rfl (by decide) trivial) ⟨rfl, h⟩
  clear hK2
  refine wp_region_lit ?_
  refine t_pure hs rfl rfl (by decide) (p_move rfl rfl) ?_
  clear hs a
  intro a hs
  obtain ⟨t5, rfl, h⟩ := h
  refine t_pure hs rfl rfl (by decide) (p_nil rfl rfl) ?_
  clear hs a
  intro a hs
  refine t_pure hs rfl rfl (by decide) (p_fieldAddr rfl rfl ft_107_4) ?_
  clear hs a
  intro a hs
  obtain ⟨t7, hv, h⟩ := h
  refine t_eff hs rfl rfl (by decide) (e_load rfl rfl ct_56 hv) ?_
  clear hs a hv
  intro a hs
  refine t_pure hs rfl rfl (by decide) (p_len rfl rfl sl_56) ?_
  clear hs a
  intro a hs
  refine t_pure hs rfl rfl (by decide) (p_gt rfl rfl rfl) ?_
  clear hs a
  intro a hs
  refine t_pure hs rfl rfl (by decide) (p_move rfl rfl) ?_
  clear hs a
  intro a hs
  refine split_bool (decide ((0 : Int) < (t7.n : Int))) (fun hb => ?_) (fun hb => ?_)
  · replace h := h.1 hb
    rw [hb] at hs
    clear hb
    refine t_yes hs rfl ?_
    refine t_pure hs rfl rfl (by decide) (p_move rfl rfl) ?_
    clear hs a
    intro a hs
    replace hs := hs.to (τ := [(0, (.pointer (some t5))), (1, (.int .u64 ack1)), (10, (.bool true)), (11, (.pointer (some t5)))]) ⟨rfl, rfl, rfl, rfl, trivial⟩
    refine t_yes hs rfl ?_
    refine t_pure hs rfl rfl (by decide) (p_nil rfl rfl) ?_
    clear hs a
    intro a hs
    refine t_yes hs rfl ?_
    refine t_pure hs rfl rfl (by decide) (p_fieldAddr rfl rfl ft_107_2) ?_
    clear hs a
    intro a hs
    refine t_yes hs rfl ?_
    obtain ⟨t14, hv, h⟩ := h
    refine t_eff hs rfl rfl (by decide) (e_load rfl rfl ct_23 hv) ?_
    clear hs a hv
    intro a hs
    refine t_yes hs rfl ?_
    refine t_pure hs rfl rfl (by decide) (p_move rfl rfl) ?_
    clear hs a
    intro a hs
    refine t_yes hs rfl ?_
    refine t_pure hs rfl rfl (by decide) (p_le rfl rfl rfl) ?_
    clear hs a
    intro a hs
    refine t_pure hs rfl rfl (by decide) (p_pick_t rfl rfl rfl) ?_
    clear hs a
    intro a hs
    exact J2 (decide (t14 ≤ ack1)) _ _ (hs.to ⟨rfl, rfl, rfl, trivial⟩) h
  · replace h := h.2 hb
    rw [hb] at hs
    clear hb
    refine t_no hs rfl rfl (by decide) ?_
    clear hs a
    intro a hs
    replace hs := hs.to (τ := [(0, (.pointer (some t5))), (1, (.int .u64 ack1)), (10, (.bool false)), (11, undef)]) ⟨rfl, rfl, rfl, rfl, trivial⟩
    refine t_no hs rfl rfl (by decide) ?_
    clear hs a
    intro a hs
    refine t_no hs rfl rfl (by decide) ?_
    clear hs a
    intro a hs
    refine t_no hs rfl rfl (by decide) ?_
    clear hs a
    intro a hs
    refine t_no hs rfl rfl (by decide) ?_
    clear hs a
    intro a hs
    refine t_no hs rfl rfl (by decide) ?_
    clear hs a
    intro a hs
    refine t_pure hs rfl rfl (by decide) (p_pick_f rfl rfl rfl) ?_
    clear hs a
    intro a hs
    exact J2 false _ _ (hs.to ⟨rfl, rfl, rfl, trivial⟩) h
end Go.Proofs.Ytilejcnbacmdnaa
