/- Plain forms of functions, and that their code comes to them (package ref19). -/
import Derived.Test.YtilejcnbacmdnaaCalls
namespace Go.Proofs.Ytilejcnbacmdnaa
open Go Go.Sep
set_option linter.unusedVariables false
set_option linter.unusedSimpArgs false
set_option maxRecDepth 100000
set_option maxHeartbeats 4000000
def ref19_SameData.b1 (Q : Bool → K)  (X1 : Int → K) (a0_1 : Sl) (b1_1 : Sl) (i5_1 : Int) : K :=
  Ite (decide (i5_1 < (a0_1.n : Int)))
    (Dr <|
    Idx a0_1 i5_1 1 fun t19 =>
    Ld t19 Sl.val fun t20 =>
    Rd Try.prog (convert 22 9 (Sl.val t20)) Value.string fun t21 =>
    Idx b1_1 i5_1 1 fun t24 =>
    Ld t24 Sl.val fun t25 =>
    Rd Try.prog (convert 22 9 (Sl.val t25)) Value.string fun t26 =>
    Ite (!(t21.toList == t26.toList))
      (Q false)
      (Ar (IntKind.wrap .i64 (i5_1 + 1)) fun t16 =>
      X1 t16))
    (Q true)
def ref19_SameData (a0 : Sl) (b1 : Sl) (Q : Bool → K) : K :=
  Ite (decide ((a0.n : Int) ≠ (b1.n : Int)))
    (Q false)
    (LoopK (α := Int) (fun X x => ref19_SameData.b1 Q X a0 b1 x) 0)
theorem ref19_SameData_ok (a0 : Sl) (b1 : Sl) (Q : Bool → K) (w : World) (h : ref19_SameData a0 b1 Q w) : ref19_SameData.call a0 b1 Q w := by
  unfold ref19_SameData.call CallF
  refine f_start (args := [(Sl.val a0), (Sl.val b1)]) Try.func33 rfl (Nat.le_of_ble_eq_true rfl) ?_
  intro a hs
  unfold ref19_SameData at h
  refine wp_seq_k fun K1 hK1 => ?_
  refine wp_region_lit ?_
  refine t_pure hs rfl rfl (by decide) (p_assign rfl rfl) ?_
  clear hs a
  intro a hs
  refine hK1 _ _ ?_
  refine wp_seq_k fun K2 hK2 => ?_
  refine wp_seq_k fun K3 hK3 => ?_
  refine wp_region_lit ?_
  refine t_pure hs rfl rfl (by decide) (p_move rfl rfl) ?_
  clear hs a
  intro a hs
  refine t_pure hs rfl rfl (by decide) (p_len rfl rfl sl_56) ?_
  clear hs a
  intro a hs
  refine t_pure hs rfl rfl (by decide) (p_move rfl rfl) ?_
  clear hs a
  intro a hs
  refine t_pure hs rfl rfl (by decide) (p_len rfl rfl sl_56) ?_
  clear hs a
  intro a hs
  refine t_pure hs rfl rfl (by decide) (p_ne rfl rfl rfl) ?_
  clear hs a
  intro a hs
  refine hK3 _ _ ?_
  refine c_cond hs rfl (fun hb => ?_) (fun hb => ?_)
  · replace h := h.1 hb
    clear hb
    refine wp_seq_k fun K4 hK4 => ?_
    refine wp_region_lit ?_
    refine t_pure hs rfl rfl (by decide) (p_assign rfl rfl) ?_
    clear hs a
    intro a hs
    refine hK4 _ _ ?_
    refine wp_ret ?_
    refine f_ret (fn := Try.f33) hs (fun a hs => r_one hs rfl (rfl)) ⟨false, rfl, h⟩
  · replace h := h.2 hb
    clear hb
    refine wp_skip ?_
    refine hK2 _ _ ?_
    refine wp_seq_k fun K5 hK5 => ?_
    refine wp_seq_k fun K6 hK6 => ?_
    refine wp_region_lit ?_
    refine t_pure hs rfl rfl (by decide) (p_assign rfl rfl) ?_
    clear hs a
    intro a hs
    refine hK6 _ _ ?_
    refine wp_block ?_
    obtain ⟨I1, μ1, h0, hr⟩ := h
    refine c_loop (α := Int) I1 μ1 (fun x a => Slots a 28 [(0, (Sl.val a0)), (1, (Sl.val b1)), (5, (.int .i64 x))]) 0 h0 (hs.to ⟨rfl, rfl, rfl, trivial⟩) ?_
    clear h0 hs a
    intro i5_1 a w hI hs
    have h : ref19_SameData.b1 Q (fun i5_1n w' => I1 i5_1n w' ∧ μ1 i5_1n w' < μ1 i5_1 w) a0 b1 i5_1 w := hr i5_1 w hI
    clear hr hI
    generalize hX1 : (fun i5_1n w' => I1 i5_1n w' ∧ μ1 i5_1n w' < μ1 i5_1 w) = X1 at h
    unfold ref19_SameData.b1 at h
    replace hs : Slots a 28 [(0, (Sl.val a0)), (1, (Sl.val b1)), (5, (.int .i64 i5_1))] := hs
    refine wp_seq_k fun K7 hK7 => ?_
    refine wp_seq_k fun K8 hK8 => ?_
    refine wp_region_lit ?_
    refine t_pure hs rfl rfl (by decide) (p_move rfl rfl) ?_
    clear hs a
    intro a hs
    refine t_pure hs rfl rfl (by decide) (p_move rfl rfl) ?_
    clear hs a
    intro a hs
    refine t_pure hs rfl rfl (by decide) (p_len rfl rfl sl_56) ?_
    clear hs a
    intro a hs
    refine t_pure hs rfl rfl (by decide) (p_lt rfl rfl rfl) ?_
    clear hs a
    intro a hs
    refine hK8 _ _ ?_
    refine c_cond hs rfl (fun hb => ?_) (fun hb => ?_)
    · replace h := h.1 hb
      clear hb
      refine wp_skip ?_
      refine hK7 _ _ ?_
      refine wp_seq_k fun K9 hK9 => ?_
      refine wp_block ?_
      refine wp_seq_k fun K10 hK10 => ?_
      obtain ⟨w1, hw1, h⟩ := h
      refine s_start mixed (by kernel_rfl) hw1 ?_
      clear hw1
      refine s_pure hs rfl rfl (by decide) (p_move rfl rfl) ?_
      clear hs a
      intro a hs
      refine s_pure hs rfl rfl (by decide) (p_move rfl rfl) ?_
      clear hs a
      intro a hs
      obtain ⟨qt19, t19, ha, h0, h1, he, h⟩ := h
      refine s_pure hs rfl rfl (by decide) (Pure.adr he (p_idx rfl rfl rfl sl_56 ha h0 h1)) ?_
      clear hs a ha h0 h1 he
      intro a hs
      obtain ⟨t20, hv, h⟩ := h
      refine s_eff hs rfl rfl (by decide) (e_load rfl rfl ct_22 hv) ?_
      clear hs a hv
      intro a hs
      obtain ⟨t21, hd, h⟩ := h
      refine s_eff hs rfl rfl (by decide) (e_convert rfl rfl hd) ?_
      clear hs a hd
      intro a hs
      refine s_pure hs rfl rfl (by decide) (p_move rfl rfl) ?_
      clear hs a
      intro a hs
      refine s_pure hs rfl rfl (by decide) (p_move rfl rfl) ?_
      clear hs a
      intro a hs
      obtain ⟨qt24, t24, ha, h0, h1, he, h⟩ := h
      refine s_pure hs rfl rfl (by decide) (Pure.adr he (p_idx rfl rfl rfl sl_56 ha h0 h1)) ?_
      clear hs a ha h0 h1 he
      intro a hs
      replace hs := hs.to (τ := [(0, (Sl.val a0)), (1, (Sl.val b1)), (5, (.int .i64 i5_1)), (21, (.string t21)), (24, (.pointer (some t24)))]) ⟨rfl, rfl, rfl, rfl, rfl, trivial⟩
      obtain ⟨t25, hv, h⟩ := h
      refine s_eff hs rfl rfl (by decide) (e_load rfl rfl ct_22 hv) ?_
      clear hs a hv
      intro a hs
      obtain ⟨t26, hd, h⟩ := h
      refine s_eff hs rfl rfl (by decide) (e_convert rfl rfl hd) ?_
      clear hs a hd
      intro a hs
      refine s_pure hs rfl rfl (by decide) (p_nes rfl rfl rfl) ?_
      clear hs a
      intro a hs
      refine hK10 _ _ ?_
      refine c_cond hs rfl (fun hb => ?_) (fun hb => ?_)
      · replace h := h.1 hb
        clear hb
        refine wp_seq_k fun K11 hK11 => ?_
        refine wp_region_lit ?_
        refine t_pure hs rfl rfl (by decide) (p_assign rfl rfl) ?_
        clear hs a
        intro a hs
        refine hK11 _ _ ?_
        refine wp_ret ?_
        refine f_ret (fn := Try.f33) hs (fun a hs => r_one hs rfl (rfl)) ⟨false, rfl, h⟩
      · replace h := h.2 hb
        clear hb
        refine wp_skip ?_
        refine hK9 _ _ ?_
        refine wp_region_lit ?_
        refine t_pure hs rfl rfl (by decide) (p_move rfl rfl) ?_
        clear hs a
        intro a hs
        obtain ⟨t16, he, h⟩ := h
        refine t_pure hs rfl rfl (by decide) (Pure.int he (p_add rfl rfl rfl)) ?_
        clear hs a he
        intro a hs
        refine t_pure hs rfl rfl (by decide) (p_assign rfl rfl) ?_
        clear hs a
        intro a hs
        rw [← hX1] at h
        exact ⟨t16, hs.to ⟨rfl, rfl, rfl, trivial⟩, h⟩
    · replace h := h.2 hb
      clear hb
      refine wp_exit ?_
      refine hK5 _ _ ?_
      refine wp_seq_k fun K12 hK12 => ?_
      refine wp_region_lit ?_
      refine t_pure hs rfl rfl (by decide) (p_assign rfl rfl) ?_
      clear hs a
      intro a hs
      refine hK12 _ _ ?_
      refine wp_ret ?_
      refine f_ret (fn := Try.f33) hs (fun a hs => r_one hs rfl (rfl)) ⟨true, rfl, h⟩
def ref19_New (epoch0 : Int) (Q : (Option Addr) → K) : K :=
  New 92 #[(.int .u64 epoch0), (.int .u64 0), (.int .u64 1), (.int .u64 1), (Sl.val ⟨none, 0, 0⟩), (Sl.val ⟨none, 0, 0⟩)] fun t5 =>
  Q (some t5)
theorem ref19_New_ok (epoch0 : Int) (Q : (Option Addr) → K) (w : World) (h : ref19_New epoch0 Q w) : ref19_New.call epoch0 Q w := by
  unfold ref19_New.call CallF
  refine f_start (args := [(.int .u64 epoch0)]) Try.func40 rfl (Nat.le_of_ble_eq_true rfl) ?_
  intro a hs
  unfold ref19_New at h
  refine wp_seq_k fun K1 hK1 => ?_
  refine wp_region_lit ?_
  refine t_pure hs rfl rfl (by decide) (p_assign rfl rfl) ?_
  clear hs a
  intro a hs
  refine hK1 _ _ ?_
  refine wp_seq_k fun K2 hK2 => ?_
  refine wp_region_lit ?_
  refine t_pure hs rfl rfl (by decide) (p_move rfl rfl) ?_
  clear hs a
  intro a hs
  refine t_pure hs rfl rfl (by decide) (e_build (cs := #[(.int .u64 epoch0), (.int .u64 0), (.int .u64 1), (.int .u64 1), (Sl.val ⟨none, 0, 0⟩), (Sl.val ⟨none, 0, 0⟩)]) rfl zt_92 pl_92 rfl rfl) ?_
  clear hs a
  intro a hs
  obtain ⟨t5, w1, ha, hw, h⟩ := h
  refine t_eff hs rfl rfl (by decide) (e_box rfl rfl rfl ha hw) ?_
  clear hs a ha hw
  intro a hs
  refine t_pure hs rfl rfl (by decide) (p_assign rfl rfl) ?_
  clear hs a
  intro a hs
  refine hK2 _ _ ?_
  refine wp_ret ?_
  refine f_ret (fn := Try.f40) hs (fun a hs => r_one hs rfl (rfl)) ⟨(some t5), rfl, h⟩
def ref19_Link_Send (l0 : (Option Addr)) (data1 : Sl) (Q : Int → K) : K :=
  Nn l0 fun t6 =>
  Ld (t6.add 4) Sl.val fun t8 =>
  Ite (decide ((16 : Int) ≤ (t8.n : Int)))
    (Q 2)
    (New 22 #[] fun t12 =>
    Ld (t6.add 4) Sl.val fun t16 =>
    Do Try.prog (Builtin.append_ #[56, 56] 56 #[(Sl.val (Sl.mk (some t12) 0 0)), (Sl.val t16)]) Sl.val fun t17 =>
    New 5 #[] fun t18 =>
    Do Try.prog (Builtin.append_ #[22, 22] 22 #[(Sl.val (Sl.mk (some t18) 0 0)), (Sl.val data1)]) Sl.val fun t20 =>
    New 22 #[(Sl.val t20)] fun t21 =>
    Do Try.prog (Builtin.append_ #[56, 56] 56 #[(Sl.val t17), (Sl.val (Sl.mk (some t21) 1 1))]) Sl.val fun t22 =>
    St (t6.add 4) (Sl.val t22) <|
    Q 0)
theorem ref19_Link_Send_ok (l0 : (Option Addr)) (data1 : Sl) (Q : Int → K) (w : World) (h : ref19_Link_Send l0 data1 Q w) : ref19_Link_Send.call l0 data1 Q w := by
  unfold ref19_Link_Send.call CallF
  refine f_start (args := [(.pointer l0), (Sl.val data1)]) Try.func41 rfl (Nat.le_of_ble_eq_true rfl) ?_
  intro a hs
  unfold ref19_Link_Send at h
  refine wp_seq_k fun K1 hK1 => ?_
  refine wp_region_lit ?_
  refine t_pure hs rfl rfl (by decide) (p_assign rfl rfl) ?_
  clear hs a
  intro a hs
  refine hK1 _ _ ?_
  refine wp_seq_k fun K2 hK2 => ?_
  refine wp_seq_k fun K3 hK3 => ?_
  refine wp_region_lit ?_
  refine t_pure hs rfl rfl (by decide) (p_move rfl rfl) ?_
  clear hs a
  intro a hs
  obtain ⟨t6, rfl, h⟩ := h
  refine t_pure hs rfl rfl (by decide) (p_nil rfl rfl) ?_
  clear hs a
  intro a hs
  refine t_pure hs rfl rfl (by decide) (p_fieldAddr rfl rfl ft_92_4) ?_
  clear hs a
  intro a hs
  obtain ⟨t8, hv, h⟩ := h
  refine t_eff hs rfl rfl (by decide) (e_load rfl rfl ct_56 hv) ?_
  clear hs a hv
  intro a hs
  refine t_pure hs rfl rfl (by decide) (p_len rfl rfl sl_56) ?_
  clear hs a
  intro a hs
  refine t_pure hs rfl rfl (by decide) (p_ge rfl rfl rfl) ?_
  clear hs a
  intro a hs
  refine hK3 _ _ ?_
  refine c_cond hs rfl (fun hb => ?_) (fun hb => ?_)
  · replace h := h.1 hb
    clear hb
    refine wp_seq_k fun K4 hK4 => ?_
    refine wp_region_lit ?_
    refine t_pure hs rfl rfl (by decide) (p_assign rfl rfl) ?_
    clear hs a
    intro a hs
    refine hK4 _ _ ?_
    refine wp_ret ?_
    refine f_ret (fn := Try.f41) hs (fun a hs => r_one hs rfl (rfl)) ⟨2, rfl, h⟩
  · replace h := h.2 hb
    clear hb
    refine wp_skip ?_
    refine hK2 _ _ ?_
    refine wp_seq_k fun K5 hK5 => ?_
    refine wp_region_lit ?_
    refine t_pure hs rfl rfl (by decide) (p_move rfl rfl) ?_
    clear hs a
    intro a hs
    obtain ⟨t12, w1, ha, hw, h⟩ := h
    refine t_eff hs rfl rfl (by decide) (e_buildSlice (z := #[]) (cs := #[]) rfl sl_56 zt_22 (by decide) rfl rz_22_0 (by rfl) ha hw) ?_
    clear hs a ha hw
    intro a hs
    refine t_pure hs rfl rfl (by decide) (p_move rfl rfl) ?_
    clear hs a
    intro a hs
    refine t_pure hs rfl rfl (by decide) (p_nil rfl rfl) ?_
    clear hs a
    intro a hs
    refine t_pure hs rfl rfl (by decide) (p_fieldAddr rfl rfl ft_92_4) ?_
    clear hs a
    intro a hs
    obtain ⟨t16, hv, h⟩ := h
    refine t_eff hs rfl rfl (by decide) (e_load rfl rfl ct_56 hv) ?_
    clear hs a hv
    intro a hs
    obtain ⟨t17, w1, hd, h⟩ := h
    refine t_eff hs rfl rfl (by decide) (e_append rfl rfl rfl rfl hd) ?_
    clear hs a hd
    intro a hs
    obtain ⟨t18, w1, ha, hw, h⟩ := h
    refine t_eff hs rfl rfl (by decide) (e_buildSlice (z := #[]) (cs := #[]) rfl sl_22 zt_5 (by decide) rfl rz_5_0 (by rfl) ha hw) ?_
    clear hs a ha hw
    intro a hs
    replace hs := hs.to (τ := [(1, (Sl.val data1)), (11, (.pointer (some t6))), (17, (Sl.val t17)), (18, (Sl.val (Sl.mk (some t18) 0 0)))]) ⟨rfl, rfl, rfl, rfl, trivial⟩
    refine t_pure hs rfl rfl (by decide) (p_move rfl rfl) ?_
    clear hs a
    intro a hs
    obtain ⟨t20, w1, hd, h⟩ := h
    refine t_eff hs rfl rfl (by decide) (e_append rfl rfl rfl rfl hd) ?_
    clear hs a hd
    intro a hs
    obtain ⟨t21, w1, ha, hw, h⟩ := h
    refine t_eff hs rfl rfl (by decide) (e_buildSlice (z := #[(Sl.val ⟨none, 0, 0⟩)]) (cs := #[(Sl.val t20)]) rfl sl_56 zt_22 (by decide) rfl rz_22_1 (by rfl) ha hw) ?_
    clear hs a ha hw
    intro a hs
    obtain ⟨t22, w1, hd, h⟩ := h
    refine t_eff hs rfl rfl (by decide) (e_append rfl rfl rfl rfl hd) ?_
    clear hs a hd
    intro a hs
    refine t_pure hs rfl rfl (by decide) (p_nil rfl rfl) ?_
    clear hs a
    intro a hs
    refine t_pure hs rfl rfl (by decide) (p_fieldAddr rfl rfl ft_92_4) ?_
    clear hs a
    intro a hs
    obtain ⟨w1, hw, hc, hf, hv, h⟩ := h
    refine t_skip hs rfl rfl (e_store rfl rfl rfl sz_56 hw hc hf hv) ?_
    clear hs a hw hc hf hv
    intro a hs
    refine hK5 _ _ ?_
    refine wp_seq_k fun K6 hK6 => ?_
    refine wp_region_lit ?_
    refine t_pure hs rfl rfl (by decide) (p_assign rfl rfl) ?_
    clear hs a
    intro a hs
    refine hK6 _ _ ?_
    refine wp_ret ?_
    refine f_ret (fn := Try.f41) hs (fun a hs => r_one hs rfl (rfl)) ⟨0, rfl, h⟩
def ref19_Link_Receive.b6 (Q : Sl → Sl → K) (X3 : K) (X6 : Sl → K) (l0_6 : Addr) (came7_6 : Sl) : K :=
  Ld (l0_6.add 3) (Value.int .u64) fun t150 =>
  ref19_Link_at.call (some l0_6) t150 fun t151 =>
  Ite (decide ((0 : Int) ≤ t151))
    (Ld (l0_6.add 3) (Value.int .u64) fun t157 =>
    ref19_Link_at.call (some l0_6) t157 fun t158 =>
    Ld (l0_6.add 5) Sl.val fun t163 =>
    Idx t163 t158 2 fun t165 =>
    Ld (t165.add 1) Sl.val fun t167 =>
    New 22 #[(Sl.val t167)] fun t168 =>
    Do Try.prog (Builtin.append_ #[56, 56] 56 #[(Sl.val came7_6), (Sl.val (Sl.mk (some t168) 1 1))]) Sl.val fun t169 =>
    Dr <| WithS fun S =>
    Ar (IntKind.wrap .i64 (t158 + 1)) fun t184 =>
    LdS S (l0_6.add 5) Sl.val fun t175 =>
    Slc t175 0 t158 (t175.c : Int) 2 fun t177 =>
    LdS S (l0_6.add 5) Sl.val fun t182 =>
    Slc t182 t184 (t182.n : Int) (t182.c : Int) 2 fun t185 =>
    New 113 #[] fun t171 =>
    Sv S <|
    Do Try.prog (Builtin.append_ #[90, 90] 90 #[(Sl.val (Sl.mk (some t171) 0 0)), (Sl.val t177)]) Sl.val fun t178 =>
    Sv S <|
    Do Try.prog (Builtin.append_ #[90, 90] 90 #[(Sl.val t178), (Sl.val t185)]) Sl.val fun t186 =>
    St (l0_6.add 5) (Sl.val t186) <|
    Ld (l0_6.add 3) (Value.int .u64) fun t192 =>
    Ar (IntKind.wrap .u64 (t192 + 1)) fun t193 =>
    St (l0_6.add 3) (.int .u64 t193) <|
    X6 t169)
    (Dr <|
    Ld l0_6 (Value.int .u64) fun t200 =>
    Ld (l0_6.add 1) (Value.int .u64) fun t204 =>
    Ld (l0_6.add 3) (Value.int .u64) fun t208 =>
    Ar (IntKind.wrap .u64 (t208 - 1)) fun t209 =>
    Bld #[(.int .u64 0), (.int .u64 0), (.int .u64 0), (.int .u64 0), (Sl.val ⟨none, 0, 0⟩)] (fun i => some (i * 5, 5)) [(0, (.agg #[(.int .u64 t200), (.int .u64 t204), (.int .u64 0), (.int .u64 t209), (Sl.val ⟨none, 0, 0⟩)]))] fun ct211 =>
    New 36 ct211 fun t211 =>
    Q came7_6 (Sl.mk (some t211) 1 1))
def ref19_Link_Receive.s5 (Q : Sl → Sl → K) (X3 : K) (l0_5 : Addr) (came7_5 : Sl) : K :=
  LoopK (α := Sl) (fun X x => ref19_Link_Receive.b6 Q X3 X l0_5 x) came7_5
def ref19_Link_Receive.s7 (Q : Sl → Sl → K) (X3 : K) (l0_7 : Addr) (p3_7 : Addr) (came7_7 : Sl) (t127_7 : Bool) : K :=
  Ite t127_7
    (Dr <| WithS fun S =>
    LdS S (l0_7.add 5) Sl.val fun t133 =>
    LdS S (p3_7.add 2) (Value.int .u64) fun t136 =>
    LdS S (p3_7.add 4) Sl.val fun t139 =>
    All [
      (New 113 #[] fun t129 =>
      Sv S <|
      All [
        (Do Try.prog (Builtin.append_ #[90, 90] 90 #[(Sl.val (Sl.mk (some t129) 0 0)), (Sl.val t133)]) Sl.val fun t134 =>
        Sv S <|
        New 5 #[] fun t137 =>
        Sv S <|
        Do Try.prog (Builtin.append_ #[22, 22] 22 #[(Sl.val (Sl.mk (some t137) 0 0)), (Sl.val t139)]) Sl.val fun t140 =>
        Sv S <|
        Bld #[(.int .u64 0), (Sl.val ⟨none, 0, 0⟩)] (fun i => some (i * 2, 2)) [(0, (.agg #[(.int .u64 t136), (Sl.val t140)]))] fun ct142 =>
        New 113 ct142 fun t142 =>
        Do Try.prog (Builtin.append_ #[90, 90] 90 #[(Sl.val t134), (Sl.val (Sl.mk (some t142) 1 1))]) Sl.val fun t143 =>
        St (l0_7.add 5) (Sl.val t143) <|
        ref19_Link_Receive.s5 Q X3 l0_7 came7_7),
        (New 5 #[] fun t137 =>
        Sv S <|
        Do Try.prog (Builtin.append_ #[90, 90] 90 #[(Sl.val (Sl.mk (some t129) 0 0)), (Sl.val t133)]) Sl.val fun t134 =>
        Sv S <|
        Do Try.prog (Builtin.append_ #[22, 22] 22 #[(Sl.val (Sl.mk (some t137) 0 0)), (Sl.val t139)]) Sl.val fun t140 =>
        Sv S <|
        Bld #[(.int .u64 0), (Sl.val ⟨none, 0, 0⟩)] (fun i => some (i * 2, 2)) [(0, (.agg #[(.int .u64 t136), (Sl.val t140)]))] fun ct142 =>
        New 113 ct142 fun t142 =>
        Do Try.prog (Builtin.append_ #[90, 90] 90 #[(Sl.val t134), (Sl.val (Sl.mk (some t142) 1 1))]) Sl.val fun t143 =>
        St (l0_7.add 5) (Sl.val t143) <|
        ref19_Link_Receive.s5 Q X3 l0_7 came7_7)
        ]),
      (New 5 #[] fun t137 =>
      Sv S <|
      New 113 #[] fun t129 =>
      Sv S <|
      Do Try.prog (Builtin.append_ #[90, 90] 90 #[(Sl.val (Sl.mk (some t129) 0 0)), (Sl.val t133)]) Sl.val fun t134 =>
      Sv S <|
      Do Try.prog (Builtin.append_ #[22, 22] 22 #[(Sl.val (Sl.mk (some t137) 0 0)), (Sl.val t139)]) Sl.val fun t140 =>
      Sv S <|
      Bld #[(.int .u64 0), (Sl.val ⟨none, 0, 0⟩)] (fun i => some (i * 2, 2)) [(0, (.agg #[(.int .u64 t136), (Sl.val t140)]))] fun ct142 =>
      New 113 ct142 fun t142 =>
      Do Try.prog (Builtin.append_ #[90, 90] 90 #[(Sl.val t134), (Sl.val (Sl.mk (some t142) 1 1))]) Sl.val fun t143 =>
      St (l0_7.add 5) (Sl.val t143) <|
      ref19_Link_Receive.s5 Q X3 l0_7 came7_7)
      ])
    (ref19_Link_Receive.s5 Q X3 l0_7 came7_7)
def ref19_Link_Receive.s4 (Q : Sl → Sl → K) (X3 : K) (l0_4 : Addr) (p3_4 : Addr) (none6_4 : Sl) (came7_4 : Sl) (t83_4 : Bool) : K :=
  Ite t83_4
    (Ld (l0_4.add 4) Sl.val fun t88 =>
    Slc t88 1 (t88.n : Int) (t88.c : Int) 1 fun t89 =>
    St (l0_4.add 4) (Sl.val t89) <|
    Ld (l0_4.add 2) (Value.int .u64) fun t95 =>
    Ar (IntKind.wrap .u64 (t95 + 1)) fun t96 =>
    St (l0_4.add 2) (.int .u64 t96) <|
    X3)
    (Ld (p3_4.add 2) (Value.int .u64) fun t100 =>
    Ite (decide (t100 = 0))
      (Q came7_4 none6_4)
      (Dr <|
      Ld (p3_4.add 2) (Value.int .u64) fun t105 =>
      Ld (l0_4.add 3) (Value.int .u64) fun t109 =>
      Ite (decide (t109 ≤ t105))
        (Ld (p3_4.add 2) (Value.int .u64) fun t113 =>
        Ld (l0_4.add 3) (Value.int .u64) fun t117 =>
        Ar (IntKind.wrap .u64 (t113 - t117)) fun t118 =>
        Ite (decide (t118 < 16))
          (Ld (p3_4.add 2) (Value.int .u64) fun t124 =>
          ref19_Link_at.call (some l0_4) t124 fun t125 =>
          ref19_Link_Receive.s7 Q X3 l0_4 p3_4 came7_4 (decide (t125 < 0)))
          (ref19_Link_Receive.s7 Q X3 l0_4 p3_4 came7_4 false))
        (ref19_Link_Receive.s7 Q X3 l0_4 p3_4 came7_4 false)))
def ref19_Link_Receive.b3 (Q : Sl → Sl → K)  (X3 : K) (l0_3 : Addr) (p3_3 : Addr) (none6_3 : Sl) (came7_3 : Sl)  : K :=
  Dr <|
  Ld (l0_3.add 4) Sl.val fun t72 =>
  Ite (decide ((0 : Int) < (t72.n : Int)))
    (Ld (l0_3.add 2) (Value.int .u64) fun t79 =>
    Ld (p3_3.add 3) (Value.int .u64) fun t81 =>
    ref19_Link_Receive.s4 Q X3 l0_3 p3_3 none6_3 came7_3 (decide (t79 ≤ t81)))
    (ref19_Link_Receive.s4 Q X3 l0_3 p3_3 none6_3 came7_3 false)
def ref19_Link_Receive.s2 (Q : Sl → Sl → K)  (l0_2 : (Option Addr)) (p3_2 : Addr) (none6_2 : Sl) (came7_2 : Sl) : K :=
  Dr <|
  Ld (p3_2.add 1) (Value.int .u64) fun t47 =>
  Nn l0_2 fun t49 =>
  Ld t49 (Value.int .u64) fun t51 =>
  Ite (decide (t47 ≠ t51))
    (Dr <|
    Ld t49 (Value.int .u64) fun t57 =>
    Ld (t49.add 1) (Value.int .u64) fun t61 =>
    Ld (t49.add 3) (Value.int .u64) fun t65 =>
    Ar (IntKind.wrap .u64 (t65 - 1)) fun t66 =>
    Bld #[(.int .u64 0), (.int .u64 0), (.int .u64 0), (.int .u64 0), (Sl.val ⟨none, 0, 0⟩)] (fun i => some (i * 5, 5)) [(0, (.agg #[(.int .u64 t57), (.int .u64 t61), (.int .u64 0), (.int .u64 t66), (Sl.val ⟨none, 0, 0⟩)]))] fun ct68 =>
    New 36 ct68 fun t68 =>
    Q came7_2 (Sl.mk (some t68) 1 1))
    (LoopK (α := Unit) (fun X x => ref19_Link_Receive.b3 Q (X ()) t49 p3_2 none6_2 came7_2) ())
def ref19_Link_Receive.s1 (Q : Sl → Sl → K)  (l0_1 : (Option Addr)) (p3_1 : Addr) (none6_1 : Sl) (came7_1 : Sl) (t22_1 : Bool) : K :=
  Ite t22_1
    (Q came7_1 none6_1)
    (Dr <|
    Ld p3_1 (Value.int .u64) fun t26 =>
    Nn l0_1 fun t28 =>
    Ld (t28.add 1) (Value.int .u64) fun t30 =>
    Ite (decide (t30 < t26))
      (Ld p3_1 (Value.int .u64) fun t34 =>
      St (t28.add 1) (.int .u64 t34) <|
      St (t28.add 3) (.int .u64 1) <|
      St (t28.add 2) (.int .u64 1) <|
      St (t28.add 5) (Sl.val (Sl.mk none 0 0)) <|
      ref19_Link_Receive.s2 Q (some t28) p3_1 none6_1 came7_1)
      (ref19_Link_Receive.s2 Q (some t28) p3_1 none6_1 came7_1))
def ref19_Link_Receive (l0 : (Option Addr)) (p1 : (Array Value)) (Q : Sl → Sl → K) : K :=
  New 36 p1 fun p3 =>
  New 36 #[] fun t9 =>
  New 22 #[] fun t10 =>
  Dr <|
  Ld p3 (Value.int .u64) fun t12 =>
  Ite (decide (t12 = 0))
    (ref19_Link_Receive.s1 Q l0 p3 (Sl.mk (some t9) 0 0) (Sl.mk (some t10) 0 0) true)
    (Ld p3 (Value.int .u64) fun t16 =>
    Nn l0 fun t18 =>
    Ld (t18.add 1) (Value.int .u64) fun t20 =>
    ref19_Link_Receive.s1 Q (some t18) p3 (Sl.mk (some t9) 0 0) (Sl.mk (some t10) 0 0) (decide (t16 < t20)))
theorem ref19_Link_Receive_ok (l0 : (Option Addr)) (p1 : (Array Value)) (Q : Sl → Sl → K) (w : World) (h : ref19_Link_Receive l0 p1 Q w) : ref19_Link_Receive.call l0 p1 Q w := by
  unfold ref19_Link_Receive.call CallF
  refine f_start (args := [(.pointer l0), (.agg p1)]) Try.func42 rfl (Nat.le_of_ble_eq_true rfl) ?_
  intro a hs
  unfold ref19_Link_Receive at h
  refine wp_seq_k fun K1 hK1 => ?_
  refine wp_region_lit ?_
  obtain ⟨p3, w1, ha, hw, h⟩ := h
  refine t_eff hs rfl rfl (by decide) (e_box rfl rfl rfl ha hw) ?_
  clear hs a ha hw
  intro a hs
  refine t_pure hs rfl rfl (by decide) (p_assign rfl rfl) ?_
  clear hs a
  intro a hs
  refine t_pure hs rfl rfl (by decide) (p_assign rfl rfl) ?_
  clear hs a
  intro a hs
  refine hK1 _ _ ?_
  refine wp_seq_k fun K2 hK2 => ?_
  refine wp_region_lit ?_
  obtain ⟨t9, w1, ha, hw, h⟩ := h
  refine t_eff hs rfl rfl (by decide) (e_buildSlice (z := #[]) (cs := #[]) rfl sl_60 zt_36 (by decide) rfl rz_36_0 (by rfl) ha hw) ?_
  clear hs a ha hw
  intro a hs
  obtain ⟨t10, w1, ha, hw, h⟩ := h
  refine t_eff hs rfl rfl (by decide) (e_buildSlice (z := #[]) (cs := #[]) rfl sl_56 zt_22 (by decide) rfl rz_22_0 (by rfl) ha hw) ?_
  clear hs a ha hw
  intro a hs
  refine t_pure hs rfl rfl (by decide) (p_assign rfl rfl) ?_
  clear hs a
  intro a hs
  refine t_pure hs rfl rfl (by decide) (p_assign rfl rfl) ?_
  clear hs a
  intro a hs
  refine hK2 _ _ ?_
  refine wp_seq_k fun K3 hK3 => ?_
  refine wp_seq_k fun K4 hK4 => ?_
  have J1 : ∀ (t22_1 : Bool) (a : Act) (w : World), Slots a 212 [(0, (.pointer l0)), (3, (.pointer (some p3))), (6, (Sl.val (Sl.mk (some t9) 0 0))), (7, (Sl.val (Sl.mk (some t10) 0 0))), (22, (.bool t22_1))] → ref19_Link_Receive.s1 Q l0 p3 (Sl.mk (some t9) 0 0) (Sl.mk (some t10) 0 0) t22_1 w → K4 a w := by
    clear h hs
    intro t22_1 a w hs h
    refine hK4 _ _ ?_
    unfold ref19_Link_Receive.s1 at h
    refine c_cond hs rfl (fun hb => ?_) (fun hb => ?_)
    · replace h := h.1 hb
      clear hb
      refine wp_seq_k fun K5 hK5 => ?_
      refine wp_region_lit ?_
      refine t_pure hs rfl rfl (by decide) (p_move rfl rfl) ?_
      clear hs a
      intro a hs
      refine t_pure hs rfl rfl (by decide) (p_move rfl rfl) ?_
      clear hs a
      intro a hs
      refine t_pure hs rfl rfl (by decide) (p_assign rfl rfl) ?_
      clear hs a
      intro a hs
      refine t_pure hs rfl rfl (by decide) (p_assign rfl rfl) ?_
      clear hs a
      intro a hs
      refine hK5 _ _ ?_
      refine wp_ret ?_
      refine f_ret (fn := Try.f42) hs (fun a hs => r_many hs (rs := [ResultVar.tmp 4, ResultVar.tmp 5]) (vs := [(Sl.val (Sl.mk (some t10) 0 0)), (Sl.val (Sl.mk (some t9) 0 0))]) rfl (by decide) ⟨rfl, rfl, trivial⟩) ⟨(Sl.mk (some t10) 0 0), (Sl.mk (some t9) 0 0), rfl, h⟩
    · replace h := h.2 hb
      clear hb
      refine wp_skip ?_
      refine hK3 _ _ ?_
      refine wp_seq_k fun K6 hK6 => ?_
      have J2 : ∀ (a : Act) (w : World), Slots a 212 [(0, (.pointer l0)), (3, (.pointer (some p3))), (6, (Sl.val (Sl.mk (some t9) 0 0))), (7, (Sl.val (Sl.mk (some t10) 0 0)))] → ref19_Link_Receive.s2 Q l0 p3 (Sl.mk (some t9) 0 0) (Sl.mk (some t10) 0 0) w → K6 a w := by
        clear h hs
        intro a w hs h
        refine hK6 _ _ ?_
        unfold ref19_Link_Receive.s2 at h
        refine wp_seq_k fun K7 hK7 => ?_
        refine wp_seq_k fun K8 hK8 => ?_
        obtain ⟨w1, hw1, h⟩ := h
        refine s_start mixed (by kernel_rfl) hw1 ?_
        clear hw1
        refine s_pure hs rfl rfl (by decide) (p_fieldAddr rfl rfl ft_36_1) ?_
        clear hs a
        intro a hs
        obtain ⟨t47, hv, h⟩ := h
        refine s_eff hs rfl rfl (by decide) (e_load rfl rfl ct_23 hv) ?_
        clear hs a hv
        intro a hs
        refine s_pure hs rfl rfl (by decide) (p_move rfl rfl) ?_
        clear hs a
        intro a hs
        obtain ⟨t49, rfl, h⟩ := h
        refine s_pure hs rfl rfl (by decide) (p_nil rfl rfl) ?_
        clear hs a
        intro a hs
        refine s_pure hs rfl rfl (by decide) (p_fieldAddr0 rfl rfl ft_92_0) ?_
        clear hs a
        intro a hs
        obtain ⟨t51, hv, h⟩ := h
        refine s_eff hs rfl rfl (by decide) (e_load rfl rfl ct_23 hv) ?_
        clear hs a hv
        intro a hs
        refine s_pure hs rfl rfl (by decide) (p_ne rfl rfl rfl) ?_
        clear hs a
        intro a hs
        refine hK8 _ _ ?_
        refine c_cond hs rfl (fun hb => ?_) (fun hb => ?_)
        · replace h := h.1 hb
          clear hb
          refine wp_seq_k fun K9 hK9 => ?_
          obtain ⟨w1, hw1, h⟩ := h
          refine d_start (S := Is w1) (ds := [15]) #[false, false, false, false, false, false, false, false, false, false, false, false, false, false, false, false, false, false] mixed rfl rfl ?_
          rw [← hw1]
          have hS := Is.intro w1
          clear hw1
          refine d_pure hs #[true, false, false, false, false, false, false, false, false, false, false, false, false, false, false, false, false, false] (i := 0) rfl rfl rfl (by decide) (by kernel_rfl) (tight_body (P := Try.prog) (fn := Try.f42)) (p_move rfl rfl) ?_
          clear hs a
          intro a hs
          refine d_pure hs #[true, true, false, false, false, false, false, false, false, false, false, false, false, false, false, false, false, false] (i := 1) rfl rfl rfl (by decide) (by kernel_rfl) (tight_body (P := Try.prog) (fn := Try.f42)) (p_move rfl rfl) ?_
          clear hs a
          intro a hs
          refine d_pure hs #[true, true, true, false, false, false, false, false, false, false, false, false, false, false, false, false, false, false] (i := 2) rfl rfl rfl (by decide) (by kernel_rfl) (tight_body (P := Try.prog) (fn := Try.f42)) (p_nil rfl rfl) ?_
          clear hs a
          intro a hs
          refine d_pure hs #[true, true, true, true, false, false, false, false, false, false, false, false, false, false, false, false, false, false] (i := 3) rfl rfl rfl (by decide) (by kernel_rfl) (tight_body (P := Try.prog) (fn := Try.f42)) (p_fieldAddr0 rfl rfl ft_92_0) ?_
          clear hs a
          intro a hs
          refine d_pure hs #[true, true, true, true, false, true, false, false, false, false, false, false, false, false, false, false, false, false] (i := 5) rfl rfl rfl (by decide) (by kernel_rfl) (tight_body (P := Try.prog) (fn := Try.f42)) (p_move rfl rfl) ?_
          clear hs a
          intro a hs
          refine d_pure hs #[true, true, true, true, false, true, true, false, false, false, false, false, false, false, false, false, false, false] (i := 6) rfl rfl rfl (by decide) (by kernel_rfl) (tight_body (P := Try.prog) (fn := Try.f42)) (p_nil rfl rfl) ?_
          clear hs a
          intro a hs
          refine d_pure hs #[true, true, true, true, false, true, true, true, false, false, false, false, false, false, false, false, false, false] (i := 7) rfl rfl rfl (by decide) (by kernel_rfl) (tight_body (P := Try.prog) (fn := Try.f42)) (p_fieldAddr rfl rfl ft_92_1) ?_
          clear hs a
          intro a hs
          refine d_pure hs #[true, true, true, true, false, true, true, true, false, true, false, false, false, false, false, false, false, false] (i := 9) rfl rfl rfl (by decide) (by kernel_rfl) (tight_body (P := Try.prog) (fn := Try.f42)) (p_move rfl rfl) ?_
          clear hs a
          intro a hs
          replace hs := hs.to (τ := [(53, (Sl.val (Sl.mk (some t10) 0 0))), (56, (.pointer (some t49))), (60, (.pointer (some (t49.add 1)))), (62, (.pointer (some t49)))]) ⟨rfl, rfl, rfl, rfl, trivial⟩
          refine d_pure hs #[true, true, true, true, false, true, true, true, false, true, true, false, false, false, false, false, false, false] (i := 10) rfl rfl rfl (by decide) (by kernel_rfl) (tight_body (P := Try.prog) (fn := Try.f42)) (p_nil rfl rfl) ?_
          clear hs a
          intro a hs
          refine d_pure hs #[true, true, true, true, false, true, true, true, false, true, true, true, false, false, false, false, false, false] (i := 11) rfl rfl rfl (by decide) (by kernel_rfl) (tight_body (P := Try.prog) (fn := Try.f42)) (p_fieldAddr rfl rfl ft_92_3) ?_
          clear hs a
          intro a hs
          refine d_pure hs #[true, true, true, true, false, true, true, true, false, true, true, true, false, false, false, false, true, false] (i := 16) rfl rfl rfl (by decide) (by kernel_rfl) (tight_body (P := Try.prog) (fn := Try.f42)) (p_assign rfl rfl) ?_
          clear hs a
          intro a hs
          obtain ⟨t57, hv, h⟩ := h
          refine d_read hs #[true, true, true, true, true, true, true, true, false, true, true, true, false, false, false, false, true, false] (i := 4) rfl rfl rfl (by decide) (by kernel_rfl) (by kernel_rfl) (tight_body (P := Try.prog) (fn := Try.f42)) hS (fun w h' => by have h1 := h'.out; subst h1; exact e_load rfl rfl ct_23 hv) ?_
          clear hs a hv
          intro a hs
          obtain ⟨t61, hv, h⟩ := h
          refine d_read hs #[true, true, true, true, true, true, true, true, true, true, true, true, false, false, false, false, true, false] (i := 8) rfl rfl rfl (by decide) (by kernel_rfl) (by kernel_rfl) (tight_body (P := Try.prog) (fn := Try.f42)) hS (fun w h' => by have h1 := h'.out; subst h1; exact e_load rfl rfl ct_23 hv) ?_
          clear hs a hv
          intro a hs
          obtain ⟨t65, hv, h⟩ := h
          refine d_read hs #[true, true, true, true, true, true, true, true, true, true, true, true, true, false, false, false, true, false] (i := 12) rfl rfl rfl (by decide) (by kernel_rfl) (by kernel_rfl) (tight_body (P := Try.prog) (fn := Try.f42)) hS (fun w h' => by have h1 := h'.out; subst h1; exact e_load rfl rfl ct_23 hv) ?_
          clear hs a hv
          intro a hs
          obtain ⟨t66, he, h⟩ := h
          refine d_pure hs #[true, true, true, true, true, true, true, true, true, true, true, true, true, true, false, false, true, false] (i := 13) rfl rfl rfl (by decide) (by kernel_rfl) (tight_body (P := Try.prog) (fn := Try.f42)) (Pure.int he (p_sub rfl rfl rfl)) ?_
          clear hs a he
          intro a hs
          refine d_pure hs #[true, true, true, true, true, true, true, true, true, true, true, true, true, true, true, false, true, false] (i := 14) rfl rfl rfl (by decide) (by kernel_rfl) (tight_body (P := Try.prog) (fn := Try.f42)) (e_build (cs := #[(.int .u64 t57), (.int .u64 t61), (.int .u64 0), (.int .u64 t66), (Sl.val ⟨none, 0, 0⟩)]) rfl zt_36 pl_36 rfl rfl) ?_
          clear hs a
          intro a hs
          replace hs := hs.to (τ := [(4, (Sl.val (Sl.mk (some t10) 0 0))), (67, (.agg #[(.int .u64 t57), (.int .u64 t61), (.int .u64 0), (.int .u64 t66), (Sl.val ⟨none, 0, 0⟩)]))]) ⟨rfl, rfl, trivial⟩
          refine d_all [15] (by kernel_rfl) (by decide) ?_
          refine AllS.cons ?_ AllS.nil
          obtain ⟨ct68, hb, t68, w1, ha, hw, h⟩ := h
          refine d_eff hs #[true, true, true, true, true, true, true, true, true, true, true, true, true, true, true, true, true, false] (i := 15) rfl rfl rfl (by decide) rfl (e_buildSlice (z := #[(.int .u64 0), (.int .u64 0), (.int .u64 0), (.int .u64 0), (Sl.val ⟨none, 0, 0⟩)]) rfl sl_60 zt_36 (by decide) rfl rz_36_1 hb ha hw) (fun hn => (hn (by decide)).elim) ?_
          clear hs a hb ha hw
          intro a hs
          refine d_pure hs #[true, true, true, true, true, true, true, true, true, true, true, true, true, true, true, true, true, true] (i := 17) rfl rfl rfl (by decide) (by kernel_rfl) (tight_body (P := Try.prog) (fn := Try.f42)) (p_assign rfl rfl) ?_
          clear hs a
          intro a hs
          refine d_done (by kernel_rfl) ?_ _
          clear hS
          refine hK9 _ _ ?_
          refine wp_ret ?_
          refine f_ret (fn := Try.f42) hs (fun a hs => r_many hs (rs := [ResultVar.tmp 4, ResultVar.tmp 5]) (vs := [(Sl.val (Sl.mk (some t10) 0 0)), (Sl.val (Sl.mk (some t68) 1 1))]) rfl (by decide) ⟨rfl, rfl, trivial⟩) ⟨(Sl.mk (some t10) 0 0), (Sl.mk (some t68) 1 1), rfl, h⟩
        · replace h := h.2 hb
          clear hb
          refine wp_skip ?_
          refine hK7 _ _ ?_
          refine wp_seq_k fun K10 hK10 => ?_
          refine wp_block ?_
          obtain ⟨I3, μ3, h0, hr⟩ := h
          refine c_loop (α := Unit) I3 μ3 (fun x a => Slots a 212 [(0, (.pointer (some t49))), (3, (.pointer (some p3))), (6, (Sl.val (Sl.mk (some t9) 0 0))), (7, (Sl.val (Sl.mk (some t10) 0 0)))]) () h0 (hs.to ⟨rfl, rfl, rfl, rfl, trivial⟩) ?_
          clear h0 hs a
          intro x0_3 a w hI hs
          have h : ref19_Link_Receive.b3 Q (fun w' => I3 () w' ∧ μ3 () w' < μ3 x0_3 w) t49 p3 (Sl.mk (some t9) 0 0) (Sl.mk (some t10) 0 0) w := hr x0_3 w hI
          clear hr hI
          generalize hX3 : (fun w' => I3 () w' ∧ μ3 () w' < μ3 x0_3 w) = X3 at h
          unfold ref19_Link_Receive.b3 at h
          replace hs : Slots a 212 [(0, (.pointer (some t49))), (3, (.pointer (some p3))), (6, (Sl.val (Sl.mk (some t9) 0 0))), (7, (Sl.val (Sl.mk (some t10) 0 0)))] := hs
          refine wp_seq_k fun K11 hK11 => ?_
          refine wp_seq_k fun K12 hK12 => ?_
          have J4 : ∀ (t83_4 : Bool) (a : Act) (w : World), Slots a 212 [(0, (.pointer (some t49))), (3, (.pointer (some p3))), (6, (Sl.val (Sl.mk (some t9) 0 0))), (7, (Sl.val (Sl.mk (some t10) 0 0))), (83, (.bool t83_4))] → ref19_Link_Receive.s4 Q X3 t49 p3 (Sl.mk (some t9) 0 0) (Sl.mk (some t10) 0 0) t83_4 w → K12 a w := by
            clear h hs
            intro t83_4 a w hs h
            refine hK12 _ _ ?_
            unfold ref19_Link_Receive.s4 at h
            refine c_cond hs rfl (fun hb => ?_) (fun hb => ?_)
            · replace h := h.1 hb
              clear hb
              refine wp_skip ?_
              refine hK11 _ _ ?_
              refine wp_block ?_
              refine wp_seq_k fun K13 hK13 => ?_
              refine wp_region_lit ?_
              refine t_pure hs rfl rfl (by decide) (p_move rfl rfl) ?_
              clear hs a
              intro a hs
              refine t_pure hs rfl rfl (by decide) (p_move rfl rfl) ?_
              clear hs a
              intro a hs
              refine t_pure hs rfl rfl (by decide) (p_nil rfl rfl) ?_
              clear hs a
              intro a hs
              refine t_pure hs rfl rfl (by decide) (p_fieldAddr rfl rfl ft_92_4) ?_
              clear hs a
              intro a hs
              obtain ⟨t88, hv, h⟩ := h
              refine t_eff hs rfl rfl (by decide) (e_load rfl rfl ct_56 hv) ?_
              clear hs a hv
              intro a hs
              obtain ⟨t89, h0, h1, h2, h3, he, h⟩ := h
              refine t_pure hs rfl rfl (by decide) (Pure.sl he (p_slc rfl rfl sl_56 ⟨_, rfl⟩ rfl rfl (by decide) h0 h1 h2 h3)) ?_
              clear hs a h0 h1 h2 h3 he
              intro a hs
              refine t_pure hs rfl rfl (by decide) (p_nil rfl rfl) ?_
              clear hs a
              intro a hs
              refine t_pure hs rfl rfl (by decide) (p_fieldAddr rfl rfl ft_92_4) ?_
              clear hs a
              intro a hs
              replace hs := hs.to (τ := [(0, (.pointer (some t49))), (3, (.pointer (some p3))), (6, (Sl.val (Sl.mk (some t9) 0 0))), (7, (Sl.val (Sl.mk (some t10) 0 0))), (89, (Sl.val t89)), (91, (.pointer (some (t49.add 4))))]) ⟨rfl, rfl, rfl, rfl, rfl, rfl, trivial⟩
              obtain ⟨w1, hw, hc, hf, hv, h⟩ := h
              refine t_skip hs rfl rfl (e_store rfl rfl rfl sz_56 hw hc hf hv) ?_
              clear hs a hw hc hf hv
              intro a hs
              refine hK13 _ _ ?_
              refine wp_region_lit ?_
              refine t_pure hs rfl rfl (by decide) (p_move rfl rfl) ?_
              clear hs a
              intro a hs
              refine t_pure hs rfl rfl (by decide) (p_nil rfl rfl) ?_
              clear hs a
              intro a hs
              refine t_pure hs rfl rfl (by decide) (p_fieldAddr rfl rfl ft_92_2) ?_
              clear hs a
              intro a hs
              obtain ⟨t95, hv, h⟩ := h
              refine t_eff hs rfl rfl (by decide) (e_load rfl rfl ct_23 hv) ?_
              clear hs a hv
              intro a hs
              obtain ⟨t96, he, h⟩ := h
              refine t_pure hs rfl rfl (by decide) (Pure.int he (p_add rfl rfl rfl)) ?_
              clear hs a he
              intro a hs
              refine t_pure hs rfl rfl (by decide) (p_nil rfl rfl) ?_
              clear hs a
              intro a hs
              refine t_pure hs rfl rfl (by decide) (p_fieldAddr rfl rfl ft_92_2) ?_
              clear hs a
              intro a hs
              obtain ⟨w1, hw, hc, hf, hv, h⟩ := h
              refine t_skip hs rfl rfl (e_store rfl rfl rfl sz_23 hw hc hf hv) ?_
              clear hs a hw hc hf hv
              intro a hs
              rw [← hX3] at h
              exact ⟨(), hs.to ⟨rfl, rfl, rfl, rfl, trivial⟩, h⟩
            · replace h := h.2 hb
              clear hb
              refine wp_exit ?_
              refine hK10 _ _ ?_
              refine wp_seq_k fun K14 hK14 => ?_
              refine wp_seq_k fun K15 hK15 => ?_
              refine wp_region_lit ?_
              refine t_pure hs rfl rfl (by decide) (p_fieldAddr rfl rfl ft_36_2) ?_
              clear hs a
              intro a hs
              obtain ⟨t100, hv, h⟩ := h
              refine t_eff hs rfl rfl (by decide) (e_load rfl rfl ct_23 hv) ?_
              clear hs a hv
              intro a hs
              refine t_pure hs rfl rfl (by decide) (p_eq rfl rfl rfl) ?_
              clear hs a
              intro a hs
              refine hK15 _ _ ?_
              refine c_cond hs rfl (fun hb => ?_) (fun hb => ?_)
              · replace h := h.1 hb
                clear hb
                refine wp_seq_k fun K16 hK16 => ?_
                refine wp_region_lit ?_
                refine t_pure hs rfl rfl (by decide) (p_move rfl rfl) ?_
                clear hs a
                intro a hs
                refine t_pure hs rfl rfl (by decide) (p_move rfl rfl) ?_
                clear hs a
                intro a hs
                refine t_pure hs rfl rfl (by decide) (p_assign rfl rfl) ?_
                clear hs a
                intro a hs
                refine t_pure hs rfl rfl (by decide) (p_assign rfl rfl) ?_
                clear hs a
                intro a hs
                refine hK16 _ _ ?_
                refine wp_ret ?_
                refine f_ret (fn := Try.f42) hs (fun a hs => r_many hs (rs := [ResultVar.tmp 4, ResultVar.tmp 5]) (vs := [(Sl.val (Sl.mk (some t10) 0 0)), (Sl.val (Sl.mk (some t9) 0 0))]) rfl (by decide) ⟨rfl, rfl, trivial⟩) ⟨(Sl.mk (some t10) 0 0), (Sl.mk (some t9) 0 0), rfl, h⟩
              · replace h := h.2 hb
                clear hb
                refine wp_skip ?_
                refine hK14 _ _ ?_
                refine wp_seq_k fun K17 hK17 => ?_
                have J5 : ∀ (a : Act) (w : World), Slots a 212 [(0, (.pointer (some t49))), (7, (Sl.val (Sl.mk (some t10) 0 0)))] → ref19_Link_Receive.s5 Q X3 t49 (Sl.mk (some t10) 0 0) w → K17 a w := by
                  clear h hs
                  intro a w hs h
                  refine hK17 _ _ ?_
                  unfold ref19_Link_Receive.s5 at h
                  refine wp_seq_k fun K18 hK18 => ?_
                  refine wp_block ?_
                  obtain ⟨I6, μ6, h0, hr⟩ := h
                  refine c_loop (α := Sl) I6 μ6 (fun x a => Slots a 212 [(0, (.pointer (some t49))), (7, (Sl.val x))]) (Sl.mk (some t10) 0 0) h0 (hs.to ⟨rfl, rfl, trivial⟩) ?_
                  clear h0 hs a
                  intro came7_6 a w hI hs
                  have h : ref19_Link_Receive.b6 Q X3 (fun came7_6n w' => I6 came7_6n w' ∧ μ6 came7_6n w' < μ6 came7_6 w) t49 came7_6 w := hr came7_6 w hI
                  clear hr hI
                  generalize hX6 : (fun came7_6n w' => I6 came7_6n w' ∧ μ6 came7_6n w' < μ6 came7_6 w) = X6 at h
                  unfold ref19_Link_Receive.b6 at h
                  replace hs : Slots a 212 [(0, (.pointer (some t49))), (7, (Sl.val came7_6))] := hs
                  refine wp_seq_k fun K19 hK19 => ?_
                  refine wp_seq_k fun K20 hK20 => ?_
                  refine wp_region_lit ?_
                  refine t_pure hs rfl rfl (by decide) (p_move rfl rfl) ?_
                  clear hs a
                  intro a hs
                  refine t_pure hs rfl rfl (by decide) (p_move rfl rfl) ?_
                  clear hs a
                  intro a hs
                  refine t_pure hs rfl rfl (by decide) (p_nil rfl rfl) ?_
                  clear hs a
                  intro a hs
                  refine t_pure hs rfl rfl (by decide) (p_fieldAddr rfl rfl ft_92_3) ?_
                  clear hs a
                  intro a hs
                  obtain ⟨t150, hv, h⟩ := h
                  refine t_eff hs rfl rfl (by decide) (e_load rfl rfl ct_23 hv) ?_
                  clear hs a hv
                  intro a hs
                  refine t_call hs rfl rfl (by decide) (e_call rfl rfl rfl cb_57) h ?_
                  clear hs a h
                  intro v a w hk hs
                  obtain ⟨t151, rfl, h⟩ := hk
                  refine t_pure hs rfl rfl (by decide) (p_ge rfl rfl rfl) ?_
                  clear hs a
                  intro a hs
                  refine hK20 _ _ ?_
                  refine c_cond hs rfl (fun hb => ?_) (fun hb => ?_)
                  · replace h := h.1 hb
                    clear hb
                    refine wp_skip ?_
                    refine hK19 _ _ ?_
                    refine wp_block ?_
                    refine wp_seq_k fun K21 hK21 => ?_
                    refine wp_region_lit ?_
                    refine t_pure hs rfl rfl (by decide) (p_move rfl rfl) ?_
                    clear hs a
                    intro a hs
                    refine t_pure hs rfl rfl (by decide) (p_move rfl rfl) ?_
                    clear hs a
                    intro a hs
                    refine t_pure hs rfl rfl (by decide) (p_nil rfl rfl) ?_
                    clear hs a
                    intro a hs
                    refine t_pure hs rfl rfl (by decide) (p_fieldAddr rfl rfl ft_92_3) ?_
                    clear hs a
                    intro a hs
                    obtain ⟨t157, hv, h⟩ := h
                    refine t_eff hs rfl rfl (by decide) (e_load rfl rfl ct_23 hv) ?_
                    clear hs a hv
                    intro a hs
                    refine t_call hs rfl rfl (by decide) (e_call rfl rfl rfl cb_57) h ?_
                    clear hs a h
                    intro v a w hk hs
                    obtain ⟨t158, rfl, h⟩ := hk
                    refine t_pure hs rfl rfl (by decide) (p_assign rfl rfl) ?_
                    clear hs a
                    intro a hs
                    refine hK21 _ _ ?_
                    refine wp_seq_k fun K22 hK22 => ?_
                    refine wp_region_lit ?_
                    refine t_pure hs rfl rfl (by decide) (p_move rfl rfl) ?_
                    clear hs a
                    intro a hs
                    refine t_pure hs rfl rfl (by decide) (p_move rfl rfl) ?_
                    clear hs a
                    intro a hs
                    refine t_pure hs rfl rfl (by decide) (p_nil rfl rfl) ?_
                    clear hs a
                    intro a hs
                    refine t_pure hs rfl rfl (by decide) (p_fieldAddr rfl rfl ft_92_5) ?_
                    clear hs a
                    intro a hs
                    obtain ⟨t163, hv, h⟩ := h
                    refine t_eff hs rfl rfl (by decide) (e_load rfl rfl ct_90 hv) ?_
                    clear hs a hv
                    intro a hs
                    refine t_pure hs rfl rfl (by decide) (p_move rfl rfl) ?_
                    clear hs a
                    intro a hs
                    obtain ⟨qt165, t165, ha, h0, h1, he, h⟩ := h
                    refine t_pure hs rfl rfl (by decide) (Pure.adr he (p_idx rfl rfl rfl sl_90 ha h0 h1)) ?_
                    clear hs a ha h0 h1 he
                    intro a hs
                    refine t_pure hs rfl rfl (by decide) (p_fieldAddr rfl rfl ft_113_1) ?_
                    clear hs a
                    intro a hs
                    replace hs := hs.to (τ := [(0, (.pointer (some t49))), (8, (.int .i64 t158)), (159, (Sl.val came7_6)), (166, (.pointer (some (t165.add 1))))]) ⟨rfl, rfl, rfl, rfl, trivial⟩
                    obtain ⟨t167, hv, h⟩ := h
                    refine t_eff hs rfl rfl (by decide) (e_load rfl rfl ct_22 hv) ?_
                    clear hs a hv
                    intro a hs
                    obtain ⟨t168, w1, ha, hw, h⟩ := h
                    refine t_eff hs rfl rfl (by decide) (e_buildSlice (z := #[(Sl.val ⟨none, 0, 0⟩)]) (cs := #[(Sl.val t167)]) rfl sl_56 zt_22 (by decide) rfl rz_22_1 (by rfl) ha hw) ?_
                    clear hs a ha hw
                    intro a hs
                    obtain ⟨t169, w1, hd, h⟩ := h
                    refine t_eff hs rfl rfl (by decide) (e_append rfl rfl rfl rfl hd) ?_
                    clear hs a hd
                    intro a hs
                    refine t_pure hs rfl rfl (by decide) (p_assign rfl rfl) ?_
                    clear hs a
                    intro a hs
                    refine hK22 _ _ ?_
                    refine wp_seq_k fun K23 hK23 => ?_
                    obtain ⟨w1, hw1, h⟩ := h
                    obtain ⟨S, hS, h⟩ := h
                    subst hw1
                    refine d_start (S := S) (ds := [16, 19]) #[false, false, false, false, false, false, false, false, false, false, false, false, false, false, false, false, false, false, false, false] mixed rfl rfl ?_
                    refine d_pure hs #[true, false, false, false, false, false, false, false, false, false, false, false, false, false, false, false, false, false, false, false] (i := 0) rfl rfl rfl (by decide) (by kernel_rfl) (tight_body (P := Try.prog) (fn := Try.f42)) (p_move rfl rfl) ?_
                    clear hs a
                    intro a hs
                    refine d_pure hs #[true, false, true, false, false, false, false, false, false, false, false, false, false, false, false, false, false, false, false, false] (i := 2) rfl rfl rfl (by decide) (by kernel_rfl) (tight_body (P := Try.prog) (fn := Try.f42)) (p_move rfl rfl) ?_
                    clear hs a
                    intro a hs
                    refine d_pure hs #[true, false, true, true, false, false, false, false, false, false, false, false, false, false, false, false, false, false, false, false] (i := 3) rfl rfl rfl (by decide) (by kernel_rfl) (tight_body (P := Try.prog) (fn := Try.f42)) (p_nil rfl rfl) ?_
                    clear hs a
                    intro a hs
                    refine d_pure hs #[true, false, true, true, true, false, false, false, false, false, false, false, false, false, false, false, false, false, false, false] (i := 4) rfl rfl rfl (by decide) (by kernel_rfl) (tight_body (P := Try.prog) (fn := Try.f42)) (p_fieldAddr rfl rfl ft_92_5) ?_
                    clear hs a
                    intro a hs
                    refine d_pure hs #[true, false, true, true, true, false, true, false, false, false, false, false, false, false, false, false, false, false, false, false] (i := 6) rfl rfl rfl (by decide) (by kernel_rfl) (tight_body (P := Try.prog) (fn := Try.f42)) (p_move rfl rfl) ?_
                    clear hs a
                    intro a hs
                    refine d_pure hs #[true, false, true, true, true, false, true, false, false, true, false, false, false, false, false, false, false, false, false, false] (i := 9) rfl rfl rfl (by decide) (by kernel_rfl) (tight_body (P := Try.prog) (fn := Try.f42)) (p_move rfl rfl) ?_
                    clear hs a
                    intro a hs
                    refine d_pure hs #[true, false, true, true, true, false, true, false, false, true, true, false, false, false, false, false, false, false, false, false] (i := 10) rfl rfl rfl (by decide) (by kernel_rfl) (tight_body (P := Try.prog) (fn := Try.f42)) (p_nil rfl rfl) ?_
                    clear hs a
                    intro a hs
                    refine d_pure hs #[true, false, true, true, true, false, true, false, false, true, true, true, false, false, false, false, false, false, false, false] (i := 11) rfl rfl rfl (by decide) (by kernel_rfl) (tight_body (P := Try.prog) (fn := Try.f42)) (p_fieldAddr rfl rfl ft_92_5) ?_
                    clear hs a
                    intro a hs
                    replace hs := hs.to (τ := [(0, (.pointer (some t49))), (7, (Sl.val t169)), (8, (.int .i64 t158)), (170, (.pointer (some t49))), (174, (.pointer (some (t49.add 5)))), (176, (.int .i64 t158)), (181, (.pointer (some (t49.add 5))))]) ⟨rfl, rfl, rfl, rfl, rfl, rfl, rfl, trivial⟩
                    refine d_pure hs #[true, false, true, true, true, false, true, false, false, true, true, true, false, true, false, false, false, false, false, false] (i := 13) rfl rfl rfl (by decide) (by kernel_rfl) (tight_body (P := Try.prog) (fn := Try.f42)) (p_move rfl rfl) ?_
                    clear hs a
                    intro a hs
                    obtain ⟨t184, he, h⟩ := h
                    refine d_pure hs #[true, false, true, true, true, false, true, false, false, true, true, true, false, true, true, false, false, false, false, false] (i := 14) rfl rfl rfl (by decide) (by kernel_rfl) (tight_body (P := Try.prog) (fn := Try.f42)) (Pure.int he (p_add rfl rfl rfl)) ?_
                    clear hs a he
                    intro a hs
                    obtain ⟨t175, hv, h⟩ := h
                    refine d_read hs #[true, false, true, true, true, true, true, false, false, true, true, true, false, true, true, false, false, false, false, false] (i := 5) rfl rfl rfl (by decide) (by kernel_rfl) (by kernel_rfl) (tight_body (P := Try.prog) (fn := Try.f42)) hS (fun w h' => e_load rfl rfl ct_90 (hv w h')) ?_
                    clear hs a hv
                    intro a hs
                    obtain ⟨t177, h0, h1, h2, h3, he, h⟩ := h
                    refine d_pure hs #[true, false, true, true, true, true, true, true, false, true, true, true, false, true, true, false, false, false, false, false] (i := 7) rfl rfl rfl (by decide) (by kernel_rfl) (tight_body (P := Try.prog) (fn := Try.f42)) (Pure.sl he (p_slc rfl rfl sl_90 rfl ⟨_, rfl⟩ rfl (by decide) h0 h1 h2 h3)) ?_
                    clear hs a h0 h1 h2 h3 he
                    intro a hs
                    obtain ⟨t182, hv, h⟩ := h
                    refine d_read hs #[true, false, true, true, true, true, true, true, false, true, true, true, true, true, true, false, false, false, false, false] (i := 12) rfl rfl rfl (by decide) (by kernel_rfl) (by kernel_rfl) (tight_body (P := Try.prog) (fn := Try.f42)) hS (fun w h' => e_load rfl rfl ct_90 (hv w h')) ?_
                    clear hs a hv
                    intro a hs
                    obtain ⟨t185, h0, h1, h2, h3, he, h⟩ := h
                    refine d_pure hs #[true, false, true, true, true, true, true, true, false, true, true, true, true, true, true, true, false, false, false, false] (i := 15) rfl rfl rfl (by decide) (by kernel_rfl) (tight_body (P := Try.prog) (fn := Try.f42)) (Pure.sl he (p_slc rfl rfl sl_90 ⟨_, rfl⟩ rfl rfl (by decide) h0 h1 h2 h3)) ?_
                    clear hs a h0 h1 h2 h3 he
                    intro a hs
                    refine d_all [1] (by kernel_rfl) (by decide) ?_
                    refine AllS.cons ?_ AllS.nil
                    obtain ⟨t171, w1, ha, hw, h⟩ := h
                    obtain ⟨hS, h⟩ := h
                    refine d_eff hs #[true, true, true, true, true, true, true, true, false, true, true, true, true, true, true, true, false, false, false, false] (i := 1) rfl rfl rfl (by decide) rfl (e_buildSlice (z := #[]) (cs := #[]) rfl sl_90 zt_113 (by decide) rfl rz_113_0 (by rfl) ha hw) (fun _ _ => hS) ?_
                    clear hs a ha hw
                    intro a hs
                    refine d_all [8] (by kernel_rfl) (by decide) ?_
                    refine AllS.cons ?_ AllS.nil
                    obtain ⟨t178, w1, hd, h⟩ := h
                    obtain ⟨hS, h⟩ := h
                    refine d_eff hs #[true, true, true, true, true, true, true, true, true, true, true, true, true, true, true, true, false, false, false, false] (i := 8) rfl rfl rfl (by decide) rfl (e_append rfl rfl rfl rfl hd) (fun _ _ => hS) ?_
                    clear hs a hd
                    intro a hs
                    replace hs := hs.to (τ := [(0, (.pointer (some t49))), (7, (Sl.val t169)), (170, (.pointer (some t49))), (178, (Sl.val t178)), (185, (Sl.val t185))]) ⟨rfl, rfl, rfl, rfl, rfl, trivial⟩
                    refine d_all [16] (by kernel_rfl) (by decide) ?_
                    refine AllS.cons ?_ AllS.nil
                    obtain ⟨t186, w1, hd, h⟩ := h
                    refine d_eff hs #[true, true, true, true, true, true, true, true, true, true, true, true, true, true, true, true, true, false, false, false] (i := 16) rfl rfl rfl (by decide) rfl (e_append rfl rfl rfl rfl hd) (fun hn => (hn (by decide)).elim) ?_
                    clear hs a hd
                    intro a hs
                    refine d_pure hs #[true, true, true, true, true, true, true, true, true, true, true, true, true, true, true, true, true, true, false, false] (i := 17) rfl rfl rfl (by decide) (by kernel_rfl) (tight_body (P := Try.prog) (fn := Try.f42)) (p_nil rfl rfl) ?_
                    clear hs a
                    intro a hs
                    refine d_pure hs #[true, true, true, true, true, true, true, true, true, true, true, true, true, true, true, true, true, true, true, false] (i := 18) rfl rfl rfl (by decide) (by kernel_rfl) (tight_body (P := Try.prog) (fn := Try.f42)) (p_fieldAddr rfl rfl ft_92_5) ?_
                    clear hs a
                    intro a hs
                    refine d_all [19] (by kernel_rfl) (by decide) ?_
                    refine AllS.cons ?_ AllS.nil
                    obtain ⟨w1, hw, hc, hf, hv, h⟩ := h
                    refine d_skip hs #[true, true, true, true, true, true, true, true, true, true, true, true, true, true, true, true, true, true, true, true] (i := 19) rfl rfl rfl rfl (e_store rfl rfl rfl sz_90 hw hc hf hv) (fun hn => (hn (by decide)).elim) ?_
                    clear hs a hw hc hf hv
                    intro a hs
                    refine d_done (by kernel_rfl) ?_ _
                    clear hS
                    refine hK23 _ _ ?_
                    refine wp_region_lit ?_
                    refine t_pure hs rfl rfl (by decide) (p_move rfl rfl) ?_
                    clear hs a
                    intro a hs
                    refine t_pure hs rfl rfl (by decide) (p_nil rfl rfl) ?_
                    clear hs a
                    intro a hs
                    refine t_pure hs rfl rfl (by decide) (p_fieldAddr rfl rfl ft_92_3) ?_
                    clear hs a
                    intro a hs
                    obtain ⟨t192, hv, h⟩ := h
                    refine t_eff hs rfl rfl (by decide) (e_load rfl rfl ct_23 hv) ?_
                    clear hs a hv
                    intro a hs
                    obtain ⟨t193, he, h⟩ := h
                    refine t_pure hs rfl rfl (by decide) (Pure.int he (p_add rfl rfl rfl)) ?_
                    clear hs a he
                    intro a hs
                    refine t_pure hs rfl rfl (by decide) (p_nil rfl rfl) ?_
                    clear hs a
                    intro a hs
                    refine t_pure hs rfl rfl (by decide) (p_fieldAddr rfl rfl ft_92_3) ?_
                    clear hs a
                    intro a hs
                    obtain ⟨w1, hw, hc, hf, hv, h⟩ := h
                    refine t_skip hs rfl rfl (e_store rfl rfl rfl sz_23 hw hc hf hv) ?_
                    clear hs a hw hc hf hv
                    intro a hs
                    rw [← hX6] at h
                    exact ⟨t169, hs.to ⟨rfl, rfl, trivial⟩, h⟩
                  · replace h := h.2 hb
                    clear hb
                    refine wp_exit ?_
                    refine hK18 _ _ ?_
                    refine wp_seq_k fun K24 hK24 => ?_
                    obtain ⟨w1, hw1, h⟩ := h
                    refine d_start (S := Is w1) (ds := [15]) #[false, false, false, false, false, false, false, false, false, false, false, false, false, false, false, false, false, false] mixed rfl rfl ?_
                    rw [← hw1]
                    have hS := Is.intro w1
                    clear hw1
                    refine d_pure hs #[true, false, false, false, false, false, false, false, false, false, false, false, false, false, false, false, false, false] (i := 0) rfl rfl rfl (by decide) (by kernel_rfl) (tight_body (P := Try.prog) (fn := Try.f42)) (p_move rfl rfl) ?_
                    clear hs a
                    intro a hs
                    refine d_pure hs #[true, true, false, false, false, false, false, false, false, false, false, false, false, false, false, false, false, false] (i := 1) rfl rfl rfl (by decide) (by kernel_rfl) (tight_body (P := Try.prog) (fn := Try.f42)) (p_move rfl rfl) ?_
                    clear hs a
                    intro a hs
                    refine d_pure hs #[true, true, true, false, false, false, false, false, false, false, false, false, false, false, false, false, false, false] (i := 2) rfl rfl rfl (by decide) (by kernel_rfl) (tight_body (P := Try.prog) (fn := Try.f42)) (p_nil rfl rfl) ?_
                    clear hs a
                    intro a hs
                    refine d_pure hs #[true, true, true, true, false, false, false, false, false, false, false, false, false, false, false, false, false, false] (i := 3) rfl rfl rfl (by decide) (by kernel_rfl) (tight_body (P := Try.prog) (fn := Try.f42)) (p_fieldAddr0 rfl rfl ft_92_0) ?_
                    clear hs a
                    intro a hs
                    refine d_pure hs #[true, true, true, true, false, true, false, false, false, false, false, false, false, false, false, false, false, false] (i := 5) rfl rfl rfl (by decide) (by kernel_rfl) (tight_body (P := Try.prog) (fn := Try.f42)) (p_move rfl rfl) ?_
                    clear hs a
                    intro a hs
                    refine d_pure hs #[true, true, true, true, false, true, true, false, false, false, false, false, false, false, false, false, false, false] (i := 6) rfl rfl rfl (by decide) (by kernel_rfl) (tight_body (P := Try.prog) (fn := Try.f42)) (p_nil rfl rfl) ?_
                    clear hs a
                    intro a hs
                    refine d_pure hs #[true, true, true, true, false, true, true, true, false, false, false, false, false, false, false, false, false, false] (i := 7) rfl rfl rfl (by decide) (by kernel_rfl) (tight_body (P := Try.prog) (fn := Try.f42)) (p_fieldAddr rfl rfl ft_92_1) ?_
                    clear hs a
                    intro a hs
                    refine d_pure hs #[true, true, true, true, false, true, true, true, false, true, false, false, false, false, false, false, false, false] (i := 9) rfl rfl rfl (by decide) (by kernel_rfl) (tight_body (P := Try.prog) (fn := Try.f42)) (p_move rfl rfl) ?_
                    clear hs a
                    intro a hs
                    replace hs := hs.to (τ := [(196, (Sl.val came7_6)), (199, (.pointer (some t49))), (203, (.pointer (some (t49.add 1)))), (205, (.pointer (some t49)))]) ⟨rfl, rfl, rfl, rfl, trivial⟩
                    refine d_pure hs #[true, true, true, true, false, true, true, true, false, true, true, false, false, false, false, false, false, false] (i := 10) rfl rfl rfl (by decide) (by kernel_rfl) (tight_body (P := Try.prog) (fn := Try.f42)) (p_nil rfl rfl) ?_
                    clear hs a
                    intro a hs
                    refine d_pure hs #[true, true, true, true, false, true, true, true, false, true, true, true, false, false, false, false, false, false] (i := 11) rfl rfl rfl (by decide) (by kernel_rfl) (tight_body (P := Try.prog) (fn := Try.f42)) (p_fieldAddr rfl rfl ft_92_3) ?_
                    clear hs a
                    intro a hs
                    refine d_pure hs #[true, true, true, true, false, true, true, true, false, true, true, true, false, false, false, false, true, false] (i := 16) rfl rfl rfl (by decide) (by kernel_rfl) (tight_body (P := Try.prog) (fn := Try.f42)) (p_assign rfl rfl) ?_
                    clear hs a
                    intro a hs
                    obtain ⟨t200, hv, h⟩ := h
                    refine d_read hs #[true, true, true, true, true, true, true, true, false, true, true, true, false, false, false, false, true, false] (i := 4) rfl rfl rfl (by decide) (by kernel_rfl) (by kernel_rfl) (tight_body (P := Try.prog) (fn := Try.f42)) hS (fun w h' => by have h1 := h'.out; subst h1; exact e_load rfl rfl ct_23 hv) ?_
                    clear hs a hv
                    intro a hs
                    obtain ⟨t204, hv, h⟩ := h
                    refine d_read hs #[true, true, true, true, true, true, true, true, true, true, true, true, false, false, false, false, true, false] (i := 8) rfl rfl rfl (by decide) (by kernel_rfl) (by kernel_rfl) (tight_body (P := Try.prog) (fn := Try.f42)) hS (fun w h' => by have h1 := h'.out; subst h1; exact e_load rfl rfl ct_23 hv) ?_
                    clear hs a hv
                    intro a hs
                    obtain ⟨t208, hv, h⟩ := h
                    refine d_read hs #[true, true, true, true, true, true, true, true, true, true, true, true, true, false, false, false, true, false] (i := 12) rfl rfl rfl (by decide) (by kernel_rfl) (by kernel_rfl) (tight_body (P := Try.prog) (fn := Try.f42)) hS (fun w h' => by have h1 := h'.out; subst h1; exact e_load rfl rfl ct_23 hv) ?_
                    clear hs a hv
                    intro a hs
                    obtain ⟨t209, he, h⟩ := h
                    refine d_pure hs #[true, true, true, true, true, true, true, true, true, true, true, true, true, true, false, false, true, false] (i := 13) rfl rfl rfl (by decide) (by kernel_rfl) (tight_body (P := Try.prog) (fn := Try.f42)) (Pure.int he (p_sub rfl rfl rfl)) ?_
                    clear hs a he
                    intro a hs
                    refine d_pure hs #[true, true, true, true, true, true, true, true, true, true, true, true, true, true, true, false, true, false] (i := 14) rfl rfl rfl (by decide) (by kernel_rfl) (tight_body (P := Try.prog) (fn := Try.f42)) (e_build (cs := #[(.int .u64 t200), (.int .u64 t204), (.int .u64 0), (.int .u64 t209), (Sl.val ⟨none, 0, 0⟩)]) rfl zt_36 pl_36 rfl rfl) ?_
                    clear hs a
                    intro a hs
                    replace hs := hs.to (τ := [(4, (Sl.val came7_6)), (210, (.agg #[(.int .u64 t200), (.int .u64 t204), (.int .u64 0), (.int .u64 t209), (Sl.val ⟨none, 0, 0⟩)]))]) ⟨rfl, rfl, trivial⟩
                    refine d_all [15] (by kernel_rfl) (by decide) ?_
                    refine AllS.cons ?_ AllS.nil
                    obtain ⟨ct211, hb, t211, w1, ha, hw, h⟩ := h
                    refine d_eff hs #[true, true, true, true, true, true, true, true, true, true, true, true, true, true, true, true, true, false] (i := 15) rfl rfl rfl (by decide) rfl (e_buildSlice (z := #[(.int .u64 0), (.int .u64 0), (.int .u64 0), (.int .u64 0), (Sl.val ⟨none, 0, 0⟩)]) rfl sl_60 zt_36 (by decide) rfl rz_36_1 hb ha hw) (fun hn => (hn (by decide)).elim) ?_
                    clear hs a hb ha hw
                    intro a hs
                    refine d_pure hs #[true, true, true, true, true, true, true, true, true, true, true, true, true, true, true, true, true, true] (i := 17) rfl rfl rfl (by decide) (by kernel_rfl) (tight_body (P := Try.prog) (fn := Try.f42)) (p_assign rfl rfl) ?_
                    clear hs a
                    intro a hs
                    refine d_done (by kernel_rfl) ?_ _
                    clear hS
                    refine hK24 _ _ ?_
                    refine wp_ret ?_
                    refine f_ret (fn := Try.f42) hs (fun a hs => r_many hs (rs := [ResultVar.tmp 4, ResultVar.tmp 5]) (vs := [(Sl.val came7_6), (Sl.val (Sl.mk (some t211) 1 1))]) rfl (by decide) ⟨rfl, rfl, trivial⟩) ⟨came7_6, (Sl.mk (some t211) 1 1), rfl, h⟩
                clear hK17
                refine wp_seq_k fun K25 hK25 => ?_
                have J7 : ∀ (t127_7 : Bool) (a : Act) (w : World), Slots a 212 [(0, (.pointer (some t49))), (3, (.pointer (some p3))), (7, (Sl.val (Sl.mk (some t10) 0 0))), (127, (.bool t127_7))] → ref19_Link_Receive.s7 Q X3 t49 p3 (Sl.mk (some t10) 0 0) t127_7 w → K25 a w := by
                  clear h hs
                  intro t127_7 a w hs h
                  refine hK25 _ _ ?_
                  unfold ref19_Link_Receive.s7 at h
                  refine c_cond hs rfl (fun hb => ?_) (fun hb => ?_)
                  · replace h := h.1 hb
                    clear hb
                    obtain ⟨w1, hw1, h⟩ := h
                    obtain ⟨S, hS, h⟩ := h
                    subst hw1
                    refine d_start (S := S) (ds := [14, 15, 18]) #[false, false, false, false, false, false, false, false, false, false, false, false, false, false, false, false, false, false, false] mixed rfl rfl ?_
                    refine d_pure hs #[true, false, false, false, false, false, false, false, false, false, false, false, false, false, false, false, false, false, false] (i := 0) rfl rfl rfl (by decide) (by kernel_rfl) (tight_body (P := Try.prog) (fn := Try.f42)) (p_move rfl rfl) ?_
                    clear hs a
                    intro a hs
                    refine d_pure hs #[true, false, true, false, false, false, false, false, false, false, false, false, false, false, false, false, false, false, false] (i := 2) rfl rfl rfl (by decide) (by kernel_rfl) (tight_body (P := Try.prog) (fn := Try.f42)) (p_move rfl rfl) ?_
                    clear hs a
                    intro a hs
                    refine d_pure hs #[true, false, true, true, false, false, false, false, false, false, false, false, false, false, false, false, false, false, false] (i := 3) rfl rfl rfl (by decide) (by kernel_rfl) (tight_body (P := Try.prog) (fn := Try.f42)) (p_nil rfl rfl) ?_
                    clear hs a
                    intro a hs
                    refine d_pure hs #[true, false, true, true, true, false, false, false, false, false, false, false, false, false, false, false, false, false, false] (i := 4) rfl rfl rfl (by decide) (by kernel_rfl) (tight_body (P := Try.prog) (fn := Try.f42)) (p_fieldAddr rfl rfl ft_92_5) ?_
                    clear hs a
                    intro a hs
                    refine d_pure hs #[true, false, true, true, true, false, false, true, false, false, false, false, false, false, false, false, false, false, false] (i := 7) rfl rfl rfl (by decide) (by kernel_rfl) (tight_body (P := Try.prog) (fn := Try.f42)) (p_fieldAddr rfl rfl ft_36_2) ?_
                    clear hs a
                    intro a hs
                    refine d_pure hs #[true, false, true, true, true, false, false, true, false, false, true, false, false, false, false, false, false, false, false] (i := 10) rfl rfl rfl (by decide) (by kernel_rfl) (tight_body (P := Try.prog) (fn := Try.f42)) (p_fieldAddr rfl rfl ft_36_4) ?_
                    clear hs a
                    intro a hs
                    obtain ⟨t133, hv, h⟩ := h
                    refine d_read hs #[true, false, true, true, true, true, false, true, false, false, true, false, false, false, false, false, false, false, false] (i := 5) rfl rfl rfl (by decide) (by kernel_rfl) (by kernel_rfl) (tight_body (P := Try.prog) (fn := Try.f42)) hS (fun w h' => e_load rfl rfl ct_90 (hv w h')) ?_
                    clear hs a hv
                    intro a hs
                    obtain ⟨t136, hv, h⟩ := h
                    refine d_read hs #[true, false, true, true, true, true, false, true, true, false, true, false, false, false, false, false, false, false, false] (i := 8) rfl rfl rfl (by decide) (by kernel_rfl) (by kernel_rfl) (tight_body (P := Try.prog) (fn := Try.f42)) hS (fun w h' => e_load rfl rfl ct_23 (hv w h')) ?_
                    clear hs a hv
                    intro a hs
                    replace hs := hs.to (τ := [(0, (.pointer (some t49))), (7, (Sl.val (Sl.mk (some t10) 0 0))), (128, (.pointer (some t49))), (133, (Sl.val t133)), (136, (.int .u64 t136)), (138, (.pointer (some (p3.add 4))))]) ⟨rfl, rfl, rfl, rfl, rfl, rfl, trivial⟩
                    obtain ⟨t139, hv, h⟩ := h
                    refine d_read hs #[true, false, true, true, true, true, false, true, true, false, true, true, false, false, false, false, false, false, false] (i := 11) rfl rfl rfl (by decide) (by kernel_rfl) (by kernel_rfl) (tight_body (P := Try.prog) (fn := Try.f42)) hS (fun w h' => e_load rfl rfl ct_22 (hv w h')) ?_
                    clear hs a hv
                    intro a hs
                    refine d_all [1, 9] (by kernel_rfl) (by decide) ?_
                    refine AllS.cons ?_ ?_
                    · replace h := h 0 _ rfl
                      obtain ⟨t129, w1, ha, hw, h⟩ := h
                      obtain ⟨hS, h⟩ := h
                      refine d_eff hs #[true, true, true, true, true, true, false, true, true, false, true, true, false, false, false, false, false, false, false] (i := 1) rfl rfl rfl (by decide) rfl (e_buildSlice (z := #[]) (cs := #[]) rfl sl_90 zt_113 (by decide) rfl rz_113_0 (by rfl) ha hw) (fun _ _ => hS) ?_
                      clear hs a ha hw
                      intro a hs
                      refine d_all [6, 9] (by kernel_rfl) (by decide) ?_
                      refine AllS.cons ?_ ?_
                      · replace h := h 0 _ rfl
                        obtain ⟨t134, w1, hd, h⟩ := h
                        obtain ⟨hS, h⟩ := h
                        refine d_eff hs #[true, true, true, true, true, true, true, true, true, false, true, true, false, false, false, false, false, false, false] (i := 6) rfl rfl rfl (by decide) rfl (e_append rfl rfl rfl rfl hd) (fun _ _ => hS) ?_
                        clear hs a hd
                        intro a hs
                        refine d_all [9] (by kernel_rfl) (by decide) ?_
                        refine AllS.cons ?_ AllS.nil
                        obtain ⟨t137, w1, ha, hw, h⟩ := h
                        obtain ⟨hS, h⟩ := h
                        refine d_eff hs #[true, true, true, true, true, true, true, true, true, true, true, true, false, false, false, false, false, false, false] (i := 9) rfl rfl rfl (by decide) rfl (e_buildSlice (z := #[]) (cs := #[]) rfl sl_22 zt_5 (by decide) rfl rz_5_0 (by rfl) ha hw) (fun _ _ => hS) ?_
                        clear hs a ha hw
                        intro a hs
                        refine d_all [12] (by kernel_rfl) (by decide) ?_
                        refine AllS.cons ?_ AllS.nil
                        obtain ⟨t140, w1, hd, h⟩ := h
                        obtain ⟨hS, h⟩ := h
                        refine d_eff hs #[true, true, true, true, true, true, true, true, true, true, true, true, true, false, false, false, false, false, false] (i := 12) rfl rfl rfl (by decide) rfl (e_append rfl rfl rfl rfl hd) (fun _ _ => hS) ?_
                        clear hs a hd
                        intro a hs
                        refine d_pure hs #[true, true, true, true, true, true, true, true, true, true, true, true, true, true, false, false, false, false, false] (i := 13) rfl rfl rfl (by decide) (by kernel_rfl) (tight_body (P := Try.prog) (fn := Try.f42)) (e_build (cs := #[(.int .u64 t136), (Sl.val t140)]) rfl zt_113 pl_113 rfl rfl) ?_
                        clear hs a
                        intro a hs
                        refine d_all [14] (by kernel_rfl) (by decide) ?_
                        refine AllS.cons ?_ AllS.nil
                        obtain ⟨ct142, hb, t142, w1, ha, hw, h⟩ := h
                        refine d_eff hs #[true, true, true, true, true, true, true, true, true, true, true, true, true, true, true, false, false, false, false] (i := 14) rfl rfl rfl (by decide) rfl (e_buildSlice (z := #[(.int .u64 0), (Sl.val ⟨none, 0, 0⟩)]) rfl sl_90 zt_113 (by decide) rfl rz_113_1 hb ha hw) (fun hn => (hn (by decide)).elim) ?_
                        clear hs a hb ha hw
                        intro a hs
                        refine d_all [15] (by kernel_rfl) (by decide) ?_
                        refine AllS.cons ?_ AllS.nil
                        obtain ⟨t143, w1, hd, h⟩ := h
                        refine d_eff hs #[true, true, true, true, true, true, true, true, true, true, true, true, true, true, true, true, false, false, false] (i := 15) rfl rfl rfl (by decide) rfl (e_append rfl rfl rfl rfl hd) (fun hn => (hn (by decide)).elim) ?_
                        clear hs a hd
                        intro a hs
                        replace hs := hs.to (τ := [(0, (.pointer (some t49))), (7, (Sl.val (Sl.mk (some t10) 0 0))), (128, (.pointer (some t49))), (143, (Sl.val t143))]) ⟨rfl, rfl, rfl, rfl, trivial⟩
                        refine d_pure hs #[true, true, true, true, true, true, true, true, true, true, true, true, true, true, true, true, true, false, false] (i := 16) rfl rfl rfl (by decide) (by kernel_rfl) (tight_body (P := Try.prog) (fn := Try.f42)) (p_nil rfl rfl) ?_
                        clear hs a
                        intro a hs
                        refine d_pure hs #[true, true, true, true, true, true, true, true, true, true, true, true, true, true, true, true, true, true, false] (i := 17) rfl rfl rfl (by decide) (by kernel_rfl) (tight_body (P := Try.prog) (fn := Try.f42)) (p_fieldAddr rfl rfl ft_92_5) ?_
                        clear hs a
                        intro a hs
                        refine d_all [18] (by kernel_rfl) (by decide) ?_
                        refine AllS.cons ?_ AllS.nil
                        obtain ⟨w1, hw, hc, hf, hv, h⟩ := h
                        refine d_skip hs #[true, true, true, true, true, true, true, true, true, true, true, true, true, true, true, true, true, true, true] (i := 18) rfl rfl rfl rfl (e_store rfl rfl rfl sz_90 hw hc hf hv) (fun hn => (hn (by decide)).elim) ?_
                        clear hs a hw hc hf hv
                        intro a hs
                        refine d_done (by kernel_rfl) ?_ _
                        clear hS
                        exact J5 _ _ (hs.to ⟨rfl, rfl, trivial⟩) h
                      refine AllS.cons ?_ AllS.nil
                      replace h := h 1 _ rfl
                      obtain ⟨t137, w1, ha, hw, h⟩ := h
                      obtain ⟨hS, h⟩ := h
                      refine d_eff hs #[true, true, true, true, true, true, false, true, true, true, true, true, false, false, false, false, false, false, false] (i := 9) rfl rfl rfl (by decide) rfl (e_buildSlice (z := #[]) (cs := #[]) rfl sl_22 zt_5 (by decide) rfl rz_5_0 (by rfl) ha hw) (fun _ _ => hS) ?_
                      clear hs a ha hw
                      intro a hs
                      refine d_all [6] (by kernel_rfl) (by decide) ?_
                      refine AllS.cons ?_ AllS.nil
                      obtain ⟨t134, w1, hd, h⟩ := h
                      obtain ⟨hS, h⟩ := h
                      refine d_eff hs #[true, true, true, true, true, true, true, true, true, true, true, true, false, false, false, false, false, false, false] (i := 6) rfl rfl rfl (by decide) rfl (e_append rfl rfl rfl rfl hd) (fun _ _ => hS) ?_
                      clear hs a hd
                      intro a hs
                      refine d_all [12] (by kernel_rfl) (by decide) ?_
                      refine AllS.cons ?_ AllS.nil
                      obtain ⟨t140, w1, hd, h⟩ := h
                      obtain ⟨hS, h⟩ := h
                      refine d_eff hs #[true, true, true, true, true, true, true, true, true, true, true, true, true, false, false, false, false, false, false] (i := 12) rfl rfl rfl (by decide) rfl (e_append rfl rfl rfl rfl hd) (fun _ _ => hS) ?_
                      clear hs a hd
                      intro a hs
                      refine d_pure hs #[true, true, true, true, true, true, true, true, true, true, true, true, true, true, false, false, false, false, false] (i := 13) rfl rfl rfl (by decide) (by kernel_rfl) (tight_body (P := Try.prog) (fn := Try.f42)) (e_build (cs := #[(.int .u64 t136), (Sl.val t140)]) rfl zt_113 pl_113 rfl rfl) ?_
                      clear hs a
                      intro a hs
                      refine d_all [14] (by kernel_rfl) (by decide) ?_
                      refine AllS.cons ?_ AllS.nil
                      obtain ⟨ct142, hb, t142, w1, ha, hw, h⟩ := h
                      refine d_eff hs #[true, true, true, true, true, true, true, true, true, true, true, true, true, true, true, false, false, false, false] (i := 14) rfl rfl rfl (by decide) rfl (e_buildSlice (z := #[(.int .u64 0), (Sl.val ⟨none, 0, 0⟩)]) rfl sl_90 zt_113 (by decide) rfl rz_113_1 hb ha hw) (fun hn => (hn (by decide)).elim) ?_
                      clear hs a hb ha hw
                      intro a hs
                      refine d_all [15] (by kernel_rfl) (by decide) ?_
                      refine AllS.cons ?_ AllS.nil
                      obtain ⟨t143, w1, hd, h⟩ := h
                      refine d_eff hs #[true, true, true, true, true, true, true, true, true, true, true, true, true, true, true, true, false, false, false] (i := 15) rfl rfl rfl (by decide) rfl (e_append rfl rfl rfl rfl hd) (fun hn => (hn (by decide)).elim) ?_
                      clear hs a hd
                      intro a hs
                      replace hs := hs.to (τ := [(0, (.pointer (some t49))), (7, (Sl.val (Sl.mk (some t10) 0 0))), (128, (.pointer (some t49))), (143, (Sl.val t143))]) ⟨rfl, rfl, rfl, rfl, trivial⟩
                      refine d_pure hs #[true, true, true, true, true, true, true, true, true, true, true, true, true, true, true, true, true, false, false] (i := 16) rfl rfl rfl (by decide) (by kernel_rfl) (tight_body (P := Try.prog) (fn := Try.f42)) (p_nil rfl rfl) ?_
                      clear hs a
                      intro a hs
                      refine d_pure hs #[true, true, true, true, true, true, true, true, true, true, true, true, true, true, true, true, true, true, false] (i := 17) rfl rfl rfl (by decide) (by kernel_rfl) (tight_body (P := Try.prog) (fn := Try.f42)) (p_fieldAddr rfl rfl ft_92_5) ?_
                      clear hs a
                      intro a hs
                      refine d_all [18] (by kernel_rfl) (by decide) ?_
                      refine AllS.cons ?_ AllS.nil
                      obtain ⟨w1, hw, hc, hf, hv, h⟩ := h
                      refine d_skip hs #[true, true, true, true, true, true, true, true, true, true, true, true, true, true, true, true, true, true, true] (i := 18) rfl rfl rfl rfl (e_store rfl rfl rfl sz_90 hw hc hf hv) (fun hn => (hn (by decide)).elim) ?_
                      clear hs a hw hc hf hv
                      intro a hs
                      refine d_done (by kernel_rfl) ?_ _
                      clear hS
                      exact J5 _ _ (hs.to ⟨rfl, rfl, trivial⟩) h
                    refine AllS.cons ?_ AllS.nil
                    replace h := h 1 _ rfl
                    obtain ⟨t137, w1, ha, hw, h⟩ := h
                    obtain ⟨hS, h⟩ := h
                    refine d_eff hs #[true, false, true, true, true, true, false, true, true, true, true, true, false, false, false, false, false, false, false] (i := 9) rfl rfl rfl (by decide) rfl (e_buildSlice (z := #[]) (cs := #[]) rfl sl_22 zt_5 (by decide) rfl rz_5_0 (by rfl) ha hw) (fun _ _ => hS) ?_
                    clear hs a ha hw
                    intro a hs
                    refine d_all [1] (by kernel_rfl) (by decide) ?_
                    refine AllS.cons ?_ AllS.nil
                    obtain ⟨t129, w1, ha, hw, h⟩ := h
                    obtain ⟨hS, h⟩ := h
                    refine d_eff hs #[true, true, true, true, true, true, false, true, true, true, true, true, false, false, false, false, false, false, false] (i := 1) rfl rfl rfl (by decide) rfl (e_buildSlice (z := #[]) (cs := #[]) rfl sl_90 zt_113 (by decide) rfl rz_113_0 (by rfl) ha hw) (fun _ _ => hS) ?_
                    clear hs a ha hw
                    intro a hs
                    refine d_all [6] (by kernel_rfl) (by decide) ?_
                    refine AllS.cons ?_ AllS.nil
                    obtain ⟨t134, w1, hd, h⟩ := h
                    obtain ⟨hS, h⟩ := h
                    refine d_eff hs #[true, true, true, true, true, true, true, true, true, true, true, true, false, false, false, false, false, false, false] (i := 6) rfl rfl rfl (by decide) rfl (e_append rfl rfl rfl rfl hd) (fun _ _ => hS) ?_
                    clear hs a hd
                    intro a hs
                    refine d_all [12] (by kernel_rfl) (by decide) ?_
                    refine AllS.cons ?_ AllS.nil
                    obtain ⟨t140, w1, hd, h⟩ := h
                    obtain ⟨hS, h⟩ := h
                    refine d_eff hs #[true, true, true, true, true, true, true, true, true, true, true, true, true, false, false, false, false, false, false] (i := 12) rfl rfl rfl (by decide) rfl (e_append rfl rfl rfl rfl hd) (fun _ _ => hS) ?_
                    clear hs a hd
                    intro a hs
                    refine d_pure hs #[true, true, true, true, true, true, true, true, true, true, true, true, true, true, false, false, false, false, false] (i := 13) rfl rfl rfl (by decide) (by kernel_rfl) (tight_body (P := Try.prog) (fn := Try.f42)) (e_build (cs := #[(.int .u64 t136), (Sl.val t140)]) rfl zt_113 pl_113 rfl rfl) ?_
                    clear hs a
                    intro a hs
                    refine d_all [14] (by kernel_rfl) (by decide) ?_
                    refine AllS.cons ?_ AllS.nil
                    obtain ⟨ct142, hb, t142, w1, ha, hw, h⟩ := h
                    refine d_eff hs #[true, true, true, true, true, true, true, true, true, true, true, true, true, true, true, false, false, false, false] (i := 14) rfl rfl rfl (by decide) rfl (e_buildSlice (z := #[(.int .u64 0), (Sl.val ⟨none, 0, 0⟩)]) rfl sl_90 zt_113 (by decide) rfl rz_113_1 hb ha hw) (fun hn => (hn (by decide)).elim) ?_
                    clear hs a hb ha hw
                    intro a hs
                    refine d_all [15] (by kernel_rfl) (by decide) ?_
                    refine AllS.cons ?_ AllS.nil
                    obtain ⟨t143, w1, hd, h⟩ := h
                    refine d_eff hs #[true, true, true, true, true, true, true, true, true, true, true, true, true, true, true, true, false, false, false] (i := 15) rfl rfl rfl (by decide) rfl (e_append rfl rfl rfl rfl hd) (fun hn => (hn (by decide)).elim) ?_
                    clear hs a hd
                    intro a hs
                    replace hs := hs.to (τ := [(0, (.pointer (some t49))), (7, (Sl.val (Sl.mk (some t10) 0 0))), (128, (.pointer (some t49))), (143, (Sl.val t143))]) ⟨rfl, rfl, rfl, rfl, trivial⟩
                    refine d_pure hs #[true, true, true, true, true, true, true, true, true, true, true, true, true, true, true, true, true, false, false] (i := 16) rfl rfl rfl (by decide) (by kernel_rfl) (tight_body (P := Try.prog) (fn := Try.f42)) (p_nil rfl rfl) ?_
                    clear hs a
                    intro a hs
                    refine d_pure hs #[true, true, true, true, true, true, true, true, true, true, true, true, true, true, true, true, true, true, false] (i := 17) rfl rfl rfl (by decide) (by kernel_rfl) (tight_body (P := Try.prog) (fn := Try.f42)) (p_fieldAddr rfl rfl ft_92_5) ?_
                    clear hs a
                    intro a hs
                    refine d_all [18] (by kernel_rfl) (by decide) ?_
                    refine AllS.cons ?_ AllS.nil
                    obtain ⟨w1, hw, hc, hf, hv, h⟩ := h
                    refine d_skip hs #[true, true, true, true, true, true, true, true, true, true, true, true, true, true, true, true, true, true, true] (i := 18) rfl rfl rfl rfl (e_store rfl rfl rfl sz_90 hw hc hf hv) (fun hn => (hn (by decide)).elim) ?_
                    clear hs a hw hc hf hv
                    intro a hs
                    refine d_done (by kernel_rfl) ?_ _
                    clear hS
                    exact J5 _ _ (hs.to ⟨rfl, rfl, trivial⟩) h
                  · replace h := h.2 hb
                    clear hb
                    refine wp_skip ?_
                    exact J5 _ _ (hs.to ⟨rfl, rfl, trivial⟩) h
                clear hK25
                obtain ⟨w1, hw1, h⟩ := h
                refine d_start (S := Is w1) (ds := [21]) #[false, false, false, false, false, false, false, false, false, false, false, false, false, false, false, false, false, false, false, false, false, false, false, false] mixed rfl rfl ?_
                rw [← hw1]
                have hS := Is.intro w1
                clear hw1
                refine d_pure hs #[true, false, false, false, false, false, false, false, false, false, false, false, false, false, false, false, false, false, false, false, false, false, false, false] (i := 0) rfl rfl rfl (by decide) (by kernel_rfl) (tight_body (P := Try.prog) (fn := Try.f42)) (p_fieldAddr rfl rfl ft_36_2) ?_
                clear hs a
                intro a hs
                refine d_pure hs #[true, false, true, false, false, false, false, false, false, false, false, false, false, false, false, false, false, false, false, false, false, false, false, false] (i := 2) rfl rfl rfl (by decide) (by kernel_rfl) (tight_body (P := Try.prog) (fn := Try.f42)) (p_move rfl rfl) ?_
                clear hs a
                intro a hs
                refine d_pure hs #[true, false, true, true, false, false, false, false, false, false, false, false, false, false, false, false, false, false, false, false, false, false, false, false] (i := 3) rfl rfl rfl (by decide) (by kernel_rfl) (tight_body (P := Try.prog) (fn := Try.f42)) (p_nil rfl rfl) ?_
                clear hs a
                intro a hs
                refine d_pure hs #[true, false, true, true, true, false, false, false, false, false, false, false, false, false, false, false, false, false, false, false, false, false, false, false] (i := 4) rfl rfl rfl (by decide) (by kernel_rfl) (tight_body (P := Try.prog) (fn := Try.f42)) (p_fieldAddr rfl rfl ft_92_3) ?_
                clear hs a
                intro a hs
                obtain ⟨t105, hv, h⟩ := h
                refine d_read hs #[true, true, true, true, true, false, false, false, false, false, false, false, false, false, false, false, false, false, false, false, false, false, false, false] (i := 1) rfl rfl rfl (by decide) (by kernel_rfl) (by kernel_rfl) (tight_body (P := Try.prog) (fn := Try.f42)) hS (fun w h' => by have h1 := h'.out; subst h1; exact e_load rfl rfl ct_23 hv) ?_
                clear hs a hv
                intro a hs
                obtain ⟨t109, hv, h⟩ := h
                refine d_read hs #[true, true, true, true, true, true, false, false, false, false, false, false, false, false, false, false, false, false, false, false, false, false, false, false] (i := 5) rfl rfl rfl (by decide) (by kernel_rfl) (by kernel_rfl) (tight_body (P := Try.prog) (fn := Try.f42)) hS (fun w h' => by have h1 := h'.out; subst h1; exact e_load rfl rfl ct_23 hv) ?_
                clear hs a hv
                intro a hs
                refine d_pure hs #[true, true, true, true, true, true, true, false, false, false, false, false, false, false, false, false, false, false, false, false, false, false, false, false] (i := 6) rfl rfl rfl (by decide) (by kernel_rfl) (tight_body (P := Try.prog) (fn := Try.f42)) (p_ge rfl rfl rfl) ?_
                clear hs a
                intro a hs
                refine d_pure hs #[true, true, true, true, true, true, true, true, false, false, false, false, false, false, false, false, false, false, false, false, false, false, false, false] (i := 7) rfl rfl rfl (by decide) (by kernel_rfl) (tight_body (P := Try.prog) (fn := Try.f42)) (p_move rfl rfl) ?_
                clear hs a
                intro a hs
                replace hs := hs.to (τ := [(0, (.pointer (some t49))), (3, (.pointer (some p3))), (7, (Sl.val (Sl.mk (some t10) 0 0))), (111, (.bool (decide (t109 ≤ t105))))]) ⟨rfl, rfl, rfl, rfl, trivial⟩
                refine split_bool (decide (t109 ≤ t105)) (fun hb => ?_) (fun hb => ?_)
                · replace h := h.1 hb
                  rw [hb] at hs
                  clear hb
                  refine d_pure hs #[true, true, true, true, true, true, true, true, true, false, false, false, false, false, false, false, false, false, false, false, false, false, false, false] (i := 8) rfl rfl rfl (by decide) (by kernel_rfl) (tight_body (P := Try.prog) (fn := Try.f42)) (p_fieldAddr rfl rfl ft_36_2) ?_
                  clear hs a
                  intro a hs
                  refine d_pure hs #[true, true, true, true, true, true, true, true, true, false, true, false, false, false, false, false, false, false, false, false, false, false, false, false] (i := 10) rfl rfl rfl (by decide) (by kernel_rfl) (tight_body (P := Try.prog) (fn := Try.f42)) (p_move rfl rfl) ?_
                  clear hs a
                  intro a hs
                  refine d_pure hs #[true, true, true, true, true, true, true, true, true, false, true, true, false, false, false, false, false, false, false, false, false, false, false, false] (i := 11) rfl rfl rfl (by decide) (by kernel_rfl) (tight_body (P := Try.prog) (fn := Try.f42)) (p_nil rfl rfl) ?_
                  clear hs a
                  intro a hs
                  refine d_pure hs #[true, true, true, true, true, true, true, true, true, false, true, true, true, false, false, false, false, false, false, false, false, false, false, false] (i := 12) rfl rfl rfl (by decide) (by kernel_rfl) (tight_body (P := Try.prog) (fn := Try.f42)) (p_fieldAddr rfl rfl ft_92_3) ?_
                  clear hs a
                  intro a hs
                  obtain ⟨t113, hv, h⟩ := h
                  refine d_read hs #[true, true, true, true, true, true, true, true, true, true, true, true, true, false, false, false, false, false, false, false, false, false, false, false] (i := 9) rfl rfl rfl (by decide) (by kernel_rfl) (by kernel_rfl) (tight_body (P := Try.prog) (fn := Try.f42)) hS (fun w h' => by have h1 := h'.out; subst h1; exact e_load rfl rfl ct_23 hv) ?_
                  clear hs a hv
                  intro a hs
                  obtain ⟨t117, hv, h⟩ := h
                  refine d_read hs #[true, true, true, true, true, true, true, true, true, true, true, true, true, true, false, false, false, false, false, false, false, false, false, false] (i := 13) rfl rfl rfl (by decide) (by kernel_rfl) (by kernel_rfl) (tight_body (P := Try.prog) (fn := Try.f42)) hS (fun w h' => by have h1 := h'.out; subst h1; exact e_load rfl rfl ct_23 hv) ?_
                  clear hs a hv
                  intro a hs
                  obtain ⟨t118, he, h⟩ := h
                  refine d_pure hs #[true, true, true, true, true, true, true, true, true, true, true, true, true, true, true, false, false, false, false, false, false, false, false, false] (i := 14) rfl rfl rfl (by decide) (by kernel_rfl) (tight_body (P := Try.prog) (fn := Try.f42)) (Pure.int he (p_sub rfl rfl rfl)) ?_
                  clear hs a he
                  intro a hs
                  refine d_pure hs #[true, true, true, true, true, true, true, true, true, true, true, true, true, true, true, true, false, false, false, false, false, false, false, false] (i := 15) rfl rfl rfl (by decide) (by kernel_rfl) (tight_body (P := Try.prog) (fn := Try.f42)) (p_lt rfl rfl rfl) ?_
                  clear hs a
                  intro a hs
                  replace hs := hs.to (τ := [(0, (.pointer (some t49))), (3, (.pointer (some p3))), (7, (Sl.val (Sl.mk (some t10) 0 0))), (111, (.bool true)), (119, (.bool (decide (t118 < 16))))]) ⟨rfl, rfl, rfl, rfl, rfl, trivial⟩
                  refine d_pure hs #[true, true, true, true, true, true, true, true, true, true, true, true, true, true, true, true, true, false, false, false, false, false, false, false] (i := 16) rfl rfl rfl (by decide) (by kernel_rfl) (tight_body (P := Try.prog) (fn := Try.f42)) (p_pick_t rfl rfl rfl) ?_
                  clear hs a
                  intro a hs
                  refine d_pure hs #[true, true, true, true, true, true, true, true, true, true, true, true, true, true, true, true, true, true, false, false, false, false, false, false] (i := 17) rfl rfl rfl (by decide) (by kernel_rfl) (tight_body (P := Try.prog) (fn := Try.f42)) (p_move rfl rfl) ?_
                  clear hs a
                  intro a hs
                  refine split_bool (decide (t118 < 16)) (fun hb => ?_) (fun hb => ?_)
                  · replace h := h.1 hb
                    rw [hb] at hs
                    clear hb
                    refine d_pure hs #[true, true, true, true, true, true, true, true, true, true, true, true, true, true, true, true, true, true, true, false, false, false, false, false] (i := 18) rfl rfl rfl (by decide) (by kernel_rfl) (tight_body (P := Try.prog) (fn := Try.f42)) (p_move rfl rfl) ?_
                    clear hs a
                    intro a hs
                    refine d_pure hs #[true, true, true, true, true, true, true, true, true, true, true, true, true, true, true, true, true, true, true, true, false, false, false, false] (i := 19) rfl rfl rfl (by decide) (by kernel_rfl) (tight_body (P := Try.prog) (fn := Try.f42)) (p_fieldAddr rfl rfl ft_36_2) ?_
                    clear hs a
                    intro a hs
                    obtain ⟨t124, hv, h⟩ := h
                    refine d_read hs #[true, true, true, true, true, true, true, true, true, true, true, true, true, true, true, true, true, true, true, true, true, false, false, false] (i := 20) rfl rfl rfl (by decide) (by kernel_rfl) (by kernel_rfl) (tight_body (P := Try.prog) (fn := Try.f42)) hS (fun w h' => by have h1 := h'.out; subst h1; exact e_load rfl rfl ct_23 hv) ?_
                    clear hs a hv
                    intro a hs
                    refine d_all [21] (by kernel_rfl) (by decide) ?_
                    refine AllS.cons ?_ AllS.nil
                    refine d_call hs #[true, true, true, true, true, true, true, true, true, true, true, true, true, true, true, true, true, true, true, true, true, true, false, false] (i := 21) rfl rfl rfl (by decide) rfl (e_call rfl rfl rfl cb_57) h (fun _ _ _ hn => (hn (by decide)).elim) ?_
                    clear hs a h
                    intro v a w hk hs
                    obtain ⟨t125, rfl, h⟩ := hk
                    refine d_pure hs #[true, true, true, true, true, true, true, true, true, true, true, true, true, true, true, true, true, true, true, true, true, true, true, false] (i := 22) rfl rfl rfl (by decide) (by kernel_rfl) (tight_body (P := Try.prog) (fn := Try.f42)) (p_lt rfl rfl rfl) ?_
                    clear hs a
                    intro a hs
                    refine d_pure hs #[true, true, true, true, true, true, true, true, true, true, true, true, true, true, true, true, true, true, true, true, true, true, true, true] (i := 23) rfl rfl rfl (by decide) (by kernel_rfl) (tight_body (P := Try.prog) (fn := Try.f42)) (p_pick_t rfl rfl rfl) ?_
                    clear hs a
                    intro a hs
                    replace hs := hs.to (τ := [(0, (.pointer (some t49))), (3, (.pointer (some p3))), (7, (Sl.val (Sl.mk (some t10) 0 0))), (127, (.bool (decide (t125 < 0))))]) ⟨rfl, rfl, rfl, rfl, trivial⟩
                    refine d_done (by kernel_rfl) ?_ _
                    clear hS
                    exact J7 (decide (t125 < 0)) _ _ (hs.to ⟨rfl, rfl, rfl, rfl, trivial⟩) h
                  · replace h := h.2 hb
                    rw [hb] at hs
                    clear hb
                    refine d_no hs #[true, true, true, true, true, true, true, true, true, true, true, true, true, true, true, true, true, true, true, false, false, false, false, false] (i := 18) rfl rfl rfl (by decide) (by kernel_rfl) (tight_body (P := Try.prog) (fn := Try.f42)) ?_
                    clear hs a
                    intro a hs
                    refine d_no hs #[true, true, true, true, true, true, true, true, true, true, true, true, true, true, true, true, true, true, true, true, false, false, false, false] (i := 19) rfl rfl rfl (by decide) (by kernel_rfl) (tight_body (P := Try.prog) (fn := Try.f42)) ?_
                    clear hs a
                    intro a hs
                    refine d_no hs #[true, true, true, true, true, true, true, true, true, true, true, true, true, true, true, true, true, true, true, true, true, false, false, false] (i := 20) rfl rfl rfl (by decide) (by kernel_rfl) (tight_body (P := Try.prog) (fn := Try.f42)) ?_
                    clear hs a
                    intro a hs
                    refine d_no hs #[true, true, true, true, true, true, true, true, true, true, true, true, true, true, true, true, true, true, true, true, true, true, false, false] (i := 21) rfl rfl rfl (by decide) (by kernel_rfl) (tight_body (P := Try.prog) (fn := Try.f42)) ?_
                    clear hs a
                    intro a hs
                    refine d_no hs #[true, true, true, true, true, true, true, true, true, true, true, true, true, true, true, true, true, true, true, true, true, true, true, false] (i := 22) rfl rfl rfl (by decide) (by kernel_rfl) (tight_body (P := Try.prog) (fn := Try.f42)) ?_
                    clear hs a
                    intro a hs
                    refine d_pure hs #[true, true, true, true, true, true, true, true, true, true, true, true, true, true, true, true, true, true, true, true, true, true, true, true] (i := 23) rfl rfl rfl (by decide) (by kernel_rfl) (tight_body (P := Try.prog) (fn := Try.f42)) (p_pick_f rfl rfl rfl) ?_
                    clear hs a
                    intro a hs
                    replace hs := hs.to (τ := [(0, (.pointer (some t49))), (3, (.pointer (some p3))), (7, (Sl.val (Sl.mk (some t10) 0 0))), (127, (.bool false))]) ⟨rfl, rfl, rfl, rfl, trivial⟩
                    refine d_done (by kernel_rfl) ?_ _
                    clear hS
                    exact J7 false _ _ (hs.to ⟨rfl, rfl, rfl, rfl, trivial⟩) h
                · replace h := h.2 hb
                  rw [hb] at hs
                  clear hb
                  refine d_no hs #[true, true, true, true, true, true, true, true, true, false, false, false, false, false, false, false, false, false, false, false, false, false, false, false] (i := 8) rfl rfl rfl (by decide) (by kernel_rfl) (tight_body (P := Try.prog) (fn := Try.f42)) ?_
                  clear hs a
                  intro a hs
                  refine d_no hs #[true, true, true, true, true, true, true, true, true, true, false, false, false, false, false, false, false, false, false, false, false, false, false, false] (i := 9) rfl rfl rfl (by decide) (by kernel_rfl) (tight_body (P := Try.prog) (fn := Try.f42)) ?_
                  clear hs a
                  intro a hs
                  refine d_no hs #[true, true, true, true, true, true, true, true, true, true, true, false, false, false, false, false, false, false, false, false, false, false, false, false] (i := 10) rfl rfl rfl (by decide) (by kernel_rfl) (tight_body (P := Try.prog) (fn := Try.f42)) ?_
                  clear hs a
                  intro a hs
                  refine d_no hs #[true, true, true, true, true, true, true, true, true, true, true, true, false, false, false, false, false, false, false, false, false, false, false, false] (i := 11) rfl rfl rfl (by decide) (by kernel_rfl) (tight_body (P := Try.prog) (fn := Try.f42)) ?_
                  clear hs a
                  intro a hs
                  refine d_no hs #[true, true, true, true, true, true, true, true, true, true, true, true, true, false, false, false, false, false, false, false, false, false, false, false] (i := 12) rfl rfl rfl (by decide) (by kernel_rfl) (tight_body (P := Try.prog) (fn := Try.f42)) ?_
                  clear hs a
                  intro a hs
                  refine d_no hs #[true, true, true, true, true, true, true, true, true, true, true, true, true, true, false, false, false, false, false, false, false, false, false, false] (i := 13) rfl rfl rfl (by decide) (by kernel_rfl) (tight_body (P := Try.prog) (fn := Try.f42)) ?_
                  clear hs a
                  intro a hs
                  refine d_no hs #[true, true, true, true, true, true, true, true, true, true, true, true, true, true, true, false, false, false, false, false, false, false, false, false] (i := 14) rfl rfl rfl (by decide) (by kernel_rfl) (tight_body (P := Try.prog) (fn := Try.f42)) ?_
                  clear hs a
                  intro a hs
                  refine d_no hs #[true, true, true, true, true, true, true, true, true, true, true, true, true, true, true, true, false, false, false, false, false, false, false, false] (i := 15) rfl rfl rfl (by decide) (by kernel_rfl) (tight_body (P := Try.prog) (fn := Try.f42)) ?_
                  clear hs a
                  intro a hs
                  replace hs := hs.to (τ := [(0, (.pointer (some t49))), (3, (.pointer (some p3))), (7, (Sl.val (Sl.mk (some t10) 0 0))), (111, (.bool false)), (119, undef)]) ⟨rfl, rfl, rfl, rfl, rfl, trivial⟩
                  refine d_pure hs #[true, true, true, true, true, true, true, true, true, true, true, true, true, true, true, true, true, false, false, false, false, false, false, false] (i := 16) rfl rfl rfl (by decide) (by kernel_rfl) (tight_body (P := Try.prog) (fn := Try.f42)) (p_pick_f rfl rfl rfl) ?_
                  clear hs a
                  intro a hs
                  refine d_pure hs #[true, true, true, true, true, true, true, true, true, true, true, true, true, true, true, true, true, true, false, false, false, false, false, false] (i := 17) rfl rfl rfl (by decide) (by kernel_rfl) (tight_body (P := Try.prog) (fn := Try.f42)) (p_move rfl rfl) ?_
                  clear hs a
                  intro a hs
                  refine d_no hs #[true, true, true, true, true, true, true, true, true, true, true, true, true, true, true, true, true, true, true, false, false, false, false, false] (i := 18) rfl rfl rfl (by decide) (by kernel_rfl) (tight_body (P := Try.prog) (fn := Try.f42)) ?_
                  clear hs a
                  intro a hs
                  refine d_no hs #[true, true, true, true, true, true, true, true, true, true, true, true, true, true, true, true, true, true, true, true, false, false, false, false] (i := 19) rfl rfl rfl (by decide) (by kernel_rfl) (tight_body (P := Try.prog) (fn := Try.f42)) ?_
                  clear hs a
                  intro a hs
                  refine d_no hs #[true, true, true, true, true, true, true, true, true, true, true, true, true, true, true, true, true, true, true, true, true, false, false, false] (i := 20) rfl rfl rfl (by decide) (by kernel_rfl) (tight_body (P := Try.prog) (fn := Try.f42)) ?_
                  clear hs a
                  intro a hs
                  refine d_no hs #[true, true, true, true, true, true, true, true, true, true, true, true, true, true, true, true, true, true, true, true, true, true, false, false] (i := 21) rfl rfl rfl (by decide) (by kernel_rfl) (tight_body (P := Try.prog) (fn := Try.f42)) ?_
                  clear hs a
                  intro a hs
                  refine d_no hs #[true, true, true, true, true, true, true, true, true, true, true, true, true, true, true, true, true, true, true, true, true, true, true, false] (i := 22) rfl rfl rfl (by decide) (by kernel_rfl) (tight_body (P := Try.prog) (fn := Try.f42)) ?_
                  clear hs a
                  intro a hs
                  refine d_pure hs #[true, true, true, true, true, true, true, true, true, true, true, true, true, true, true, true, true, true, true, true, true, true, true, true] (i := 23) rfl rfl rfl (by decide) (by kernel_rfl) (tight_body (P := Try.prog) (fn := Try.f42)) (p_pick_f rfl rfl rfl) ?_
                  clear hs a
                  intro a hs
                  replace hs := hs.to (τ := [(0, (.pointer (some t49))), (3, (.pointer (some p3))), (7, (Sl.val (Sl.mk (some t10) 0 0))), (127, (.bool false))]) ⟨rfl, rfl, rfl, rfl, trivial⟩
                  refine d_done (by kernel_rfl) ?_ _
                  clear hS
                  exact J7 false _ _ (hs.to ⟨rfl, rfl, rfl, rfl, trivial⟩) h
          clear hK12
          obtain ⟨w1, hw1, h⟩ := h
          refine s_start mixed (by kernel_rfl) hw1 ?_
          clear hw1
          refine s_pure hs rfl rfl (by decide) (p_move rfl rfl) ?_
          clear hs a
          intro a hs
          refine s_pure hs rfl rfl (by decide) (p_nil rfl rfl) ?_
          clear hs a
          intro a hs
          refine s_pure hs rfl rfl (by decide) (p_fieldAddr rfl rfl ft_92_4) ?_
          clear hs a
          intro a hs
          obtain ⟨t72, hv, h⟩ := h
          refine s_eff hs rfl rfl (by decide) (e_load rfl rfl ct_56 hv) ?_
          clear hs a hv
          intro a hs
          refine s_pure hs rfl rfl (by decide) (p_len rfl rfl sl_56) ?_
          clear hs a
          intro a hs
          refine s_pure hs rfl rfl (by decide) (p_gt rfl rfl rfl) ?_
          clear hs a
          intro a hs
          refine s_pure hs rfl rfl (by decide) (p_move rfl rfl) ?_
          clear hs a
          intro a hs
          refine split_bool (decide ((0 : Int) < (t72.n : Int))) (fun hb => ?_) (fun hb => ?_)
          · replace h := h.1 hb
            rw [hb] at hs
            clear hb
            refine s_yes hs rfl ?_
            refine s_pure hs rfl rfl (by decide) (p_move rfl rfl) ?_
            clear hs a
            intro a hs
            replace hs := hs.to (τ := [(0, (.pointer (some t49))), (3, (.pointer (some p3))), (6, (Sl.val (Sl.mk (some t9) 0 0))), (7, (Sl.val (Sl.mk (some t10) 0 0))), (75, (.bool true)), (76, (.pointer (some t49)))]) ⟨rfl, rfl, rfl, rfl, rfl, rfl, trivial⟩
            refine s_yes hs rfl ?_
            refine s_pure hs rfl rfl (by decide) (p_nil rfl rfl) ?_
            clear hs a
            intro a hs
            refine s_yes hs rfl ?_
            refine s_pure hs rfl rfl (by decide) (p_fieldAddr rfl rfl ft_92_2) ?_
            clear hs a
            intro a hs
            refine s_yes hs rfl ?_
            obtain ⟨t79, hv, h⟩ := h
            refine s_eff hs rfl rfl (by decide) (e_load rfl rfl ct_23 hv) ?_
            clear hs a hv
            intro a hs
            refine s_yes hs rfl ?_
            refine s_pure hs rfl rfl (by decide) (p_fieldAddr rfl rfl ft_36_3) ?_
            clear hs a
            intro a hs
            refine s_yes hs rfl ?_
            obtain ⟨t81, hv, h⟩ := h
            refine s_eff hs rfl rfl (by decide) (e_load rfl rfl ct_23 hv) ?_
            clear hs a hv
            intro a hs
            refine s_yes hs rfl ?_
            refine s_pure hs rfl rfl (by decide) (p_le rfl rfl rfl) ?_
            clear hs a
            intro a hs
            refine s_pure hs rfl rfl (by decide) (p_pick_t rfl rfl rfl) ?_
            clear hs a
            intro a hs
            exact J4 (decide (t79 ≤ t81)) _ _ (hs.to ⟨rfl, rfl, rfl, rfl, rfl, trivial⟩) h
          · replace h := h.2 hb
            rw [hb] at hs
            clear hb
            refine s_no hs rfl rfl (by decide) ?_
            clear hs a
            intro a hs
            replace hs := hs.to (τ := [(0, (.pointer (some t49))), (3, (.pointer (some p3))), (6, (Sl.val (Sl.mk (some t9) 0 0))), (7, (Sl.val (Sl.mk (some t10) 0 0))), (75, (.bool false)), (76, undef)]) ⟨rfl, rfl, rfl, rfl, rfl, rfl, trivial⟩
            refine s_no hs rfl rfl (by decide) ?_
            clear hs a
            intro a hs
            refine s_no hs rfl rfl (by decide) ?_
            clear hs a
            intro a hs
            refine s_no hs rfl rfl (by decide) ?_
            clear hs a
            intro a hs
            refine s_no hs rfl rfl (by decide) ?_
            clear hs a
            intro a hs
            refine s_no hs rfl rfl (by decide) ?_
            clear hs a
            intro a hs
            refine s_no hs rfl rfl (by decide) ?_
            clear hs a
            intro a hs
            refine s_pure hs rfl rfl (by decide) (p_pick_f rfl rfl rfl) ?_
            clear hs a
            intro a hs
            exact J4 false _ _ (hs.to ⟨rfl, rfl, rfl, rfl, rfl, trivial⟩) h
      clear hK6
      refine wp_seq_k fun K26 hK26 => ?_
      obtain ⟨w1, hw1, h⟩ := h
      refine s_start mixed (by kernel_rfl) hw1 ?_
      clear hw1
      refine s_pure hs rfl rfl (by decide) (p_fieldAddr0 rfl rfl ft_36_0) ?_
      clear hs a
      intro a hs
      obtain ⟨t26, hv, h⟩ := h
      refine s_eff hs rfl rfl (by decide) (e_load rfl rfl ct_23 hv) ?_
      clear hs a hv
      intro a hs
      refine s_pure hs rfl rfl (by decide) (p_move rfl rfl) ?_
      clear hs a
      intro a hs
      obtain ⟨t28, rfl, h⟩ := h
      refine s_pure hs rfl rfl (by decide) (p_nil rfl rfl) ?_
      clear hs a
      intro a hs
      refine s_pure hs rfl rfl (by decide) (p_fieldAddr rfl rfl ft_92_1) ?_
      clear hs a
      intro a hs
      obtain ⟨t30, hv, h⟩ := h
      refine s_eff hs rfl rfl (by decide) (e_load rfl rfl ct_23 hv) ?_
      clear hs a hv
      intro a hs
      refine s_pure hs rfl rfl (by decide) (p_gt rfl rfl rfl) ?_
      clear hs a
      intro a hs
      refine hK26 _ _ ?_
      refine c_cond hs rfl (fun hb => ?_) (fun hb => ?_)
      · replace h := h.1 hb
        clear hb
        refine wp_seq_k fun K27 hK27 => ?_
        refine wp_region_lit ?_
        refine t_pure hs rfl rfl (by decide) (p_move rfl rfl) ?_
        clear hs a
        intro a hs
        refine t_pure hs rfl rfl (by decide) (p_fieldAddr0 rfl rfl ft_36_0) ?_
        clear hs a
        intro a hs
        obtain ⟨t34, hv, h⟩ := h
        refine t_eff hs rfl rfl (by decide) (e_load rfl rfl ct_23 hv) ?_
        clear hs a hv
        intro a hs
        refine t_pure hs rfl rfl (by decide) (p_nil rfl rfl) ?_
        clear hs a
        intro a hs
        refine t_pure hs rfl rfl (by decide) (p_fieldAddr rfl rfl ft_92_1) ?_
        clear hs a
        intro a hs
        obtain ⟨w1, hw, hc, hf, hv, h⟩ := h
        refine t_skip hs rfl rfl (e_store rfl rfl rfl sz_23 hw hc hf hv) ?_
        clear hs a hw hc hf hv
        intro a hs
        refine hK27 _ _ ?_
        refine wp_seq_k fun K28 hK28 => ?_
        refine wp_region_lit ?_
        refine t_pure hs rfl rfl (by decide) (p_move rfl rfl) ?_
        clear hs a
        intro a hs
        refine t_pure hs rfl rfl (by decide) (p_nil rfl rfl) ?_
        clear hs a
        intro a hs
        refine t_pure hs rfl rfl (by decide) (p_fieldAddr rfl rfl ft_92_3) ?_
        clear hs a
        intro a hs
        obtain ⟨w1, hw, hc, hf, hv, h⟩ := h
        refine t_skip hs rfl rfl (e_store rfl rfl rfl sz_23 hw hc hf hv) ?_
        clear hs a hw hc hf hv
        intro a hs
        refine hK28 _ _ ?_
        refine wp_seq_k fun K29 hK29 => ?_
        refine wp_region_lit ?_
        refine t_pure hs rfl rfl (by decide) (p_move rfl rfl) ?_
        clear hs a
        intro a hs
        refine t_pure hs rfl rfl (by decide) (p_nil rfl rfl) ?_
        clear hs a
        intro a hs
        refine t_pure hs rfl rfl (by decide) (p_fieldAddr rfl rfl ft_92_2) ?_
        clear hs a
        intro a hs
        obtain ⟨w1, hw, hc, hf, hv, h⟩ := h
        refine t_skip hs rfl rfl (e_store rfl rfl rfl sz_23 hw hc hf hv) ?_
        clear hs a hw hc hf hv
        intro a hs
        refine hK29 _ _ ?_
        refine wp_region_lit ?_
        refine t_pure hs rfl rfl (by decide) (p_move rfl rfl) ?_
        clear hs a
        intro a hs
        refine t_pure hs rfl rfl (by decide) (p_nil rfl rfl) ?_
        clear hs a
        intro a hs
        refine t_pure hs rfl rfl (by decide) (p_fieldAddr rfl rfl ft_92_5) ?_
        clear hs a
        intro a hs
        obtain ⟨w1, hw, hc, hf, hv, h⟩ := h
        refine t_skip hs rfl rfl (e_store rfl rfl rfl sz_90 hw hc hf hv) ?_
        clear hs a hw hc hf hv
        intro a hs
        exact J2 _ _ (hs.to ⟨rfl, rfl, rfl, rfl, trivial⟩) h
      · replace h := h.2 hb
        clear hb
        refine wp_skip ?_
        exact J2 _ _ (hs.to ⟨rfl, rfl, rfl, rfl, trivial⟩) h
  clear hK4
  obtain ⟨w1, hw1, h⟩ := h
  refine s_start mixed (by kernel_rfl) hw1 ?_
  clear hw1
  refine s_pure hs rfl rfl (by decide) (p_fieldAddr0 rfl rfl ft_36_0) ?_
  clear hs a
  intro a hs
  obtain ⟨t12, hv, h⟩ := h
  refine s_eff hs rfl rfl (by decide) (e_load rfl rfl ct_23 hv) ?_
  clear hs a hv
  intro a hs
  refine s_pure hs rfl rfl (by decide) (p_eq rfl rfl rfl) ?_
  clear hs a
  intro a hs
  refine s_pure hs rfl rfl (by decide) (p_move rfl rfl) ?_
  clear hs a
  intro a hs
  refine split_bool (decide (t12 = 0)) (fun hb => ?_) (fun hb => ?_)
  · replace h := h.1 hb
    rw [hb] at hs
    clear hb
    refine s_no hs rfl rfl (by decide) ?_
    clear hs a
    intro a hs
    refine s_no hs rfl rfl (by decide) ?_
    clear hs a
    intro a hs
    refine s_no hs rfl rfl (by decide) ?_
    clear hs a
    intro a hs
    refine s_no hs rfl rfl (by decide) ?_
    clear hs a
    intro a hs
    replace hs := hs.to (τ := [(0, (.pointer l0)), (3, (.pointer (some p3))), (6, (Sl.val (Sl.mk (some t9) 0 0))), (7, (Sl.val (Sl.mk (some t10) 0 0))), (14, (.bool true)), (16, undef), (18, undef)]) ⟨rfl, rfl, rfl, rfl, rfl, rfl, rfl, trivial⟩
    refine s_no hs rfl rfl (by decide) ?_
    clear hs a
    intro a hs
    refine s_no hs rfl rfl (by decide) ?_
    clear hs a
    intro a hs
    refine s_no hs rfl rfl (by decide) ?_
    clear hs a
    intro a hs
    refine s_pure hs rfl rfl (by decide) (p_pick_t rfl rfl rfl) ?_
    clear hs a
    intro a hs
    exact J1 true _ _ (hs.to ⟨rfl, rfl, rfl, rfl, rfl, trivial⟩) h
  · replace h := h.2 hb
    rw [hb] at hs
    clear hb
    refine s_yes hs rfl ?_
    refine s_pure hs rfl rfl (by decide) (p_fieldAddr0 rfl rfl ft_36_0) ?_
    clear hs a
    intro a hs
    refine s_yes hs rfl ?_
    obtain ⟨t16, hv, h⟩ := h
    refine s_eff hs rfl rfl (by decide) (e_load rfl rfl ct_23 hv) ?_
    clear hs a hv
    intro a hs
    refine s_yes hs rfl ?_
    refine s_pure hs rfl rfl (by decide) (p_move rfl rfl) ?_
    clear hs a
    intro a hs
    refine s_yes hs rfl ?_
    obtain ⟨t18, rfl, h⟩ := h
    refine s_pure hs rfl rfl (by decide) (p_nil rfl rfl) ?_
    clear hs a
    intro a hs
    replace hs := hs.to (τ := [(0, (.pointer (some t18))), (3, (.pointer (some p3))), (6, (Sl.val (Sl.mk (some t9) 0 0))), (7, (Sl.val (Sl.mk (some t10) 0 0))), (14, (.bool false)), (16, (.int .u64 t16)), (18, (.pointer (some t18)))]) ⟨rfl, rfl, rfl, rfl, rfl, rfl, rfl, trivial⟩
    refine s_yes hs rfl ?_
    refine s_pure hs rfl rfl (by decide) (p_fieldAddr rfl rfl ft_92_1) ?_
    clear hs a
    intro a hs
    refine s_yes hs rfl ?_
    obtain ⟨t20, hv, h⟩ := h
    refine s_eff hs rfl rfl (by decide) (e_load rfl rfl ct_23 hv) ?_
    clear hs a hv
    intro a hs
    refine s_yes hs rfl ?_
    refine s_pure hs rfl rfl (by decide) (p_lt rfl rfl rfl) ?_
    clear hs a
    intro a hs
    refine s_pure hs rfl rfl (by decide) (p_pick_f rfl rfl rfl) ?_
    clear hs a
    intro a hs
    exact J1 (decide (t16 < t20)) _ _ (hs.to ⟨rfl, rfl, rfl, rfl, rfl, trivial⟩) h
end Go.Proofs.Ytilejcnbacmdnaa
