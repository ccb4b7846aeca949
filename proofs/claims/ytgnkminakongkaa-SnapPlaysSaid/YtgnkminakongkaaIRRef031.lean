/- Plain forms of functions, and that their code comes to them (package ref03). -/
import Derived.Test.YtgnkminakongkaaCalls
namespace Go.Proofs.Ytgnkminakongkaa
open Go Go.Sep
set_option linter.unusedVariables false
set_option linter.unusedSimpArgs false
set_option maxRecDepth 100000
set_option maxHeartbeats 4000000
def ref03_Disk_use.s1 (Q : Bool → K)   : K :=
  Q true
def ref03_Disk_use (d0 : (Option Addr)) (Q : Bool → K) : K :=
  Nn d0 fun t4 =>
  Ld (t4.add 2) (Value.int .i64) fun t6 =>
  Ite (decide (t6 = 0))
    (St (t4.add 3) (.bool true) <|
    Q false)
    (Ld (t4.add 2) (Value.int .i64) fun t14 =>
    Ite (decide ((0 : Int) < t14))
      (Ld (t4.add 2) (Value.int .i64) fun t19 =>
      Ar (IntKind.wrap .i64 (t19 - 1)) fun t20 =>
      St (t4.add 2) (.int .i64 t20) <|
      ref03_Disk_use.s1 Q)
      (ref03_Disk_use.s1 Q))
theorem ref03_Disk_use_ok (d0 : (Option Addr)) (Q : Bool → K) (w : World) (h : ref03_Disk_use d0 Q w) : ref03_Disk_use.call d0 Q w := by
  unfold ref03_Disk_use.call CallF
  refine f_start (args := [(.pointer d0)]) Try.func75 rfl (Nat.le_of_ble_eq_true rfl) ?_
  intro a hs
  unfold ref03_Disk_use at h
  refine wp_seq_k fun K1 hK1 => ?_
  refine wp_region_lit ?_
  refine t_pure hs rfl rfl (by decide) (p_assign rfl rfl) ?_
  clear hs a; intro a hs
  refine hK1 _ _ ?_
  refine wp_seq_k fun K2 hK2 => ?_
  refine wp_seq_k fun K3 hK3 => ?_
  refine wp_region_lit ?_
  refine t_pure hs rfl rfl (by decide) (p_move rfl rfl) ?_
  clear hs a; intro a hs
  obtain ⟨t4, rfl, h⟩ := h
  refine t_pure hs rfl rfl (by decide) (p_nil rfl rfl) ?_
  clear hs a; intro a hs
  refine t_pure hs rfl rfl (by decide) (p_fieldAddr rfl rfl ft_87_2) ?_
  clear hs a; intro a hs
  obtain ⟨t6, hv, h⟩ := h
  refine t_eff hs rfl rfl (by decide) (e_load rfl rfl ct_3 hv) ?_
  clear hs a hv; intro a hs
  refine t_pure hs rfl rfl (by decide) (p_eq rfl rfl rfl) ?_
  clear hs a; intro a hs
  refine hK3 _ _ ?_
  refine c_cond hs rfl (fun hb => ?_) (fun hb => ?_)
  · replace h := h.1 hb
    clear hb
    refine wp_seq_k fun K4 hK4 => ?_
    refine wp_region_lit ?_
    refine t_pure hs rfl rfl (by decide) (p_move rfl rfl) ?_
    clear hs a; intro a hs
    refine t_pure hs rfl rfl (by decide) (p_nil rfl rfl) ?_
    clear hs a; intro a hs
    refine t_pure hs rfl rfl (by decide) (p_fieldAddr rfl rfl ft_87_3) ?_
    clear hs a; intro a hs
    obtain ⟨w1, hw, hc, hf, hv, h⟩ := h
    refine t_skip hs rfl rfl (e_store rfl rfl rfl sz_4 hw hc hf hv) ?_
    clear hs a hw hc hf hv; intro a hs
    refine hK4 _ _ ?_
    refine wp_seq_k fun K5 hK5 => ?_
    refine wp_region_lit ?_
    refine t_pure hs rfl rfl (by decide) (p_assign rfl rfl) ?_
    clear hs a; intro a hs
    refine hK5 _ _ ?_
    refine wp_ret ?_
    refine f_ret (fn := Try.f75) hs (fun a hs => r_one hs rfl (rfl)) ⟨false, rfl, h⟩
  · replace h := h.2 hb
    clear hb
    refine wp_skip ?_
    refine hK2 _ _ ?_
    refine wp_seq_k fun K6 hK6 => ?_
    have J1 : ∀ (a : Act) (w : World), Slots a 23 [] → ref03_Disk_use.s1 Q w → K6 a w := by
      clear h hs
      intro a w hs h
      refine hK6 _ _ ?_
      unfold ref03_Disk_use.s1 at h
      refine wp_seq_k fun K7 hK7 => ?_
      refine wp_region_lit ?_
      refine t_pure hs rfl rfl (by decide) (p_assign rfl rfl) ?_
      clear hs a; intro a hs
      refine hK7 _ _ ?_
      refine wp_ret ?_
      refine f_ret (fn := Try.f75) hs (fun a hs => r_one hs rfl (rfl)) ⟨true, rfl, h⟩
    clear hK6
    refine wp_seq_k fun K8 hK8 => ?_
    refine wp_region_lit ?_
    refine t_pure hs rfl rfl (by decide) (p_move rfl rfl) ?_
    clear hs a; intro a hs
    refine t_pure hs rfl rfl (by decide) (p_nil rfl rfl) ?_
    clear hs a; intro a hs
    refine t_pure hs rfl rfl (by decide) (p_fieldAddr rfl rfl ft_87_2) ?_
    clear hs a; intro a hs
    obtain ⟨t14, hv, h⟩ := h
    refine t_eff hs rfl rfl (by decide) (e_load rfl rfl ct_3 hv) ?_
    clear hs a hv; intro a hs
    refine t_pure hs rfl rfl (by decide) (p_gt rfl rfl rfl) ?_
    clear hs a; intro a hs
    refine hK8 _ _ ?_
    refine c_cond hs rfl (fun hb => ?_) (fun hb => ?_)
    · replace h := h.1 hb
      clear hb
      refine wp_region_lit ?_
      refine t_pure hs rfl rfl (by decide) (p_move rfl rfl) ?_
      clear hs a; intro a hs
      refine t_pure hs rfl rfl (by decide) (p_nil rfl rfl) ?_
      clear hs a; intro a hs
      refine t_pure hs rfl rfl (by decide) (p_fieldAddr rfl rfl ft_87_2) ?_
      clear hs a; intro a hs
      obtain ⟨t19, hv, h⟩ := h
      refine t_eff hs rfl rfl (by decide) (e_load rfl rfl ct_3 hv) ?_
      clear hs a hv; intro a hs
      obtain ⟨t20, he, h⟩ := h
      refine t_pure hs rfl rfl (by decide) (Pure.int he (p_sub rfl rfl rfl)) ?_
      clear hs a he; intro a hs
      refine t_pure hs rfl rfl (by decide) (p_nil rfl rfl) ?_
      clear hs a; intro a hs
      refine t_pure hs rfl rfl (by decide) (p_fieldAddr rfl rfl ft_87_2) ?_
      clear hs a; intro a hs
      obtain ⟨w1, hw, hc, hf, hv, h⟩ := h
      refine t_skip hs rfl rfl (e_store rfl rfl rfl sz_3 hw hc hf hv) ?_
      clear hs a hw hc hf hv; intro a hs
      exact J1 _ _ (hs.to trivial) h
    · replace h := h.2 hb
      clear hb
      refine wp_skip ?_
      exact J1 _ _ (hs.to trivial) h
def ref03_Disk_drop.s2 (Q : K) (X1 : Sl → Int → K) (d0_2 : Addr) (name1_2 : ByteArray) (out4_2 : Sl) (i5_2 : Int) : K :=
  Ar (IntKind.wrap .i64 (i5_2 + 1)) fun t15 =>
  X1 out4_2 t15
def ref03_Disk_drop.b1 (Q : K)  (X1 : Sl → Int → K) (d0_1 : (Option Addr)) (name1_1 : ByteArray) (out4_1 : Sl) (i5_1 : Int) : K :=
  Nn d0_1 fun t9 =>
  Ld (t9.add 1) Sl.val fun t11 =>
  Ite (decide (i5_1 < (t11.n : Int)))
    (Ld (t9.add 1) Sl.val fun t19 =>
    Idx t19 i5_1 3 fun t21 =>
    Ld t21 Value.string fun t23 =>
    Ite (!(t23.toList == name1_1.toList))
      (Ld (t9.add 1) Sl.val fun t30 =>
      Idx t30 i5_1 3 fun t32 =>
      LdN t32 3 fun t33 =>
      Bld #[(.string ⟨#[]⟩), (Sl.val ⟨none, 0, 0⟩), (.int .i64 0)] (fun i => some (i * 3, 3)) [(0, (.agg t33))] fun ct34 =>
      New 89 ct34 fun t34 =>
      Do Try.prog (Builtin.append_ #[85, 85] 85 #[(Sl.val out4_1), (Sl.val (Sl.mk (some t34) 1 1))]) Sl.val fun t35 =>
      ref03_Disk_drop.s2 Q X1 t9 name1_1 t35 i5_1)
      (ref03_Disk_drop.s2 Q X1 t9 name1_1 out4_1 i5_1))
    (St (t9.add 1) (Sl.val out4_1) <|
    Q)
def ref03_Disk_drop (d0 : (Option Addr)) (name1 : ByteArray) (Q : K) : K :=
  New 89 #[] fun t6 =>
  LoopK (α := Sl × Int) (fun X x => ref03_Disk_drop.b1 Q (fun out4_1 i5_1 => X (out4_1, i5_1)) d0 name1 x.1 x.2) ((Sl.mk (some t6) 0 0), 0)
theorem ref03_Disk_drop_ok (d0 : (Option Addr)) (name1 : ByteArray) (Q : K) (w : World) (h : ref03_Disk_drop d0 name1 Q w) : ref03_Disk_drop.call d0 name1 Q w := by
  unfold ref03_Disk_drop.call CallF
  refine f_start (args := [(.pointer d0), (.string name1)]) Try.func76 rfl (Nat.le_of_ble_eq_true rfl) ?_
  intro a hs
  unfold ref03_Disk_drop at h
  refine wp_seq_k fun K1 hK1 => ?_
  refine wp_region_lit ?_
  obtain ⟨t6, w1, ha, hw, h⟩ := h
  refine t_eff hs rfl rfl (by decide) (e_buildSlice (z := #[]) (cs := #[]) rfl sl_85 zt_89 (by decide) rfl rz_89_0 (by rfl) ha hw) ?_
  clear hs a ha hw; intro a hs
  refine t_pure hs rfl rfl (by decide) (p_assign rfl rfl) ?_
  clear hs a; intro a hs
  refine hK1 _ _ ?_
  refine wp_seq_k fun K2 hK2 => ?_
  refine wp_seq_k fun K3 hK3 => ?_
  refine wp_region_lit ?_
  refine t_pure hs rfl rfl (by decide) (p_assign rfl rfl) ?_
  clear hs a; intro a hs
  refine hK3 _ _ ?_
  refine wp_block ?_
  obtain ⟨I1, μ1, h0, hr⟩ := h
  refine c_loop (α := Sl × Int) I1 μ1 (fun x a => Slots a 40 [(0, (.pointer d0)), (1, (.string name1)), (4, (Sl.val x.1)), (5, (.int .i64 x.2))]) ((Sl.mk (some t6) 0 0), 0) h0 (hs.to ⟨rfl, rfl, rfl, rfl, trivial⟩) ?_
  clear h0 hs a
  rintro ⟨out4_1, i5_1⟩ a w hI hs
  have h : ref03_Disk_drop.b1 Q (fun out4_1n i5_1n w' => I1 (out4_1n, i5_1n) w' ∧ μ1 (out4_1n, i5_1n) w' < μ1 (out4_1, i5_1) w) d0 name1 out4_1 i5_1 w := hr (out4_1, i5_1) w hI
  clear hr hI
  generalize hX1 : (fun out4_1n i5_1n w' => I1 (out4_1n, i5_1n) w' ∧ μ1 (out4_1n, i5_1n) w' < μ1 (out4_1, i5_1) w) = X1 at h
  unfold ref03_Disk_drop.b1 at h
  replace hs : Slots a 40 [(0, (.pointer d0)), (1, (.string name1)), (4, (Sl.val out4_1)), (5, (.int .i64 i5_1))] := hs
  refine wp_seq_k fun K4 hK4 => ?_
  refine wp_seq_k fun K5 hK5 => ?_
  refine wp_region_lit ?_
  refine t_pure hs rfl rfl (by decide) (p_move rfl rfl) ?_
  clear hs a; intro a hs
  refine t_pure hs rfl rfl (by decide) (p_move rfl rfl) ?_
  clear hs a; intro a hs
  obtain ⟨t9, rfl, h⟩ := h
  refine t_pure hs rfl rfl (by decide) (p_nil rfl rfl) ?_
  clear hs a; intro a hs
  refine t_pure hs rfl rfl (by decide) (p_fieldAddr rfl rfl ft_87_1) ?_
  clear hs a; intro a hs
  obtain ⟨t11, hv, h⟩ := h
  refine t_eff hs rfl rfl (by decide) (e_load rfl rfl ct_85 hv) ?_
  clear hs a hv; intro a hs
  refine t_pure hs rfl rfl (by decide) (p_len rfl rfl sl_85) ?_
  clear hs a; intro a hs
  refine t_pure hs rfl rfl (by decide) (p_lt rfl rfl rfl) ?_
  clear hs a; intro a hs
  refine hK5 _ _ ?_
  refine c_cond hs rfl (fun hb => ?_) (fun hb => ?_)
  · replace h := h.1 hb
    clear hb
    refine wp_skip ?_
    refine hK4 _ _ ?_
    refine wp_seq_k fun K6 hK6 => ?_
    have J2 : ∀ (out4_2 : Sl) (a : Act) (w : World), Slots a 40 [(0, (.pointer (some t9))), (1, (.string name1)), (4, (Sl.val out4_2)), (5, (.int .i64 i5_1))] → ref03_Disk_drop.s2 Q X1 t9 name1 out4_2 i5_1 w → K6 a w := by
      clear h hs
      intro out4_2 a w hs h
      refine hK6 _ _ ?_
      unfold ref03_Disk_drop.s2 at h
      refine wp_region_lit ?_
      refine t_pure hs rfl rfl (by decide) (p_move rfl rfl) ?_
      clear hs a; intro a hs
      obtain ⟨t15, he, h⟩ := h
      refine t_pure hs rfl rfl (by decide) (Pure.int he (p_add rfl rfl rfl)) ?_
      clear hs a he; intro a hs
      refine t_pure hs rfl rfl (by decide) (p_assign rfl rfl) ?_
      clear hs a; intro a hs
      rw [← hX1] at h
      exact ⟨(out4_2, t15), hs.to ⟨rfl, rfl, rfl, rfl, trivial⟩, h⟩
    clear hK6
    refine wp_block ?_
    refine wp_seq_k fun K7 hK7 => ?_
    refine wp_region_lit ?_
    refine t_pure hs rfl rfl (by decide) (p_move rfl rfl) ?_
    clear hs a; intro a hs
    refine t_pure hs rfl rfl (by decide) (p_nil rfl rfl) ?_
    clear hs a; intro a hs
    refine t_pure hs rfl rfl (by decide) (p_fieldAddr rfl rfl ft_87_1) ?_
    clear hs a; intro a hs
    obtain ⟨t19, hv, h⟩ := h
    refine t_eff hs rfl rfl (by decide) (e_load rfl rfl ct_85 hv) ?_
    clear hs a hv; intro a hs
    refine t_pure hs rfl rfl (by decide) (p_move rfl rfl) ?_
    clear hs a; intro a hs
    obtain ⟨qt21, t21, ha, h0, h1, he, h⟩ := h
    refine t_pure hs rfl rfl (by decide) (Pure.adr he (p_idx rfl rfl rfl sl_85 ha h0 h1)) ?_
    clear hs a ha h0 h1 he; intro a hs
    refine t_pure hs rfl rfl (by decide) (p_fieldAddr0 rfl rfl ft_89_0) ?_
    clear hs a; intro a hs
    obtain ⟨t23, hv, h⟩ := h
    refine t_eff hs rfl rfl (by decide) (e_load rfl rfl ct_9 hv) ?_
    clear hs a hv; intro a hs
    replace hs := hs.to (τ := [(0, (.pointer (some t9))), (1, (.string name1)), (4, (Sl.val out4_1)), (5, (.int .i64 i5_1)), (23, (.string t23))]) ⟨rfl, rfl, rfl, rfl, rfl, trivial⟩
    refine t_pure hs rfl rfl (by decide) (p_move rfl rfl) ?_
    clear hs a; intro a hs
    refine t_pure hs rfl rfl (by decide) (p_nes rfl rfl rfl) ?_
    clear hs a; intro a hs
    refine hK7 _ _ ?_
    refine c_cond hs rfl (fun hb => ?_) (fun hb => ?_)
    · replace h := h.1 hb
      clear hb
      refine wp_region_lit ?_
      refine t_pure hs rfl rfl (by decide) (p_move rfl rfl) ?_
      clear hs a; intro a hs
      refine t_pure hs rfl rfl (by decide) (p_move rfl rfl) ?_
      clear hs a; intro a hs
      refine t_pure hs rfl rfl (by decide) (p_nil rfl rfl) ?_
      clear hs a; intro a hs
      refine t_pure hs rfl rfl (by decide) (p_fieldAddr rfl rfl ft_87_1) ?_
      clear hs a; intro a hs
      obtain ⟨t30, hv, h⟩ := h
      refine t_eff hs rfl rfl (by decide) (e_load rfl rfl ct_85 hv) ?_
      clear hs a hv; intro a hs
      refine t_pure hs rfl rfl (by decide) (p_move rfl rfl) ?_
      clear hs a; intro a hs
      obtain ⟨qt32, t32, ha, h0, h1, he, h⟩ := h
      refine t_pure hs rfl rfl (by decide) (Pure.adr he (p_idx rfl rfl rfl sl_85 ha h0 h1)) ?_
      clear hs a ha h0 h1 he; intro a hs
      obtain ⟨t33, hn, hv, h⟩ := h
      refine t_eff hs rfl rfl (by decide) (e_loadN rfl rfl at_89 hn hv) ?_
      clear hs a hn hv; intro a hs
      replace hs := hs.to (τ := [(0, (.pointer (some t9))), (1, (.string name1)), (5, (.int .i64 i5_1)), (26, (Sl.val out4_1)), (33, (.agg t33))]) ⟨rfl, rfl, rfl, rfl, rfl, trivial⟩
      obtain ⟨ct34, hb, t34, w1, ha, hw, h⟩ := h
      refine t_eff hs rfl rfl (by decide) (e_buildSlice (z := #[(.string ⟨#[]⟩), (Sl.val ⟨none, 0, 0⟩), (.int .i64 0)]) rfl sl_85 zt_89 (by decide) rfl rz_89_1 hb ha hw) ?_
      clear hs a hb ha hw; intro a hs
      obtain ⟨t35, w1, hd, h⟩ := h
      refine t_eff hs rfl rfl (by decide) (e_append rfl rfl rfl rfl hd) ?_
      clear hs a hd; intro a hs
      refine t_pure hs rfl rfl (by decide) (p_assign rfl rfl) ?_
      clear hs a; intro a hs
      exact J2 t35 _ _ (hs.to ⟨rfl, rfl, rfl, rfl, trivial⟩) h
    · replace h := h.2 hb
      clear hb
      refine wp_skip ?_
      exact J2 out4_1 _ _ (hs.to ⟨rfl, rfl, rfl, rfl, trivial⟩) h
  · replace h := h.2 hb
    clear hb
    refine wp_exit ?_
    refine hK2 _ _ ?_
    refine wp_region_lit ?_
    refine t_pure hs rfl rfl (by decide) (p_move rfl rfl) ?_
    clear hs a; intro a hs
    refine t_pure hs rfl rfl (by decide) (p_move rfl rfl) ?_
    clear hs a; intro a hs
    refine t_pure hs rfl rfl (by decide) (p_nil rfl rfl) ?_
    clear hs a; intro a hs
    refine t_pure hs rfl rfl (by decide) (p_fieldAddr rfl rfl ft_87_1) ?_
    clear hs a; intro a hs
    obtain ⟨w1, hw, hc, hf, hv, h⟩ := h
    refine t_skip hs rfl rfl (e_store rfl rfl rfl sz_85 hw hc hf hv) ?_
    clear hs a hw hc hf hv; intro a hs
    refine f_end (fn := Try.f76) hs (fun a hs => r_many hs (rs := []) (vs := []) rfl (by decide) trivial) ⟨rfl, h⟩
def ref03_Disk_put.s2 (Q : K) (X1 : Sl → Bool → Int → K) (d0_2 : Addr) (f3_2 : Addr) (out4_2 : Sl) (done5_2 : Bool) (i6_2 : Int) : K :=
  Ld (d0_2.add 1) Sl.val fun t40 =>
  Idx t40 i6_2 3 fun t42 =>
  LdN t42 3 fun t43 =>
  Bld #[(.string ⟨#[]⟩), (Sl.val ⟨none, 0, 0⟩), (.int .i64 0)] (fun i => some (i * 3, 3)) [(0, (.agg t43))] fun ct44 =>
  New 89 ct44 fun t44 =>
  Do Try.prog (Builtin.append_ #[85, 85] 85 #[(Sl.val out4_2), (Sl.val (Sl.mk (some t44) 1 1))]) Sl.val fun t45 =>
  Ar (IntKind.wrap .i64 (i6_2 + 1)) fun t16 =>
  X1 t45 done5_2 t16
def ref03_Disk_put.s3 (Q : K) (X1 : Sl → Bool → Int → K) (d0_3 : Addr) (f3_3 : Addr) (out4_3 : Sl) (done5_3 : Bool) (i6_3 : Int) (t31_3 : Bool) : K :=
  Ite t31_3
    (LdN f3_3 3 fun t33 =>
    Bld #[(.string ⟨#[]⟩), (Sl.val ⟨none, 0, 0⟩), (.int .i64 0)] (fun i => some (i * 3, 3)) [(0, (.agg t33))] fun ct34 =>
    New 89 ct34 fun t34 =>
    Do Try.prog (Builtin.append_ #[85, 85] 85 #[(Sl.val out4_3), (Sl.val (Sl.mk (some t34) 1 1))]) Sl.val fun t35 =>
    ref03_Disk_put.s2 Q X1 d0_3 f3_3 t35 true i6_3)
    (ref03_Disk_put.s2 Q X1 d0_3 f3_3 out4_3 done5_3 i6_3)
def ref03_Disk_put.s4 (Q : K) (X1 : Sl → Bool → Int → K) (d0_4 : Addr) (out4_4 : Sl) : K :=
  St (d0_4.add 1) (Sl.val out4_4) <|
  Q
def ref03_Disk_put.b1 (Q : K)  (X1 : Sl → Bool → Int → K) (d0_1 : (Option Addr)) (f3_1 : Addr) (out4_1 : Sl) (done5_1 : Bool) (i6_1 : Int) : K :=
  Nn d0_1 fun t10 =>
  Ld (t10.add 1) Sl.val fun t12 =>
  Ite (decide (i6_1 < (t12.n : Int)))
    (Dr <|
    Ite (!done5_1)
      (Ld (t10.add 1) Sl.val fun t23 =>
      Idx t23 i6_1 3 fun t25 =>
      Ld t25 Value.string fun t27 =>
      Ld f3_1 Value.string fun t29 =>
      ref03_Disk_put.s3 Q X1 t10 f3_1 out4_1 done5_1 i6_1 (!(Op.bytesLess t27.toList t29.toList || t27.toList == t29.toList)))
      (ref03_Disk_put.s3 Q X1 t10 f3_1 out4_1 done5_1 i6_1 false))
    (Ite (!done5_1)
      (LdN f3_1 3 fun t49 =>
      Bld #[(.string ⟨#[]⟩), (Sl.val ⟨none, 0, 0⟩), (.int .i64 0)] (fun i => some (i * 3, 3)) [(0, (.agg t49))] fun ct50 =>
      New 89 ct50 fun t50 =>
      Do Try.prog (Builtin.append_ #[85, 85] 85 #[(Sl.val out4_1), (Sl.val (Sl.mk (some t50) 1 1))]) Sl.val fun t51 =>
      ref03_Disk_put.s4 Q X1 t10 t51)
      (ref03_Disk_put.s4 Q X1 t10 out4_1))
def ref03_Disk_put (d0 : (Option Addr)) (f1 : (Array Value)) (Q : K) : K :=
  New 89 f1 fun f3 =>
  New 89 #[] fun t7 =>
  LoopK (α := Sl × Bool × Int) (fun X x => ref03_Disk_put.b1 Q (fun out4_1 done5_1 i6_1 => X (out4_1, done5_1, i6_1)) d0 f3 x.1 x.2.1 x.2.2) ((Sl.mk (some t7) 0 0), false, 0)
theorem ref03_Disk_put_ok (d0 : (Option Addr)) (f1 : (Array Value)) (Q : K) (w : World) (h : ref03_Disk_put d0 f1 Q w) : ref03_Disk_put.call d0 f1 Q w := by
  unfold ref03_Disk_put.call CallF
  refine f_start (args := [(.pointer d0), (.agg f1)]) Try.func77 rfl (Nat.le_of_ble_eq_true rfl) ?_
  intro a hs
  unfold ref03_Disk_put at h
  refine wp_seq_k fun K1 hK1 => ?_
  refine wp_region_lit ?_
  obtain ⟨f3, w1, ha, hw, h⟩ := h
  refine t_eff hs rfl rfl (by decide) (e_box rfl rfl rfl ha hw) ?_
  clear hs a ha hw; intro a hs
  refine hK1 _ _ ?_
  refine wp_seq_k fun K2 hK2 => ?_
  refine wp_region_lit ?_
  obtain ⟨t7, w1, ha, hw, h⟩ := h
  refine t_eff hs rfl rfl (by decide) (e_buildSlice (z := #[]) (cs := #[]) rfl sl_85 zt_89 (by decide) rfl rz_89_0 (by rfl) ha hw) ?_
  clear hs a ha hw; intro a hs
  refine t_pure hs rfl rfl (by decide) (p_assign rfl rfl) ?_
  clear hs a; intro a hs
  refine hK2 _ _ ?_
  refine wp_seq_k fun K3 hK3 => ?_
  refine wp_region_lit ?_
  refine t_pure hs rfl rfl (by decide) (p_assign rfl rfl) ?_
  clear hs a; intro a hs
  refine hK3 _ _ ?_
  refine wp_seq_k fun K4 hK4 => ?_
  refine wp_seq_k fun K5 hK5 => ?_
  refine wp_region_lit ?_
  refine t_pure hs rfl rfl (by decide) (p_assign rfl rfl) ?_
  clear hs a; intro a hs
  refine hK5 _ _ ?_
  refine wp_block ?_
  obtain ⟨I1, μ1, h0, hr⟩ := h
  refine c_loop (α := Sl × Bool × Int) I1 μ1 (fun x a => Slots a 56 [(0, (.pointer d0)), (3, (.pointer (some f3))), (4, (Sl.val x.1)), (5, (.bool x.2.1)), (6, (.int .i64 x.2.2))]) ((Sl.mk (some t7) 0 0), false, 0) h0 (hs.to ⟨rfl, rfl, rfl, rfl, rfl, trivial⟩) ?_
  clear h0 hs a
  rintro ⟨out4_1, done5_1, i6_1⟩ a w hI hs
  have h : ref03_Disk_put.b1 Q (fun out4_1n done5_1n i6_1n w' => I1 (out4_1n, done5_1n, i6_1n) w' ∧ μ1 (out4_1n, done5_1n, i6_1n) w' < μ1 (out4_1, done5_1, i6_1) w) d0 f3 out4_1 done5_1 i6_1 w := hr (out4_1, done5_1, i6_1) w hI
  clear hr hI
  generalize hX1 : (fun out4_1n done5_1n i6_1n w' => I1 (out4_1n, done5_1n, i6_1n) w' ∧ μ1 (out4_1n, done5_1n, i6_1n) w' < μ1 (out4_1, done5_1, i6_1) w) = X1 at h
  unfold ref03_Disk_put.b1 at h
  replace hs : Slots a 56 [(0, (.pointer d0)), (3, (.pointer (some f3))), (4, (Sl.val out4_1)), (5, (.bool done5_1)), (6, (.int .i64 i6_1))] := hs
  refine wp_seq_k fun K6 hK6 => ?_
  refine wp_seq_k fun K7 hK7 => ?_
  refine wp_region_lit ?_
  refine t_pure hs rfl rfl (by decide) (p_move rfl rfl) ?_
  clear hs a; intro a hs
  refine t_pure hs rfl rfl (by decide) (p_move rfl rfl) ?_
  clear hs a; intro a hs
  obtain ⟨t10, rfl, h⟩ := h
  refine t_pure hs rfl rfl (by decide) (p_nil rfl rfl) ?_
  clear hs a; intro a hs
  refine t_pure hs rfl rfl (by decide) (p_fieldAddr rfl rfl ft_87_1) ?_
  clear hs a; intro a hs
  obtain ⟨t12, hv, h⟩ := h
  refine t_eff hs rfl rfl (by decide) (e_load rfl rfl ct_85 hv) ?_
  clear hs a hv; intro a hs
  refine t_pure hs rfl rfl (by decide) (p_len rfl rfl sl_85) ?_
  clear hs a; intro a hs
  refine t_pure hs rfl rfl (by decide) (p_lt rfl rfl rfl) ?_
  clear hs a; intro a hs
  refine hK7 _ _ ?_
  refine c_cond hs rfl (fun hb => ?_) (fun hb => ?_)
  · replace h := h.1 hb
    clear hb
    refine wp_skip ?_
    refine hK6 _ _ ?_
    refine wp_seq_k fun K8 hK8 => ?_
    refine wp_block ?_
    refine wp_seq_k fun K9 hK9 => ?_
    have J2 : ∀ (out4_2 : Sl) (done5_2 : Bool) (a : Act) (w : World), Slots a 56 [(0, (.pointer (some t10))), (3, (.pointer (some f3))), (4, (Sl.val out4_2)), (5, (.bool done5_2)), (6, (.int .i64 i6_1))] → ref03_Disk_put.s2 Q X1 t10 f3 out4_2 done5_2 i6_1 w → K9 a w := by
      clear h hs
      intro out4_2 done5_2 a w hs h
      refine hK9 _ _ ?_
      unfold ref03_Disk_put.s2 at h
      refine wp_region_lit ?_
      refine t_pure hs rfl rfl (by decide) (p_move rfl rfl) ?_
      clear hs a; intro a hs
      refine t_pure hs rfl rfl (by decide) (p_move rfl rfl) ?_
      clear hs a; intro a hs
      refine t_pure hs rfl rfl (by decide) (p_nil rfl rfl) ?_
      clear hs a; intro a hs
      refine t_pure hs rfl rfl (by decide) (p_fieldAddr rfl rfl ft_87_1) ?_
      clear hs a; intro a hs
      obtain ⟨t40, hv, h⟩ := h
      refine t_eff hs rfl rfl (by decide) (e_load rfl rfl ct_85 hv) ?_
      clear hs a hv; intro a hs
      refine t_pure hs rfl rfl (by decide) (p_move rfl rfl) ?_
      clear hs a; intro a hs
      obtain ⟨qt42, t42, ha, h0, h1, he, h⟩ := h
      refine t_pure hs rfl rfl (by decide) (Pure.adr he (p_idx rfl rfl rfl sl_85 ha h0 h1)) ?_
      clear hs a ha h0 h1 he; intro a hs
      obtain ⟨t43, hn, hv, h⟩ := h
      refine t_eff hs rfl rfl (by decide) (e_loadN rfl rfl at_89 hn hv) ?_
      clear hs a hn hv; intro a hs
      replace hs := hs.to (τ := [(0, (.pointer (some t10))), (3, (.pointer (some f3))), (5, (.bool done5_2)), (6, (.int .i64 i6_1)), (36, (Sl.val out4_2)), (43, (.agg t43))]) ⟨rfl, rfl, rfl, rfl, rfl, rfl, trivial⟩
      obtain ⟨ct44, hb, t44, w1, ha, hw, h⟩ := h
      refine t_eff hs rfl rfl (by decide) (e_buildSlice (z := #[(.string ⟨#[]⟩), (Sl.val ⟨none, 0, 0⟩), (.int .i64 0)]) rfl sl_85 zt_89 (by decide) rfl rz_89_1 hb ha hw) ?_
      clear hs a hb ha hw; intro a hs
      obtain ⟨t45, w1, hd, h⟩ := h
      refine t_eff hs rfl rfl (by decide) (e_append rfl rfl rfl rfl hd) ?_
      clear hs a hd; intro a hs
      refine t_pure hs rfl rfl (by decide) (p_assign rfl rfl) ?_
      clear hs a; intro a hs
      refine hK8 _ _ ?_
      refine wp_region_lit ?_
      refine t_pure hs rfl rfl (by decide) (p_move rfl rfl) ?_
      clear hs a; intro a hs
      obtain ⟨t16, he, h⟩ := h
      refine t_pure hs rfl rfl (by decide) (Pure.int he (p_add rfl rfl rfl)) ?_
      clear hs a he; intro a hs
      refine t_pure hs rfl rfl (by decide) (p_assign rfl rfl) ?_
      clear hs a; intro a hs
      rw [← hX1] at h
      exact ⟨(t45, done5_2, t16), hs.to ⟨rfl, rfl, rfl, rfl, rfl, trivial⟩, h⟩
    clear hK9
    refine wp_seq_k fun K10 hK10 => ?_
    have J3 : ∀ (done5_3 : Bool) (t31_3 : Bool) (a : Act) (w : World), Slots a 56 [(0, (.pointer (some t10))), (3, (.pointer (some f3))), (4, (Sl.val out4_1)), (5, (.bool done5_3)), (6, (.int .i64 i6_1)), (31, (.bool t31_3))] → ref03_Disk_put.s3 Q X1 t10 f3 out4_1 done5_3 i6_1 t31_3 w → K10 a w := by
      clear h hs
      intro done5_3 t31_3 a w hs h
      refine hK10 _ _ ?_
      unfold ref03_Disk_put.s3 at h
      refine c_cond hs rfl (fun hb => ?_) (fun hb => ?_)
      · replace h := h.1 hb
        clear hb
        refine wp_seq_k fun K11 hK11 => ?_
        refine wp_region_lit ?_
        refine t_pure hs rfl rfl (by decide) (p_move rfl rfl) ?_
        clear hs a; intro a hs
        obtain ⟨t33, hn, hv, h⟩ := h
        refine t_eff hs rfl rfl (by decide) (e_loadN rfl rfl at_89 hn hv) ?_
        clear hs a hn hv; intro a hs
        obtain ⟨ct34, hb, t34, w1, ha, hw, h⟩ := h
        refine t_eff hs rfl rfl (by decide) (e_buildSlice (z := #[(.string ⟨#[]⟩), (Sl.val ⟨none, 0, 0⟩), (.int .i64 0)]) rfl sl_85 zt_89 (by decide) rfl rz_89_1 hb ha hw) ?_
        clear hs a hb ha hw; intro a hs
        obtain ⟨t35, w1, hd, h⟩ := h
        refine t_eff hs rfl rfl (by decide) (e_append rfl rfl rfl rfl hd) ?_
        clear hs a hd; intro a hs
        refine t_pure hs rfl rfl (by decide) (p_assign rfl rfl) ?_
        clear hs a; intro a hs
        refine hK11 _ _ ?_
        refine wp_region_lit ?_
        refine t_pure hs rfl rfl (by decide) (p_assign rfl rfl) ?_
        clear hs a; intro a hs
        exact J2 t35 true _ _ (hs.to ⟨rfl, rfl, rfl, rfl, rfl, trivial⟩) h
      · replace h := h.2 hb
        clear hb
        refine wp_skip ?_
        exact J2 out4_1 done5_3 _ _ (hs.to ⟨rfl, rfl, rfl, rfl, rfl, trivial⟩) h
    clear hK10
    obtain ⟨w1, hw1, h⟩ := h
    refine s_start mixed (by kernel_rfl) hw1 ?_
    clear hw1
    refine s_pure hs rfl rfl (by decide) (p_move rfl rfl) ?_
    clear hs a; intro a hs
    refine s_pure hs rfl rfl (by decide) (p_not rfl rfl) ?_
    clear hs a; intro a hs
    refine s_pure hs rfl rfl (by decide) (p_move rfl rfl) ?_
    clear hs a; intro a hs
    refine split_bool (!done5_1) (fun hb => ?_) (fun hb => ?_)
    · replace h := h.1 hb
      rw [hb] at hs
      clear hb
      refine s_yes hs rfl ?_
      refine s_pure hs rfl rfl (by decide) (p_move rfl rfl) ?_
      clear hs a; intro a hs
      refine s_yes hs rfl ?_
      refine s_pure hs rfl rfl (by decide) (p_nil rfl rfl) ?_
      clear hs a; intro a hs
      refine s_yes hs rfl ?_
      refine s_pure hs rfl rfl (by decide) (p_fieldAddr rfl rfl ft_87_1) ?_
      clear hs a; intro a hs
      refine s_yes hs rfl ?_
      obtain ⟨t23, hv, h⟩ := h
      refine s_eff hs rfl rfl (by decide) (e_load rfl rfl ct_85 hv) ?_
      clear hs a hv; intro a hs
      refine s_yes hs rfl ?_
      refine s_pure hs rfl rfl (by decide) (p_move rfl rfl) ?_
      clear hs a; intro a hs
      replace hs := hs.to (τ := [(0, (.pointer (some t10))), (3, (.pointer (some f3))), (4, (Sl.val out4_1)), (5, (.bool done5_1)), (6, (.int .i64 i6_1)), (19, (.bool true)), (23, (Sl.val t23)), (24, (.int .i64 i6_1))]) ⟨rfl, rfl, rfl, rfl, rfl, rfl, rfl, rfl, trivial⟩
      refine s_yes hs rfl ?_
      obtain ⟨qt25, t25, ha, h0, h1, he, h⟩ := h
      refine s_pure hs rfl rfl (by decide) (Pure.adr he (p_idx rfl rfl rfl sl_85 ha h0 h1)) ?_
      clear hs a ha h0 h1 he; intro a hs
      refine s_yes hs rfl ?_
      refine s_pure hs rfl rfl (by decide) (p_fieldAddr0 rfl rfl ft_89_0) ?_
      clear hs a; intro a hs
      refine s_yes hs rfl ?_
      obtain ⟨t27, hv, h⟩ := h
      refine s_eff hs rfl rfl (by decide) (e_load rfl rfl ct_9 hv) ?_
      clear hs a hv; intro a hs
      refine s_yes hs rfl ?_
      refine s_pure hs rfl rfl (by decide) (p_fieldAddr0 rfl rfl ft_89_0) ?_
      clear hs a; intro a hs
      refine s_yes hs rfl ?_
      obtain ⟨t29, hv, h⟩ := h
      refine s_eff hs rfl rfl (by decide) (e_load rfl rfl ct_9 hv) ?_
      clear hs a hv; intro a hs
      refine s_yes hs rfl ?_
      refine s_pure hs rfl rfl (by decide) (p_gts rfl rfl rfl) ?_
      clear hs a; intro a hs
      refine s_pure hs rfl rfl (by decide) (p_pick_t rfl rfl rfl) ?_
      clear hs a; intro a hs
      exact J3 done5_1 (!(Op.bytesLess t27.toList t29.toList || t27.toList == t29.toList)) _ _ (hs.to ⟨rfl, rfl, rfl, rfl, rfl, rfl, trivial⟩) h
    · replace h := h.2 hb
      rw [hb] at hs
      clear hb
      refine s_no hs rfl rfl (by decide) ?_
      clear hs a; intro a hs
      refine s_no hs rfl rfl (by decide) ?_
      clear hs a; intro a hs
      refine s_no hs rfl rfl (by decide) ?_
      clear hs a; intro a hs
      refine s_no hs rfl rfl (by decide) ?_
      clear hs a; intro a hs
      refine s_no hs rfl rfl (by decide) ?_
      clear hs a; intro a hs
      replace hs := hs.to (τ := [(0, (.pointer (some t10))), (3, (.pointer (some f3))), (4, (Sl.val out4_1)), (5, (.bool done5_1)), (6, (.int .i64 i6_1)), (19, (.bool false)), (23, undef), (24, undef)]) ⟨rfl, rfl, rfl, rfl, rfl, rfl, rfl, rfl, trivial⟩
      refine s_no hs rfl rfl (by decide) ?_
      clear hs a; intro a hs
      refine s_no hs rfl rfl (by decide) ?_
      clear hs a; intro a hs
      refine s_no hs rfl rfl (by decide) ?_
      clear hs a; intro a hs
      refine s_no hs rfl rfl (by decide) ?_
      clear hs a; intro a hs
      refine s_no hs rfl rfl (by decide) ?_
      clear hs a; intro a hs
      refine s_no hs rfl rfl (by decide) ?_
      clear hs a; intro a hs
      refine s_pure hs rfl rfl (by decide) (p_pick_f rfl rfl rfl) ?_
      clear hs a; intro a hs
      exact J3 done5_1 false _ _ (hs.to ⟨rfl, rfl, rfl, rfl, rfl, rfl, trivial⟩) h
  · replace h := h.2 hb
    clear hb
    refine wp_exit ?_
    refine hK4 _ _ ?_
    refine wp_seq_k fun K12 hK12 => ?_
    have J4 : ∀ (out4_4 : Sl) (a : Act) (w : World), Slots a 56 [(0, (.pointer (some t10))), (4, (Sl.val out4_4))] → ref03_Disk_put.s4 Q X1 t10 out4_4 w → K12 a w := by
      clear h hs
      intro out4_4 a w hs h
      refine hK12 _ _ ?_
      unfold ref03_Disk_put.s4 at h
      refine wp_region_lit ?_
      refine t_pure hs rfl rfl (by decide) (p_move rfl rfl) ?_
      clear hs a; intro a hs
      refine t_pure hs rfl rfl (by decide) (p_move rfl rfl) ?_
      clear hs a; intro a hs
      refine t_pure hs rfl rfl (by decide) (p_nil rfl rfl) ?_
      clear hs a; intro a hs
      refine t_pure hs rfl rfl (by decide) (p_fieldAddr rfl rfl ft_87_1) ?_
      clear hs a; intro a hs
      obtain ⟨w1, hw, hc, hf, hv, h⟩ := h
      refine t_skip hs rfl rfl (e_store rfl rfl rfl sz_85 hw hc hf hv) ?_
      clear hs a hw hc hf hv; intro a hs
      refine f_end (fn := Try.f77) hs (fun a hs => r_many hs (rs := []) (vs := []) rfl (by decide) trivial) ⟨rfl, h⟩
    clear hK12
    refine wp_seq_k fun K13 hK13 => ?_
    refine wp_region_lit ?_
    refine t_pure hs rfl rfl (by decide) (p_move rfl rfl) ?_
    clear hs a; intro a hs
    refine t_pure hs rfl rfl (by decide) (p_not rfl rfl) ?_
    clear hs a; intro a hs
    refine hK13 _ _ ?_
    refine c_cond hs rfl (fun hb => ?_) (fun hb => ?_)
    · replace h := h.1 hb
      clear hb
      refine wp_region_lit ?_
      refine t_pure hs rfl rfl (by decide) (p_move rfl rfl) ?_
      clear hs a; intro a hs
      obtain ⟨t49, hn, hv, h⟩ := h
      refine t_eff hs rfl rfl (by decide) (e_loadN rfl rfl at_89 hn hv) ?_
      clear hs a hn hv; intro a hs
      obtain ⟨ct50, hb, t50, w1, ha, hw, h⟩ := h
      refine t_eff hs rfl rfl (by decide) (e_buildSlice (z := #[(.string ⟨#[]⟩), (Sl.val ⟨none, 0, 0⟩), (.int .i64 0)]) rfl sl_85 zt_89 (by decide) rfl rz_89_1 hb ha hw) ?_
      clear hs a hb ha hw; intro a hs
      obtain ⟨t51, w1, hd, h⟩ := h
      refine t_eff hs rfl rfl (by decide) (e_append rfl rfl rfl rfl hd) ?_
      clear hs a hd; intro a hs
      refine t_pure hs rfl rfl (by decide) (p_assign rfl rfl) ?_
      clear hs a; intro a hs
      exact J4 t51 _ _ (hs.to ⟨rfl, rfl, trivial⟩) h
    · replace h := h.2 hb
      clear hb
      refine wp_skip ?_
      exact J4 out4_1 _ _ (hs.to ⟨rfl, rfl, trivial⟩) h
def ref03_Disk_At.b1 (Q : Int → K)  (X1 : Int → K) (d0_1 : (Option Addr)) (name1_1 : ByteArray) (i5_1 : Int) : K :=
  Nn d0_1 fun t8 =>
  Ld (t8.add 1) Sl.val fun t10 =>
  Ite (decide (i5_1 < (t10.n : Int)))
    (Ld (t8.add 1) Sl.val fun t18 =>
    Idx t18 i5_1 3 fun t20 =>
    Ld t20 Value.string fun t22 =>
    Ite (t22.toList == name1_1.toList)
      (Q i5_1)
      (Ar (IntKind.wrap .i64 (i5_1 + 1)) fun t14 =>
      X1 t14))
    (Q (-1))
def ref03_Disk_At (d0 : (Option Addr)) (name1 : ByteArray) (Q : Int → K) : K :=
  LoopK (α := Int) (fun X x => ref03_Disk_At.b1 Q X d0 name1 x) 0
theorem ref03_Disk_At_ok (d0 : (Option Addr)) (name1 : ByteArray) (Q : Int → K) (w : World) (h : ref03_Disk_At d0 name1 Q w) : ref03_Disk_At.call d0 name1 Q w := by
  unfold ref03_Disk_At.call CallF
  refine f_start (args := [(.pointer d0), (.string name1)]) Try.func78 rfl (Nat.le_of_ble_eq_true rfl) ?_
  intro a hs
  unfold ref03_Disk_At at h
  refine wp_seq_k fun K1 hK1 => ?_
  refine wp_region_lit ?_
  refine t_pure hs rfl rfl (by decide) (p_assign rfl rfl) ?_
  clear hs a; intro a hs
  refine hK1 _ _ ?_
  refine wp_seq_k fun K2 hK2 => ?_
  refine wp_seq_k fun K3 hK3 => ?_
  refine wp_region_lit ?_
  refine t_pure hs rfl rfl (by decide) (p_assign rfl rfl) ?_
  clear hs a; intro a hs
  refine hK3 _ _ ?_
  refine wp_block ?_
  obtain ⟨I1, μ1, h0, hr⟩ := h
  refine c_loop (α := Int) I1 μ1 (fun x a => Slots a 26 [(0, (.pointer d0)), (1, (.string name1)), (5, (.int .i64 x))]) 0 h0 (hs.to ⟨rfl, rfl, rfl, trivial⟩) ?_
  clear h0 hs a
  intro i5_1 a w hI hs
  have h : ref03_Disk_At.b1 Q (fun i5_1n w' => I1 i5_1n w' ∧ μ1 i5_1n w' < μ1 i5_1 w) d0 name1 i5_1 w := hr i5_1 w hI
  clear hr hI
  generalize hX1 : (fun i5_1n w' => I1 i5_1n w' ∧ μ1 i5_1n w' < μ1 i5_1 w) = X1 at h
  unfold ref03_Disk_At.b1 at h
  replace hs : Slots a 26 [(0, (.pointer d0)), (1, (.string name1)), (5, (.int .i64 i5_1))] := hs
  refine wp_seq_k fun K4 hK4 => ?_
  refine wp_seq_k fun K5 hK5 => ?_
  refine wp_region_lit ?_
  refine t_pure hs rfl rfl (by decide) (p_move rfl rfl) ?_
  clear hs a; intro a hs
  refine t_pure hs rfl rfl (by decide) (p_move rfl rfl) ?_
  clear hs a; intro a hs
  obtain ⟨t8, rfl, h⟩ := h
  refine t_pure hs rfl rfl (by decide) (p_nil rfl rfl) ?_
  clear hs a; intro a hs
  refine t_pure hs rfl rfl (by decide) (p_fieldAddr rfl rfl ft_87_1) ?_
  clear hs a; intro a hs
  obtain ⟨t10, hv, h⟩ := h
  refine t_eff hs rfl rfl (by decide) (e_load rfl rfl ct_85 hv) ?_
  clear hs a hv; intro a hs
  refine t_pure hs rfl rfl (by decide) (p_len rfl rfl sl_85) ?_
  clear hs a; intro a hs
  refine t_pure hs rfl rfl (by decide) (p_lt rfl rfl rfl) ?_
  clear hs a; intro a hs
  refine hK5 _ _ ?_
  refine c_cond hs rfl (fun hb => ?_) (fun hb => ?_)
  · replace h := h.1 hb
    clear hb
    refine wp_skip ?_
    refine hK4 _ _ ?_
    refine wp_seq_k fun K6 hK6 => ?_
    refine wp_block ?_
    refine wp_seq_k fun K7 hK7 => ?_
    refine wp_region_lit ?_
    refine t_pure hs rfl rfl (by decide) (p_move rfl rfl) ?_
    clear hs a; intro a hs
    refine t_pure hs rfl rfl (by decide) (p_nil rfl rfl) ?_
    clear hs a; intro a hs
    refine t_pure hs rfl rfl (by decide) (p_fieldAddr rfl rfl ft_87_1) ?_
    clear hs a; intro a hs
    obtain ⟨t18, hv, h⟩ := h
    refine t_eff hs rfl rfl (by decide) (e_load rfl rfl ct_85 hv) ?_
    clear hs a hv; intro a hs
    refine t_pure hs rfl rfl (by decide) (p_move rfl rfl) ?_
    clear hs a; intro a hs
    obtain ⟨qt20, t20, ha, h0, h1, he, h⟩ := h
    refine t_pure hs rfl rfl (by decide) (Pure.adr he (p_idx rfl rfl rfl sl_85 ha h0 h1)) ?_
    clear hs a ha h0 h1 he; intro a hs
    refine t_pure hs rfl rfl (by decide) (p_fieldAddr0 rfl rfl ft_89_0) ?_
    clear hs a; intro a hs
    obtain ⟨t22, hv, h⟩ := h
    refine t_eff hs rfl rfl (by decide) (e_load rfl rfl ct_9 hv) ?_
    clear hs a hv; intro a hs
    replace hs := hs.to (τ := [(0, (.pointer (some t8))), (1, (.string name1)), (5, (.int .i64 i5_1)), (22, (.string t22))]) ⟨rfl, rfl, rfl, rfl, trivial⟩
    refine t_pure hs rfl rfl (by decide) (p_move rfl rfl) ?_
    clear hs a; intro a hs
    refine t_pure hs rfl rfl (by decide) (p_eqs rfl rfl rfl) ?_
    clear hs a; intro a hs
    refine hK7 _ _ ?_
    refine c_cond hs rfl (fun hb => ?_) (fun hb => ?_)
    · replace h := h.1 hb
      clear hb
      refine wp_seq_k fun K8 hK8 => ?_
      refine wp_region_lit ?_
      refine t_pure hs rfl rfl (by decide) (p_move rfl rfl) ?_
      clear hs a; intro a hs
      refine t_pure hs rfl rfl (by decide) (p_assign rfl rfl) ?_
      clear hs a; intro a hs
      refine hK8 _ _ ?_
      refine wp_ret ?_
      refine f_ret (fn := Try.f78) hs (fun a hs => r_one hs rfl (rfl)) ⟨i5_1, rfl, h⟩
    · replace h := h.2 hb
      clear hb
      refine wp_skip ?_
      refine hK6 _ _ ?_
      refine wp_region_lit ?_
      refine t_pure hs rfl rfl (by decide) (p_move rfl rfl) ?_
      clear hs a; intro a hs
      obtain ⟨t14, he, h⟩ := h
      refine t_pure hs rfl rfl (by decide) (Pure.int he (p_add rfl rfl rfl)) ?_
      clear hs a he; intro a hs
      refine t_pure hs rfl rfl (by decide) (p_assign rfl rfl) ?_
      clear hs a; intro a hs
      rw [← hX1] at h
      exact ⟨t14, hs.to ⟨rfl, rfl, rfl, trivial⟩, h⟩
  · replace h := h.2 hb
    clear hb
    refine wp_exit ?_
    refine hK2 _ _ ?_
    refine wp_seq_k fun K9 hK9 => ?_
    refine wp_region_lit ?_
    refine t_pure hs rfl rfl (by decide) (p_assign rfl rfl) ?_
    clear hs a; intro a hs
    refine hK9 _ _ ?_
    refine wp_ret ?_
    refine f_ret (fn := Try.f78) hs (fun a hs => r_one hs rfl (rfl)) ⟨(-1), rfl, h⟩
end Go.Proofs.Ytgnkminakongkaa
