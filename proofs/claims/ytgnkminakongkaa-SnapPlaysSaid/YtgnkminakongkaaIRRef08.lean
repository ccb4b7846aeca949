/- Plain forms of functions, and that their code comes to them (package ref08). -/
import Derived.Test.YtgnkminakongkaaCalls
namespace Go.Proofs.Ytgnkminakongkaa
open Go Go.Sep
set_option linter.unusedVariables false
set_option linter.unusedSimpArgs false
set_option maxRecDepth 100000
set_option maxHeartbeats 4000000
def ref08_Save.s2 (Q : Int → K)  (d0_2 : (Option Addr)) (name1_2 : ByteArray) (body2_2 : Sl) (e7_2 : Int) (t25_2 : Bool) : K :=
  Ite t25_2
    (Q e7_2)
    (Cat name1_2 (⟨#[126]⟩ : ByteArray) fun t29 =>
    ref08_Pack.call body2_2 fun t31 =>
    ref03_Disk_Append.call d0_2 t29 t31 fun t32 =>
    Ite (decide (t32 ≠ 0))
      (Q t32)
      (Cat name1_2 (⟨#[126]⟩ : ByteArray) fun t38 =>
      ref03_Disk_Sync.call d0_2 t38 fun t39 =>
      Ite (decide (t39 ≠ 0))
        (Q t39)
        (Cat name1_2 (⟨#[126]⟩ : ByteArray) fun t45 =>
        ref03_Disk_Rename.call d0_2 t45 name1_2 fun t47 =>
        Q t47)))
def ref08_Save.s1 (Q : Int → K)  (d0_1 : (Option Addr)) (name1_1 : ByteArray) (body2_1 : Sl) (t15_1 : Bool) : K :=
  Ite t15_1
    (Q 1)
    (Cat name1_1 (⟨#[126]⟩ : ByteArray) fun t18 =>
    ref03_Disk_Remove.call d0_1 t18 fun t19 =>
    Ite (decide (t19 ≠ 0))
      (ref08_Save.s2 Q d0_1 name1_1 body2_1 t19 (decide (t19 ≠ 60)))
      (ref08_Save.s2 Q d0_1 name1_1 body2_1 t19 false))
def ref08_Save (d0 : (Option Addr)) (name1 : ByteArray) (body2 : Sl) (Q : Int → K) : K :=
  Ite (decide ((name1.size : Int) < 1))
    (ref08_Save.s1 Q d0 name1 body2 true)
    (ref08_Save.s1 Q d0 name1 body2 (decide ((15 : Int) < (name1.size : Int))))
theorem ref08_Save_ok (d0 : (Option Addr)) (name1 : ByteArray) (body2 : Sl) (Q : Int → K) (w : World) (h : ref08_Save d0 name1 body2 Q w) : ref08_Save.call d0 name1 body2 Q w := by
  unfold ref08_Save.call CallF
  refine f_start (args := [(.pointer d0), (.string name1), (Sl.val body2)]) Try.func42 rfl (Nat.le_of_ble_eq_true rfl) ?_
  intro a hs
  unfold ref08_Save at h
  refine wp_seq_k fun K1 hK1 => ?_
  refine wp_region_lit ?_
  refine t_pure hs rfl rfl (by decide) (p_assign rfl rfl) ?_
  clear hs a; intro a hs
  refine hK1 _ _ ?_
  refine wp_seq_k fun K2 hK2 => ?_
  refine wp_seq_k fun K3 hK3 => ?_
  have J1 : ∀ (t15_1 : Bool) (a : Act) (w : World), Slots a 48 [(0, (.pointer d0)), (1, (.string name1)), (2, (Sl.val body2)), (15, (.bool t15_1))] → ref08_Save.s1 Q d0 name1 body2 t15_1 w → K3 a w := by
    clear h hs
    intro t15_1 a w hs h
    refine hK3 _ _ ?_
    unfold ref08_Save.s1 at h
    refine c_cond hs rfl (fun hb => ?_) (fun hb => ?_)
    · replace h := h.1 hb
      clear hb
      refine wp_seq_k fun K4 hK4 => ?_
      refine wp_region_lit ?_
      refine t_pure hs rfl rfl (by decide) (p_assign rfl rfl) ?_
      clear hs a; intro a hs
      refine hK4 _ _ ?_
      refine wp_ret ?_
      refine f_ret (fn := Try.f42) hs (fun a hs => r_one hs rfl (rfl)) ⟨1, rfl, h⟩
    · replace h := h.2 hb
      clear hb
      refine wp_skip ?_
      refine hK2 _ _ ?_
      refine wp_seq_k fun K5 hK5 => ?_
      refine wp_region_lit ?_
      refine t_pure hs rfl rfl (by decide) (p_move rfl rfl) ?_
      clear hs a; intro a hs
      refine t_pure hs rfl rfl (by decide) (p_move rfl rfl) ?_
      clear hs a; intro a hs
      obtain ⟨t18, h0, he, h⟩ := h
      refine t_pure hs rfl rfl (by decide) (Pure.str he (p_cats rfl rfl rfl h0)) ?_
      clear hs a h0 he; intro a hs
      refine t_call hs rfl rfl (by decide) (e_call rfl rfl rfl cb_60) h ?_
      clear hs a h
      intro v a w hk hs
      obtain ⟨t19, rfl, h⟩ := hk
      refine t_pure hs rfl rfl (by decide) (p_assign rfl rfl) ?_
      clear hs a; intro a hs
      refine hK5 _ _ ?_
      refine wp_seq_k fun K6 hK6 => ?_
      refine wp_seq_k fun K7 hK7 => ?_
      have J2 : ∀ (t25_2 : Bool) (a : Act) (w : World), Slots a 48 [(0, (.pointer d0)), (1, (.string name1)), (2, (Sl.val body2)), (7, (.int .i64 t19)), (25, (.bool t25_2))] → ref08_Save.s2 Q d0 name1 body2 t19 t25_2 w → K7 a w := by
        clear h hs
        intro t25_2 a w hs h
        refine hK7 _ _ ?_
        unfold ref08_Save.s2 at h
        refine c_cond hs rfl (fun hb => ?_) (fun hb => ?_)
        · replace h := h.1 hb
          clear hb
          refine wp_seq_k fun K8 hK8 => ?_
          refine wp_region_lit ?_
          refine t_pure hs rfl rfl (by decide) (p_move rfl rfl) ?_
          clear hs a; intro a hs
          refine t_pure hs rfl rfl (by decide) (p_assign rfl rfl) ?_
          clear hs a; intro a hs
          refine hK8 _ _ ?_
          refine wp_ret ?_
          refine f_ret (fn := Try.f42) hs (fun a hs => r_one hs rfl (rfl)) ⟨t19, rfl, h⟩
        · replace h := h.2 hb
          clear hb
          refine wp_skip ?_
          refine hK6 _ _ ?_
          refine wp_seq_k fun K9 hK9 => ?_
          refine wp_region_lit ?_
          refine t_pure hs rfl rfl (by decide) (p_move rfl rfl) ?_
          clear hs a; intro a hs
          refine t_pure hs rfl rfl (by decide) (p_move rfl rfl) ?_
          clear hs a; intro a hs
          obtain ⟨t29, h0, he, h⟩ := h
          refine t_pure hs rfl rfl (by decide) (Pure.str he (p_cats rfl rfl rfl h0)) ?_
          clear hs a h0 he; intro a hs
          refine t_pure hs rfl rfl (by decide) (p_move rfl rfl) ?_
          clear hs a; intro a hs
          refine t_call hs rfl rfl (by decide) (e_call rfl rfl rfl cb_66) h ?_
          clear hs a h
          intro v a w hk hs
          obtain ⟨t31, rfl, h⟩ := hk
          refine t_call hs rfl rfl (by decide) (e_call rfl rfl rfl cb_63) h ?_
          clear hs a h
          intro v a w hk hs
          obtain ⟨t32, rfl, h⟩ := hk
          refine t_pure hs rfl rfl (by decide) (p_assign rfl rfl) ?_
          clear hs a; intro a hs
          refine hK9 _ _ ?_
          refine wp_seq_k fun K10 hK10 => ?_
          refine wp_seq_k fun K11 hK11 => ?_
          refine wp_region_lit ?_
          refine t_pure hs rfl rfl (by decide) (p_move rfl rfl) ?_
          clear hs a; intro a hs
          refine t_pure hs rfl rfl (by decide) (p_ne rfl rfl rfl) ?_
          clear hs a; intro a hs
          refine hK11 _ _ ?_
          refine c_cond hs rfl (fun hb => ?_) (fun hb => ?_)
          · replace h := h.1 hb
            clear hb
            refine wp_seq_k fun K12 hK12 => ?_
            refine wp_region_lit ?_
            refine t_pure hs rfl rfl (by decide) (p_move rfl rfl) ?_
            clear hs a; intro a hs
            refine t_pure hs rfl rfl (by decide) (p_assign rfl rfl) ?_
            clear hs a; intro a hs
            refine hK12 _ _ ?_
            refine wp_ret ?_
            refine f_ret (fn := Try.f42) hs (fun a hs => r_one hs rfl (rfl)) ⟨t32, rfl, h⟩
          · replace h := h.2 hb
            clear hb
            refine wp_skip ?_
            refine hK10 _ _ ?_
            refine wp_seq_k fun K13 hK13 => ?_
            refine wp_region_lit ?_
            refine t_pure hs rfl rfl (by decide) (p_move rfl rfl) ?_
            clear hs a; intro a hs
            refine t_pure hs rfl rfl (by decide) (p_move rfl rfl) ?_
            clear hs a; intro a hs
            obtain ⟨t38, h0, he, h⟩ := h
            refine t_pure hs rfl rfl (by decide) (Pure.str he (p_cats rfl rfl rfl h0)) ?_
            clear hs a h0 he; intro a hs
            refine t_call hs rfl rfl (by decide) (e_call rfl rfl rfl cb_58) h ?_
            clear hs a h
            intro v a w hk hs
            obtain ⟨t39, rfl, h⟩ := hk
            refine t_pure hs rfl rfl (by decide) (p_assign rfl rfl) ?_
            clear hs a; intro a hs
            refine hK13 _ _ ?_
            refine wp_seq_k fun K14 hK14 => ?_
            refine wp_seq_k fun K15 hK15 => ?_
            refine wp_region_lit ?_
            refine t_pure hs rfl rfl (by decide) (p_move rfl rfl) ?_
            clear hs a; intro a hs
            refine t_pure hs rfl rfl (by decide) (p_ne rfl rfl rfl) ?_
            clear hs a; intro a hs
            refine hK15 _ _ ?_
            refine c_cond hs rfl (fun hb => ?_) (fun hb => ?_)
            · replace h := h.1 hb
              clear hb
              refine wp_seq_k fun K16 hK16 => ?_
              refine wp_region_lit ?_
              refine t_pure hs rfl rfl (by decide) (p_move rfl rfl) ?_
              clear hs a; intro a hs
              refine t_pure hs rfl rfl (by decide) (p_assign rfl rfl) ?_
              clear hs a; intro a hs
              refine hK16 _ _ ?_
              refine wp_ret ?_
              refine f_ret (fn := Try.f42) hs (fun a hs => r_one hs rfl (rfl)) ⟨t39, rfl, h⟩
            · replace h := h.2 hb
              clear hb
              refine wp_skip ?_
              refine hK14 _ _ ?_
              refine wp_seq_k fun K17 hK17 => ?_
              refine wp_region_lit ?_
              refine t_pure hs rfl rfl (by decide) (p_move rfl rfl) ?_
              clear hs a; intro a hs
              refine t_pure hs rfl rfl (by decide) (p_move rfl rfl) ?_
              clear hs a; intro a hs
              obtain ⟨t45, h0, he, h⟩ := h
              refine t_pure hs rfl rfl (by decide) (Pure.str he (p_cats rfl rfl rfl h0)) ?_
              clear hs a h0 he; intro a hs
              refine t_pure hs rfl rfl (by decide) (p_move rfl rfl) ?_
              clear hs a; intro a hs
              refine t_call hs rfl rfl (by decide) (e_call rfl rfl rfl cb_59) h ?_
              clear hs a h
              intro v a w hk hs
              obtain ⟨t47, rfl, h⟩ := hk
              refine t_pure hs rfl rfl (by decide) (p_assign rfl rfl) ?_
              clear hs a; intro a hs
              refine hK17 _ _ ?_
              refine wp_ret ?_
              refine f_ret (fn := Try.f42) hs (fun a hs => r_one hs rfl (rfl)) ⟨t47, rfl, h⟩
      clear hK7
      refine wp_region_lit ?_
      refine t_pure hs rfl rfl (by decide) (p_move rfl rfl) ?_
      clear hs a; intro a hs
      refine t_pure hs rfl rfl (by decide) (p_ne rfl rfl rfl) ?_
      clear hs a; intro a hs
      refine t_pure hs rfl rfl (by decide) (p_move rfl rfl) ?_
      clear hs a; intro a hs
      refine split_bool (decide (t19 ≠ 0)) (fun hb => ?_) (fun hb => ?_)
      · replace h := h.1 hb
        rw [hb] at hs
        clear hb
        refine t_yes hs rfl ?_
        refine t_pure hs rfl rfl (by decide) (p_move rfl rfl) ?_
        clear hs a; intro a hs
        refine t_yes hs rfl ?_
        refine t_pure hs rfl rfl (by decide) (p_ne rfl rfl rfl) ?_
        clear hs a; intro a hs
        refine t_pure hs rfl rfl (by decide) (p_pick_t rfl rfl rfl) ?_
        clear hs a; intro a hs
        exact J2 (decide (t19 ≠ 60)) _ _ (hs.to ⟨rfl, rfl, rfl, rfl, rfl, trivial⟩) h
      · replace h := h.2 hb
        rw [hb] at hs
        clear hb
        refine t_no hs rfl rfl (by decide) ?_
        clear hs a; intro a hs
        refine t_no hs rfl rfl (by decide) ?_
        clear hs a; intro a hs
        refine t_pure hs rfl rfl (by decide) (p_pick_f rfl rfl rfl) ?_
        clear hs a; intro a hs
        exact J2 false _ _ (hs.to ⟨rfl, rfl, rfl, rfl, rfl, trivial⟩) h
  clear hK3
  refine wp_region_lit ?_
  refine t_pure hs rfl rfl (by decide) (p_move rfl rfl) ?_
  clear hs a; intro a hs
  refine t_pure hs rfl rfl (by decide) (p_lens rfl rfl st_9) ?_
  clear hs a; intro a hs
  refine t_pure hs rfl rfl (by decide) (p_lt rfl rfl rfl) ?_
  clear hs a; intro a hs
  refine t_pure hs rfl rfl (by decide) (p_move rfl rfl) ?_
  clear hs a; intro a hs
  refine split_bool (decide ((name1.size : Int) < 1)) (fun hb => ?_) (fun hb => ?_)
  · replace h := h.1 hb
    rw [hb] at hs
    clear hb
    refine t_no hs rfl rfl (by decide) ?_
    clear hs a; intro a hs
    refine t_no hs rfl rfl (by decide) ?_
    clear hs a; intro a hs
    refine t_no hs rfl rfl (by decide) ?_
    clear hs a; intro a hs
    refine t_pure hs rfl rfl (by decide) (p_pick_t rfl rfl rfl) ?_
    clear hs a; intro a hs
    exact J1 true _ _ (hs.to ⟨rfl, rfl, rfl, rfl, trivial⟩) h
  · replace h := h.2 hb
    rw [hb] at hs
    clear hb
    refine t_yes hs rfl ?_
    refine t_pure hs rfl rfl (by decide) (p_move rfl rfl) ?_
    clear hs a; intro a hs
    refine t_yes hs rfl ?_
    refine t_pure hs rfl rfl (by decide) (p_lens rfl rfl st_9) ?_
    clear hs a; intro a hs
    refine t_yes hs rfl ?_
    refine t_pure hs rfl rfl (by decide) (p_gt rfl rfl rfl) ?_
    clear hs a; intro a hs
    refine t_pure hs rfl rfl (by decide) (p_pick_f rfl rfl rfl) ?_
    clear hs a; intro a hs
    exact J1 (decide ((15 : Int) < (name1.size : Int))) _ _ (hs.to ⟨rfl, rfl, rfl, rfl, trivial⟩) h
def ref08_Load (d0 : (Option Addr)) (name1 : ByteArray) (Q : Sl → Int → K) : K :=
  ref03_Disk_Read.call d0 name1 fun t11x0 t11x1 =>
  Ite (decide (t11x1 ≠ 0))
    (New 5 #[] fun t16 =>
    Q (Sl.mk (some t16) 0 0) t11x1)
    (ref08_Unpack.call t11x0 fun t19x0 t19x1 =>
    Q t19x0 t19x1)
theorem ref08_Load_ok (d0 : (Option Addr)) (name1 : ByteArray) (Q : Sl → Int → K) (w : World) (h : ref08_Load d0 name1 Q w) : ref08_Load.call d0 name1 Q w := by
  unfold ref08_Load.call CallF
  refine f_start (args := [(.pointer d0), (.string name1)]) Try.func43 rfl (Nat.le_of_ble_eq_true rfl) ?_
  intro a hs
  unfold ref08_Load at h
  refine wp_seq_k fun K1 hK1 => ?_
  refine wp_region_lit ?_
  refine t_pure hs rfl rfl (by decide) (p_assign rfl rfl) ?_
  clear hs a; intro a hs
  refine t_pure hs rfl rfl (by decide) (p_assign rfl rfl) ?_
  clear hs a; intro a hs
  refine hK1 _ _ ?_
  refine wp_seq_k fun K2 hK2 => ?_
  refine wp_region_lit ?_
  refine t_pure hs rfl rfl (by decide) (p_move rfl rfl) ?_
  clear hs a; intro a hs
  refine t_pure hs rfl rfl (by decide) (p_move rfl rfl) ?_
  clear hs a; intro a hs
  refine t_call hs rfl rfl (by decide) (e_call rfl rfl rfl cb_56) h ?_
  clear hs a h
  intro v a w hk hs
  obtain ⟨t11x0, t11x1, rfl, h⟩ := hk
  refine t_pure hs rfl rfl (by decide) (p_move rfl rfl) ?_
  clear hs a; intro a hs
  refine t_pure hs rfl rfl (by decide) (p_extract rfl rfl rfl) ?_
  clear hs a; intro a hs
  refine t_pure hs rfl rfl (by decide) (p_extract rfl rfl rfl) ?_
  clear hs a; intro a hs
  refine t_pure hs rfl rfl (by decide) (p_assign rfl rfl) ?_
  clear hs a; intro a hs
  refine t_pure hs rfl rfl (by decide) (p_assign rfl rfl) ?_
  clear hs a; intro a hs
  refine hK2 _ _ ?_
  refine wp_seq_k fun K3 hK3 => ?_
  refine wp_seq_k fun K4 hK4 => ?_
  refine wp_region_lit ?_
  refine t_pure hs rfl rfl (by decide) (p_move rfl rfl) ?_
  clear hs a; intro a hs
  refine t_pure hs rfl rfl (by decide) (p_ne rfl rfl rfl) ?_
  clear hs a; intro a hs
  refine hK4 _ _ ?_
  refine c_cond hs rfl (fun hb => ?_) (fun hb => ?_)
  · replace h := h.1 hb
    clear hb
    refine wp_seq_k fun K5 hK5 => ?_
    refine wp_region_lit ?_
    obtain ⟨t16, w1, ha, hw, h⟩ := h
    refine t_eff hs rfl rfl (by decide) (e_buildSlice (z := #[]) (cs := #[]) rfl sl_33 zt_5 (by decide) rfl rz_5_0 (by rfl) ha hw) ?_
    clear hs a ha hw; intro a hs
    refine t_pure hs rfl rfl (by decide) (p_move rfl rfl) ?_
    clear hs a; intro a hs
    refine t_pure hs rfl rfl (by decide) (p_assign rfl rfl) ?_
    clear hs a; intro a hs
    refine t_pure hs rfl rfl (by decide) (p_assign rfl rfl) ?_
    clear hs a; intro a hs
    refine hK5 _ _ ?_
    refine wp_ret ?_
    refine f_ret (fn := Try.f43) hs (fun a hs => r_many hs (rs := [ResultVar.tmp 4, ResultVar.tmp 5]) (vs := [(Sl.val (Sl.mk (some t16) 0 0)), (.int .i64 t11x1)]) rfl (by decide) ⟨rfl, rfl, trivial⟩) ⟨(Sl.mk (some t16) 0 0), t11x1, rfl, h⟩
  · replace h := h.2 hb
    clear hb
    refine wp_skip ?_
    refine hK3 _ _ ?_
    refine wp_seq_k fun K6 hK6 => ?_
    refine wp_region_lit ?_
    refine t_pure hs rfl rfl (by decide) (p_move rfl rfl) ?_
    clear hs a; intro a hs
    refine t_call hs rfl rfl (by decide) (e_call rfl rfl rfl cb_67) h ?_
    clear hs a h
    intro v a w hk hs
    obtain ⟨t19x0, t19x1, rfl, h⟩ := hk
    refine t_pure hs rfl rfl (by decide) (p_extract rfl rfl rfl) ?_
    clear hs a; intro a hs
    refine t_pure hs rfl rfl (by decide) (p_extract rfl rfl rfl) ?_
    clear hs a; intro a hs
    refine t_pure hs rfl rfl (by decide) (p_assign rfl rfl) ?_
    clear hs a; intro a hs
    refine t_pure hs rfl rfl (by decide) (p_assign rfl rfl) ?_
    clear hs a; intro a hs
    refine hK6 _ _ ?_
    refine wp_ret ?_
    refine f_ret (fn := Try.f43) hs (fun a hs => r_many hs (rs := [ResultVar.tmp 4, ResultVar.tmp 5]) (vs := [(Sl.val t19x0), (.int .i64 t19x1)]) rfl (by decide) ⟨rfl, rfl, trivial⟩) ⟨t19x0, t19x1, rfl, h⟩
def ref08_Pack.s2 (Q : Sl → K) (X1 : Sl → Int → K) (body0_2 : Sl) (out3_2 : Sl) (at5_2 : Int) (to6_2 : Int) : K :=
  Slc body0_2 at5_2 to6_2 (body0_2.c : Int) 1 fun t35 =>
  ref01_Frame.call t35 fun t36x0 t36x1 =>
  Do Try.prog (Builtin.append_ #[33, 33] 33 #[(Sl.val out3_2), (Sl.val t36x0)]) Sl.val fun t41 =>
  Ar (IntKind.wrap .i64 (at5_2 + 1024)) fun t22 =>
  X1 t41 t22
def ref08_Pack.b1 (Q : Sl → K)  (X1 : Sl → Int → K) (body0_1 : Sl) (out3_1 : Sl) (at5_1 : Int) : K :=
  Ite (decide (at5_1 < (body0_1.n : Int)))
    (Ar (IntKind.wrap .i64 (at5_1 + 1024)) fun t24 =>
    Ite (decide ((body0_1.n : Int) < t24))
      (ref08_Pack.s2 Q X1 body0_1 out3_1 at5_1 (body0_1.n : Int))
      (ref08_Pack.s2 Q X1 body0_1 out3_1 at5_1 t24))
    (Q out3_1)
def ref08_Pack (body0 : Sl) (Q : Sl → K) : K :=
  Ar (IntKind.wrap .u64 (body0.n : Int)) fun t12 =>
  ref01_Num.call t12 fun t13 =>
  ref01_Frame.call t13 fun t14x0 t14x1 =>
  LoopK (α := Sl × Int) (fun X x => ref08_Pack.b1 Q (fun out3_1 at5_1 => X (out3_1, at5_1)) body0 x.1 x.2) (t14x0, 0)
theorem ref08_Pack_ok (body0 : Sl) (Q : Sl → K) (w : World) (h : ref08_Pack body0 Q w) : ref08_Pack.call body0 Q w := by
  unfold ref08_Pack.call CallF
  refine f_start (args := [(Sl.val body0)]) Try.func66 rfl (Nat.le_of_ble_eq_true rfl) ?_
  intro a hs
  unfold ref08_Pack at h
  refine wp_seq_k fun K1 hK1 => ?_
  refine wp_region_lit ?_
  refine t_pure hs rfl rfl (by decide) (p_assign rfl rfl) ?_
  clear hs a; intro a hs
  refine hK1 _ _ ?_
  refine wp_seq_k fun K2 hK2 => ?_
  refine wp_region_lit ?_
  refine t_pure hs rfl rfl (by decide) (p_move rfl rfl) ?_
  clear hs a; intro a hs
  refine t_pure hs rfl rfl (by decide) (p_len rfl rfl sl_33) ?_
  clear hs a; intro a hs
  obtain ⟨t12, he, h⟩ := h
  refine t_pure hs rfl rfl (by decide) (Pure.int he (p_conv_int rfl rfl in_3 in_34)) ?_
  clear hs a he; intro a hs
  refine t_call hs rfl rfl (by decide) (e_call rfl rfl rfl cb_86) h ?_
  clear hs a h
  intro v a w hk hs
  obtain ⟨t13, rfl, h⟩ := hk
  refine t_call hs rfl rfl (by decide) (e_call rfl rfl rfl cb_85) h ?_
  clear hs a h
  intro v a w hk hs
  obtain ⟨t14x0, t14x1, rfl, h⟩ := hk
  refine t_pure hs rfl rfl (by decide) (p_move rfl rfl) ?_
  clear hs a; intro a hs
  refine t_pure hs rfl rfl (by decide) (p_extract rfl rfl rfl) ?_
  clear hs a; intro a hs
  refine t_pure hs rfl rfl (by decide) (p_extract rfl rfl rfl) ?_
  clear hs a; intro a hs
  replace hs := hs.to (τ := [(0, (Sl.val body0)), (15, (Sl.val t14x0)), (16, (.int .i64 t14x1))]) ⟨rfl, rfl, rfl, trivial⟩
  refine t_pure hs rfl rfl (by decide) (p_assign rfl rfl) ?_
  clear hs a; intro a hs
  refine t_pure hs rfl rfl (by decide) (p_assign rfl rfl) ?_
  clear hs a; intro a hs
  refine hK2 _ _ ?_
  refine wp_seq_k fun K3 hK3 => ?_
  refine wp_seq_k fun K4 hK4 => ?_
  refine wp_region_lit ?_
  refine t_pure hs rfl rfl (by decide) (p_assign rfl rfl) ?_
  clear hs a; intro a hs
  refine hK4 _ _ ?_
  refine wp_block ?_
  obtain ⟨I1, μ1, h0, hr⟩ := h
  refine c_loop (α := Sl × Int) I1 μ1 (fun x a => Slots a 43 [(0, (Sl.val body0)), (3, (Sl.val x.1)), (5, (.int .i64 x.2))]) (t14x0, 0) h0 (hs.to ⟨rfl, rfl, rfl, trivial⟩) ?_
  clear h0 hs a
  rintro ⟨out3_1, at5_1⟩ a w hI hs
  have h : ref08_Pack.b1 Q (fun out3_1n at5_1n w' => I1 (out3_1n, at5_1n) w' ∧ μ1 (out3_1n, at5_1n) w' < μ1 (out3_1, at5_1) w) body0 out3_1 at5_1 w := hr (out3_1, at5_1) w hI
  clear hr hI
  generalize hX1 : (fun out3_1n at5_1n w' => I1 (out3_1n, at5_1n) w' ∧ μ1 (out3_1n, at5_1n) w' < μ1 (out3_1, at5_1) w) = X1 at h
  unfold ref08_Pack.b1 at h
  replace hs : Slots a 43 [(0, (Sl.val body0)), (3, (Sl.val out3_1)), (5, (.int .i64 at5_1))] := hs
  refine wp_seq_k fun K5 hK5 => ?_
  refine wp_seq_k fun K6 hK6 => ?_
  refine wp_region_lit ?_
  refine t_pure hs rfl rfl (by decide) (p_move rfl rfl) ?_
  clear hs a; intro a hs
  refine t_pure hs rfl rfl (by decide) (p_move rfl rfl) ?_
  clear hs a; intro a hs
  refine t_pure hs rfl rfl (by decide) (p_len rfl rfl sl_33) ?_
  clear hs a; intro a hs
  refine t_pure hs rfl rfl (by decide) (p_lt rfl rfl rfl) ?_
  clear hs a; intro a hs
  refine hK6 _ _ ?_
  refine c_cond hs rfl (fun hb => ?_) (fun hb => ?_)
  · replace h := h.1 hb
    clear hb
    refine wp_skip ?_
    refine hK5 _ _ ?_
    refine wp_seq_k fun K7 hK7 => ?_
    refine wp_block ?_
    refine wp_seq_k fun K8 hK8 => ?_
    refine wp_region_lit ?_
    refine t_pure hs rfl rfl (by decide) (p_move rfl rfl) ?_
    clear hs a; intro a hs
    obtain ⟨t24, he, h⟩ := h
    refine t_pure hs rfl rfl (by decide) (Pure.int he (p_add rfl rfl rfl)) ?_
    clear hs a he; intro a hs
    refine t_pure hs rfl rfl (by decide) (p_assign rfl rfl) ?_
    clear hs a; intro a hs
    refine hK8 _ _ ?_
    refine wp_seq_k fun K9 hK9 => ?_
    have J2 : ∀ (to6_2 : Int) (a : Act) (w : World), Slots a 43 [(0, (Sl.val body0)), (3, (Sl.val out3_1)), (5, (.int .i64 at5_1)), (6, (.int .i64 to6_2))] → ref08_Pack.s2 Q X1 body0 out3_1 at5_1 to6_2 w → K9 a w := by
      clear h hs
      intro to6_2 a w hs h
      refine hK9 _ _ ?_
      unfold ref08_Pack.s2 at h
      refine wp_seq_k fun K10 hK10 => ?_
      refine wp_region_lit ?_
      refine t_pure hs rfl rfl (by decide) (p_move rfl rfl) ?_
      clear hs a; intro a hs
      refine t_pure hs rfl rfl (by decide) (p_move rfl rfl) ?_
      clear hs a; intro a hs
      refine t_pure hs rfl rfl (by decide) (p_move rfl rfl) ?_
      clear hs a; intro a hs
      obtain ⟨t35, h0, h1, h2, h3, he, h⟩ := h
      refine t_pure hs rfl rfl (by decide) (Pure.sl he (p_slc rfl rfl sl_33 ⟨_, rfl⟩ ⟨_, rfl⟩ rfl (by decide) h0 h1 h2 h3)) ?_
      clear hs a h0 h1 h2 h3 he; intro a hs
      refine t_call hs rfl rfl (by decide) (e_call rfl rfl rfl cb_85) h ?_
      clear hs a h
      intro v a w hk hs
      obtain ⟨t36x0, t36x1, rfl, h⟩ := hk
      refine t_pure hs rfl rfl (by decide) (p_move rfl rfl) ?_
      clear hs a; intro a hs
      refine t_pure hs rfl rfl (by decide) (p_extract rfl rfl rfl) ?_
      clear hs a; intro a hs
      refine t_pure hs rfl rfl (by decide) (p_extract rfl rfl rfl) ?_
      clear hs a; intro a hs
      replace hs := hs.to (τ := [(0, (Sl.val body0)), (3, (Sl.val out3_1)), (5, (.int .i64 at5_1)), (37, (Sl.val t36x0)), (38, (.int .i64 t36x1))]) ⟨rfl, rfl, rfl, rfl, rfl, trivial⟩
      refine t_pure hs rfl rfl (by decide) (p_assign rfl rfl) ?_
      clear hs a; intro a hs
      refine t_pure hs rfl rfl (by decide) (p_assign rfl rfl) ?_
      clear hs a; intro a hs
      refine hK10 _ _ ?_
      refine wp_region_lit ?_
      refine t_pure hs rfl rfl (by decide) (p_move rfl rfl) ?_
      clear hs a; intro a hs
      refine t_pure hs rfl rfl (by decide) (p_move rfl rfl) ?_
      clear hs a; intro a hs
      obtain ⟨t41, w1, hd, h⟩ := h
      refine t_eff hs rfl rfl (by decide) (e_append rfl rfl rfl rfl hd) ?_
      clear hs a hd; intro a hs
      refine t_pure hs rfl rfl (by decide) (p_assign rfl rfl) ?_
      clear hs a; intro a hs
      refine hK7 _ _ ?_
      refine wp_region_lit ?_
      refine t_pure hs rfl rfl (by decide) (p_move rfl rfl) ?_
      clear hs a; intro a hs
      obtain ⟨t22, he, h⟩ := h
      refine t_pure hs rfl rfl (by decide) (Pure.int he (p_add rfl rfl rfl)) ?_
      clear hs a he; intro a hs
      refine t_pure hs rfl rfl (by decide) (p_assign rfl rfl) ?_
      clear hs a; intro a hs
      rw [← hX1] at h
      exact ⟨(t41, t22), hs.to ⟨rfl, rfl, rfl, trivial⟩, h⟩
    clear hK9
    refine wp_seq_k fun K11 hK11 => ?_
    refine wp_region_lit ?_
    refine t_pure hs rfl rfl (by decide) (p_move rfl rfl) ?_
    clear hs a; intro a hs
    refine t_pure hs rfl rfl (by decide) (p_move rfl rfl) ?_
    clear hs a; intro a hs
    refine t_pure hs rfl rfl (by decide) (p_len rfl rfl sl_33) ?_
    clear hs a; intro a hs
    refine t_pure hs rfl rfl (by decide) (p_gt rfl rfl rfl) ?_
    clear hs a; intro a hs
    refine hK11 _ _ ?_
    refine c_cond hs rfl (fun hb => ?_) (fun hb => ?_)
    · replace h := h.1 hb
      clear hb
      refine wp_region_lit ?_
      refine t_pure hs rfl rfl (by decide) (p_move rfl rfl) ?_
      clear hs a; intro a hs
      refine t_pure hs rfl rfl (by decide) (p_len rfl rfl sl_33) ?_
      clear hs a; intro a hs
      refine t_pure hs rfl rfl (by decide) (p_assign rfl rfl) ?_
      clear hs a; intro a hs
      exact J2 (body0.n : Int) _ _ (hs.to ⟨rfl, rfl, rfl, rfl, trivial⟩) h
    · replace h := h.2 hb
      clear hb
      refine wp_skip ?_
      exact J2 t24 _ _ (hs.to ⟨rfl, rfl, rfl, rfl, trivial⟩) h
  · replace h := h.2 hb
    clear hb
    refine wp_exit ?_
    refine hK3 _ _ ?_
    refine wp_seq_k fun K12 hK12 => ?_
    refine wp_region_lit ?_
    refine t_pure hs rfl rfl (by decide) (p_move rfl rfl) ?_
    clear hs a; intro a hs
    refine t_pure hs rfl rfl (by decide) (p_assign rfl rfl) ?_
    clear hs a; intro a hs
    refine hK12 _ _ ?_
    refine wp_ret ?_
    refine f_ret (fn := Try.f66) hs (fun a hs => r_one hs rfl (rfl)) ⟨out3_1, rfl, h⟩
def ref08_Unpack.s4 (Q : Sl → Int → K) (X2 : Int → Sl → K) (data0_4 : Sl) (at5_4 : Int) (n8_4 : Int) (out10_4 : Sl) (b11_4 : Sl) (k12_4 : Int) (t76_4 : Bool) : K :=
  Ite t76_4
    (New 5 #[] fun t77 =>
    Q (Sl.mk (some t77) 0 0) 61)
    (Do Try.prog (Builtin.append_ #[33, 33] 33 #[(Sl.val out10_4), (Sl.val b11_4)]) Sl.val fun t80 =>
    Ar (IntKind.wrap .i64 (at5_4 + k12_4)) fun t83 =>
    X2 t83 t80)
def ref08_Unpack.s3 (Q : Sl → Int → K) (X2 : Int → Sl → K) (data0_3 : Sl) (at5_3 : Int) (n8_3 : Int) (out10_3 : Sl) (b11_3 : Sl) (k12_3 : Int) (e13_3 : Int) (want14_3 : Int) : K :=
  Ite (decide (e13_3 ≠ 0))
    (ref08_Unpack.s4 Q X2 data0_3 at5_3 n8_3 out10_3 b11_3 k12_3 true)
    (Ar (IntKind.wrap .u64 (b11_3.n : Int)) fun t73 =>
    ref08_Unpack.s4 Q X2 data0_3 at5_3 n8_3 out10_3 b11_3 k12_3 (decide (t73 ≠ want14_3)))
def ref08_Unpack.b2 (Q : Sl → Int → K)  (X2 : Int → Sl → K) (data0_2 : Sl) (n8_2 : Int) (at5_2 : Int) (out10_2 : Sl) : K :=
  Ar (IntKind.wrap .u64 (out10_2.n : Int)) fun t50 =>
  Ite (decide (t50 < n8_2))
    (Slc data0_2 at5_2 (data0_2.n : Int) (data0_2.c : Int) 1 fun t56 =>
    ref01_Unframe.call t56 fun t57x0 t57x1 t57x2 =>
    Ar (IntKind.wrap .u64 (out10_2.n : Int)) fun t64 =>
    Ar (IntKind.wrap .u64 (n8_2 - t64)) fun t65 =>
    Ite (decide ((1024 : Int) < t65))
      (ref08_Unpack.s3 Q X2 data0_2 at5_2 n8_2 out10_2 t57x0 t57x1 t57x2 1024)
      (ref08_Unpack.s3 Q X2 data0_2 at5_2 n8_2 out10_2 t57x0 t57x1 t57x2 t65))
    (Ite (decide (at5_2 ≠ (data0_2.n : Int)))
      (New 5 #[] fun t88 =>
      Q (Sl.mk (some t88) 0 0) 61)
      (Q out10_2 0))
def ref08_Unpack.s1 (Q : Sl → Int → K)  (data0_1 : Sl) (at5_1 : Int) (n8_1 : Int) (t45_1 : Bool) : K :=
  Ite t45_1
    (New 5 #[] fun t46 =>
    Q (Sl.mk (some t46) 0 0) 61)
    (New 5 #[] fun t47 =>
    LoopK (α := Int × Sl) (fun X x => ref08_Unpack.b2 Q (fun at5_2 out10_2 => X (at5_2, out10_2)) data0_1 n8_1 x.1 x.2) (at5_1, (Sl.mk (some t47) 0 0)))
def ref08_Unpack (data0 : Sl) (Q : Sl → Int → K) : K :=
  ref01_Unframe.call data0 fun t17x0 t17x1 t17x2 =>
  Ite (decide (t17x2 ≠ 0))
    (New 5 #[] fun t23 =>
    Q (Sl.mk (some t23) 0 0) 61)
    (New 155 #[(Sl.val t17x0), (.int .i64 0)] fun t26 =>
    ref01_Eye_Num.call (some t26) fun t29x0 t29x1 =>
    Ite (decide (t29x1 ≠ 0))
      (ref08_Unpack.s1 Q data0 t17x1 t29x0 true)
      (ref01_Eye_End.call (some t26) fun t36 =>
      Ite (decide (t36 ≠ 0))
        (ref08_Unpack.s1 Q data0 t17x1 t29x0 true)
        (Ar (IntKind.wrap .u64 (data0.n : Int)) fun t43 =>
        ref08_Unpack.s1 Q data0 t17x1 t29x0 (decide (t43 < t29x0)))))
theorem ref08_Unpack_ok (data0 : Sl) (Q : Sl → Int → K) (w : World) (h : ref08_Unpack data0 Q w) : ref08_Unpack.call data0 Q w := by
  unfold ref08_Unpack.call CallF
  refine f_start (args := [(Sl.val data0)]) Try.func67 rfl (Nat.le_of_ble_eq_true rfl) ?_
  intro a hs
  unfold ref08_Unpack at h
  refine wp_seq_k fun K1 hK1 => ?_
  refine wp_region_lit ?_
  refine t_pure hs rfl rfl (by decide) (p_assign rfl rfl) ?_
  clear hs a; intro a hs
  refine t_pure hs rfl rfl (by decide) (p_assign rfl rfl) ?_
  clear hs a; intro a hs
  refine hK1 _ _ ?_
  refine wp_seq_k fun K2 hK2 => ?_
  refine wp_region_lit ?_
  refine t_pure hs rfl rfl (by decide) (p_move rfl rfl) ?_
  clear hs a; intro a hs
  refine t_call hs rfl rfl (by decide) (e_call rfl rfl rfl cb_87) h ?_
  clear hs a h
  intro v a w hk hs
  obtain ⟨t17x0, t17x1, t17x2, rfl, h⟩ := hk
  refine t_pure hs rfl rfl (by decide) (p_move rfl rfl) ?_
  clear hs a; intro a hs
  refine t_pure hs rfl rfl (by decide) (p_extract rfl rfl rfl) ?_
  clear hs a; intro a hs
  refine t_pure hs rfl rfl (by decide) (p_extract rfl rfl rfl) ?_
  clear hs a; intro a hs
  refine t_pure hs rfl rfl (by decide) (p_extract rfl rfl rfl) ?_
  clear hs a; intro a hs
  refine t_pure hs rfl rfl (by decide) (p_assign rfl rfl) ?_
  clear hs a; intro a hs
  refine t_pure hs rfl rfl (by decide) (p_assign rfl rfl) ?_
  clear hs a; intro a hs
  replace hs := hs.to (τ := [(0, (Sl.val data0)), (4, (Sl.val t17x0)), (5, (.int .i64 t17x1)), (20, (.int .i64 t17x2))]) ⟨rfl, rfl, rfl, rfl, trivial⟩
  refine t_pure hs rfl rfl (by decide) (p_assign rfl rfl) ?_
  clear hs a; intro a hs
  refine hK2 _ _ ?_
  refine wp_seq_k fun K3 hK3 => ?_
  refine wp_seq_k fun K4 hK4 => ?_
  refine wp_region_lit ?_
  refine t_pure hs rfl rfl (by decide) (p_move rfl rfl) ?_
  clear hs a; intro a hs
  refine t_pure hs rfl rfl (by decide) (p_ne rfl rfl rfl) ?_
  clear hs a; intro a hs
  refine hK4 _ _ ?_
  refine c_cond hs rfl (fun hb => ?_) (fun hb => ?_)
  · replace h := h.1 hb
    clear hb
    refine wp_seq_k fun K5 hK5 => ?_
    refine wp_region_lit ?_
    obtain ⟨t23, w1, ha, hw, h⟩ := h
    refine t_eff hs rfl rfl (by decide) (e_buildSlice (z := #[]) (cs := #[]) rfl sl_33 zt_5 (by decide) rfl rz_5_0 (by rfl) ha hw) ?_
    clear hs a ha hw; intro a hs
    refine t_pure hs rfl rfl (by decide) (p_assign rfl rfl) ?_
    clear hs a; intro a hs
    refine t_pure hs rfl rfl (by decide) (p_assign rfl rfl) ?_
    clear hs a; intro a hs
    refine hK5 _ _ ?_
    refine wp_ret ?_
    refine f_ret (fn := Try.f67) hs (fun a hs => r_many hs (rs := [ResultVar.tmp 2, ResultVar.tmp 3]) (vs := [(Sl.val (Sl.mk (some t23) 0 0)), (.int .i64 61)]) rfl (by decide) ⟨rfl, rfl, trivial⟩) ⟨(Sl.mk (some t23) 0 0), 61, rfl, h⟩
  · replace h := h.2 hb
    clear hb
    refine wp_skip ?_
    refine hK3 _ _ ?_
    refine wp_seq_k fun K6 hK6 => ?_
    refine wp_region_lit ?_
    refine t_pure hs rfl rfl (by decide) (p_move rfl rfl) ?_
    clear hs a; intro a hs
    refine t_pure hs rfl rfl (by decide) (e_build (cs := #[(Sl.val t17x0), (.int .i64 0)]) rfl zt_155 pl_155 rfl rfl) ?_
    clear hs a; intro a hs
    obtain ⟨t26, w1, ha, hw, h⟩ := h
    refine t_eff hs rfl rfl (by decide) (e_box rfl rfl rfl ha hw) ?_
    clear hs a ha hw; intro a hs
    refine t_pure hs rfl rfl (by decide) (p_assign rfl rfl) ?_
    clear hs a; intro a hs
    refine hK6 _ _ ?_
    refine wp_seq_k fun K7 hK7 => ?_
    refine wp_region_lit ?_
    refine t_pure hs rfl rfl (by decide) (p_move rfl rfl) ?_
    clear hs a; intro a hs
    refine t_call hs rfl rfl (by decide) (e_call rfl rfl rfl cb_88) h ?_
    clear hs a h
    intro v a w hk hs
    obtain ⟨t29x0, t29x1, rfl, h⟩ := hk
    refine t_pure hs rfl rfl (by decide) (p_move rfl rfl) ?_
    clear hs a; intro a hs
    refine t_pure hs rfl rfl (by decide) (p_extract rfl rfl rfl) ?_
    clear hs a; intro a hs
    refine t_pure hs rfl rfl (by decide) (p_extract rfl rfl rfl) ?_
    clear hs a; intro a hs
    refine t_pure hs rfl rfl (by decide) (p_assign rfl rfl) ?_
    clear hs a; intro a hs
    refine t_pure hs rfl rfl (by decide) (p_assign rfl rfl) ?_
    clear hs a; intro a hs
    refine hK7 _ _ ?_
    refine wp_seq_k fun K8 hK8 => ?_
    refine wp_seq_k fun K9 hK9 => ?_
    have J1 : ∀ (t45_1 : Bool) (a : Act) (w : World), Slots a 90 [(0, (Sl.val data0)), (5, (.int .i64 t17x1)), (8, (.int .u64 t29x0)), (45, (.bool t45_1))] → ref08_Unpack.s1 Q data0 t17x1 t29x0 t45_1 w → K9 a w := by
      clear h hs
      intro t45_1 a w hs h
      refine hK9 _ _ ?_
      unfold ref08_Unpack.s1 at h
      refine c_cond hs rfl (fun hb => ?_) (fun hb => ?_)
      · replace h := h.1 hb
        clear hb
        refine wp_seq_k fun K10 hK10 => ?_
        refine wp_region_lit ?_
        obtain ⟨t46, w1, ha, hw, h⟩ := h
        refine t_eff hs rfl rfl (by decide) (e_buildSlice (z := #[]) (cs := #[]) rfl sl_33 zt_5 (by decide) rfl rz_5_0 (by rfl) ha hw) ?_
        clear hs a ha hw; intro a hs
        refine t_pure hs rfl rfl (by decide) (p_assign rfl rfl) ?_
        clear hs a; intro a hs
        refine t_pure hs rfl rfl (by decide) (p_assign rfl rfl) ?_
        clear hs a; intro a hs
        refine hK10 _ _ ?_
        refine wp_ret ?_
        refine f_ret (fn := Try.f67) hs (fun a hs => r_many hs (rs := [ResultVar.tmp 2, ResultVar.tmp 3]) (vs := [(Sl.val (Sl.mk (some t46) 0 0)), (.int .i64 61)]) rfl (by decide) ⟨rfl, rfl, trivial⟩) ⟨(Sl.mk (some t46) 0 0), 61, rfl, h⟩
      · replace h := h.2 hb
        clear hb
        refine wp_skip ?_
        refine hK8 _ _ ?_
        refine wp_seq_k fun K11 hK11 => ?_
        refine wp_region_lit ?_
        obtain ⟨t47, w1, ha, hw, h⟩ := h
        refine t_eff hs rfl rfl (by decide) (e_buildSlice (z := #[]) (cs := #[]) rfl sl_33 zt_5 (by decide) rfl rz_5_0 (by rfl) ha hw) ?_
        clear hs a ha hw; intro a hs
        refine t_pure hs rfl rfl (by decide) (p_assign rfl rfl) ?_
        clear hs a; intro a hs
        refine hK11 _ _ ?_
        refine wp_seq_k fun K12 hK12 => ?_
        refine wp_block ?_
        obtain ⟨I2, μ2, h0, hr⟩ := h
        refine c_loop (α := Int × Sl) I2 μ2 (fun x a => Slots a 90 [(0, (Sl.val data0)), (5, (.int .i64 x.1)), (8, (.int .u64 t29x0)), (10, (Sl.val x.2))]) (t17x1, (Sl.mk (some t47) 0 0)) h0 (hs.to ⟨rfl, rfl, rfl, rfl, trivial⟩) ?_
        clear h0 hs a
        rintro ⟨at5_2, out10_2⟩ a w hI hs
        have h : ref08_Unpack.b2 Q (fun at5_2n out10_2n w' => I2 (at5_2n, out10_2n) w' ∧ μ2 (at5_2n, out10_2n) w' < μ2 (at5_2, out10_2) w) data0 t29x0 at5_2 out10_2 w := hr (at5_2, out10_2) w hI
        clear hr hI
        generalize hX2 : (fun at5_2n out10_2n w' => I2 (at5_2n, out10_2n) w' ∧ μ2 (at5_2n, out10_2n) w' < μ2 (at5_2, out10_2) w) = X2 at h
        unfold ref08_Unpack.b2 at h
        replace hs : Slots a 90 [(0, (Sl.val data0)), (5, (.int .i64 at5_2)), (8, (.int .u64 t29x0)), (10, (Sl.val out10_2))] := hs
        refine wp_seq_k fun K13 hK13 => ?_
        refine wp_seq_k fun K14 hK14 => ?_
        refine wp_region_lit ?_
        refine t_pure hs rfl rfl (by decide) (p_move rfl rfl) ?_
        clear hs a; intro a hs
        refine t_pure hs rfl rfl (by decide) (p_len rfl rfl sl_33) ?_
        clear hs a; intro a hs
        obtain ⟨t50, he, h⟩ := h
        refine t_pure hs rfl rfl (by decide) (Pure.int he (p_conv_int rfl rfl in_3 in_34)) ?_
        clear hs a he; intro a hs
        refine t_pure hs rfl rfl (by decide) (p_move rfl rfl) ?_
        clear hs a; intro a hs
        refine t_pure hs rfl rfl (by decide) (p_lt rfl rfl rfl) ?_
        clear hs a; intro a hs
        refine hK14 _ _ ?_
        refine c_cond hs rfl (fun hb => ?_) (fun hb => ?_)
        · replace h := h.1 hb
          clear hb
          refine wp_skip ?_
          refine hK13 _ _ ?_
          refine wp_block ?_
          refine wp_seq_k fun K15 hK15 => ?_
          refine wp_region_lit ?_
          refine t_pure hs rfl rfl (by decide) (p_move rfl rfl) ?_
          clear hs a; intro a hs
          refine t_pure hs rfl rfl (by decide) (p_move rfl rfl) ?_
          clear hs a; intro a hs
          obtain ⟨t56, h0, h1, h2, h3, he, h⟩ := h
          refine t_pure hs rfl rfl (by decide) (Pure.sl he (p_slc rfl rfl sl_33 ⟨_, rfl⟩ rfl rfl (by decide) h0 h1 h2 h3)) ?_
          clear hs a h0 h1 h2 h3 he; intro a hs
          refine t_call hs rfl rfl (by decide) (e_call rfl rfl rfl cb_87) h ?_
          clear hs a h
          intro v a w hk hs
          obtain ⟨t57x0, t57x1, t57x2, rfl, h⟩ := hk
          refine t_pure hs rfl rfl (by decide) (p_move rfl rfl) ?_
          clear hs a; intro a hs
          refine t_pure hs rfl rfl (by decide) (p_extract rfl rfl rfl) ?_
          clear hs a; intro a hs
          refine t_pure hs rfl rfl (by decide) (p_extract rfl rfl rfl) ?_
          clear hs a; intro a hs
          refine t_pure hs rfl rfl (by decide) (p_extract rfl rfl rfl) ?_
          clear hs a; intro a hs
          replace hs := hs.to (τ := [(0, (Sl.val data0)), (5, (.int .i64 at5_2)), (8, (.int .u64 t29x0)), (10, (Sl.val out10_2)), (58, (Sl.val t57x0)), (59, (.int .i64 t57x1)), (60, (.int .i64 t57x2))]) ⟨rfl, rfl, rfl, rfl, rfl, rfl, rfl, trivial⟩
          refine t_pure hs rfl rfl (by decide) (p_assign rfl rfl) ?_
          clear hs a; intro a hs
          refine t_pure hs rfl rfl (by decide) (p_assign rfl rfl) ?_
          clear hs a; intro a hs
          refine t_pure hs rfl rfl (by decide) (p_assign rfl rfl) ?_
          clear hs a; intro a hs
          refine hK15 _ _ ?_
          refine wp_seq_k fun K16 hK16 => ?_
          refine wp_region_lit ?_
          refine t_pure hs rfl rfl (by decide) (p_move rfl rfl) ?_
          clear hs a; intro a hs
          refine t_pure hs rfl rfl (by decide) (p_move rfl rfl) ?_
          clear hs a; intro a hs
          refine t_pure hs rfl rfl (by decide) (p_len rfl rfl sl_33) ?_
          clear hs a; intro a hs
          obtain ⟨t64, he, h⟩ := h
          refine t_pure hs rfl rfl (by decide) (Pure.int he (p_conv_int rfl rfl in_3 in_34)) ?_
          clear hs a he; intro a hs
          obtain ⟨t65, he, h⟩ := h
          refine t_pure hs rfl rfl (by decide) (Pure.int he (p_sub rfl rfl rfl)) ?_
          clear hs a he; intro a hs
          refine t_pure hs rfl rfl (by decide) (p_assign rfl rfl) ?_
          clear hs a; intro a hs
          refine hK16 _ _ ?_
          refine wp_seq_k fun K17 hK17 => ?_
          have J3 : ∀ (want14_3 : Int) (a : Act) (w : World), Slots a 90 [(0, (Sl.val data0)), (5, (.int .i64 at5_2)), (8, (.int .u64 t29x0)), (10, (Sl.val out10_2)), (11, (Sl.val t57x0)), (12, (.int .i64 t57x1)), (13, (.int .i64 t57x2)), (14, (.int .u64 want14_3))] → ref08_Unpack.s3 Q X2 data0 at5_2 t29x0 out10_2 t57x0 t57x1 t57x2 want14_3 w → K17 a w := by
            clear h hs
            intro want14_3 a w hs h
            refine hK17 _ _ ?_
            unfold ref08_Unpack.s3 at h
            refine wp_seq_k fun K18 hK18 => ?_
            refine wp_seq_k fun K19 hK19 => ?_
            have J4 : ∀ (t76_4 : Bool) (a : Act) (w : World), Slots a 90 [(0, (Sl.val data0)), (5, (.int .i64 at5_2)), (8, (.int .u64 t29x0)), (10, (Sl.val out10_2)), (11, (Sl.val t57x0)), (12, (.int .i64 t57x1)), (76, (.bool t76_4))] → ref08_Unpack.s4 Q X2 data0 at5_2 t29x0 out10_2 t57x0 t57x1 t76_4 w → K19 a w := by
              clear h hs
              intro t76_4 a w hs h
              refine hK19 _ _ ?_
              unfold ref08_Unpack.s4 at h
              refine c_cond hs rfl (fun hb => ?_) (fun hb => ?_)
              · replace h := h.1 hb
                clear hb
                refine wp_seq_k fun K20 hK20 => ?_
                refine wp_region_lit ?_
                obtain ⟨t77, w1, ha, hw, h⟩ := h
                refine t_eff hs rfl rfl (by decide) (e_buildSlice (z := #[]) (cs := #[]) rfl sl_33 zt_5 (by decide) rfl rz_5_0 (by rfl) ha hw) ?_
                clear hs a ha hw; intro a hs
                refine t_pure hs rfl rfl (by decide) (p_assign rfl rfl) ?_
                clear hs a; intro a hs
                refine t_pure hs rfl rfl (by decide) (p_assign rfl rfl) ?_
                clear hs a; intro a hs
                refine hK20 _ _ ?_
                refine wp_ret ?_
                refine f_ret (fn := Try.f67) hs (fun a hs => r_many hs (rs := [ResultVar.tmp 2, ResultVar.tmp 3]) (vs := [(Sl.val (Sl.mk (some t77) 0 0)), (.int .i64 61)]) rfl (by decide) ⟨rfl, rfl, trivial⟩) ⟨(Sl.mk (some t77) 0 0), 61, rfl, h⟩
              · replace h := h.2 hb
                clear hb
                refine wp_skip ?_
                refine hK18 _ _ ?_
                refine wp_seq_k fun K21 hK21 => ?_
                refine wp_region_lit ?_
                refine t_pure hs rfl rfl (by decide) (p_move rfl rfl) ?_
                clear hs a; intro a hs
                refine t_pure hs rfl rfl (by decide) (p_move rfl rfl) ?_
                clear hs a; intro a hs
                obtain ⟨t80, w1, hd, h⟩ := h
                refine t_eff hs rfl rfl (by decide) (e_append rfl rfl rfl rfl hd) ?_
                clear hs a hd; intro a hs
                refine t_pure hs rfl rfl (by decide) (p_assign rfl rfl) ?_
                clear hs a; intro a hs
                refine hK21 _ _ ?_
                refine wp_region_lit ?_
                refine t_pure hs rfl rfl (by decide) (p_move rfl rfl) ?_
                clear hs a; intro a hs
                refine t_pure hs rfl rfl (by decide) (p_move rfl rfl) ?_
                clear hs a; intro a hs
                obtain ⟨t83, he, h⟩ := h
                refine t_pure hs rfl rfl (by decide) (Pure.int he (p_add rfl rfl rfl)) ?_
                clear hs a he; intro a hs
                refine t_pure hs rfl rfl (by decide) (p_assign rfl rfl) ?_
                clear hs a; intro a hs
                rw [← hX2] at h
                exact ⟨(t83, t80), hs.to ⟨rfl, rfl, rfl, rfl, trivial⟩, h⟩
            clear hK19
            refine wp_region_lit ?_
            refine t_pure hs rfl rfl (by decide) (p_move rfl rfl) ?_
            clear hs a; intro a hs
            refine t_pure hs rfl rfl (by decide) (p_ne rfl rfl rfl) ?_
            clear hs a; intro a hs
            refine t_pure hs rfl rfl (by decide) (p_move rfl rfl) ?_
            clear hs a; intro a hs
            refine split_bool (decide (t57x2 ≠ 0)) (fun hb => ?_) (fun hb => ?_)
            · replace h := h.1 hb
              rw [hb] at hs
              clear hb
              refine t_no hs rfl rfl (by decide) ?_
              clear hs a; intro a hs
              refine t_no hs rfl rfl (by decide) ?_
              clear hs a; intro a hs
              refine t_no hs rfl rfl (by decide) ?_
              clear hs a; intro a hs
              refine t_no hs rfl rfl (by decide) ?_
              clear hs a; intro a hs
              refine t_no hs rfl rfl (by decide) ?_
              clear hs a; intro a hs
              replace hs := hs.to (τ := [(0, (Sl.val data0)), (5, (.int .i64 at5_2)), (8, (.int .u64 t29x0)), (10, (Sl.val out10_2)), (11, (Sl.val t57x0)), (12, (.int .i64 t57x1)), (70, (.bool true)), (75, undef)]) ⟨rfl, rfl, rfl, rfl, rfl, rfl, rfl, rfl, trivial⟩
              refine t_pure hs rfl rfl (by decide) (p_pick_t rfl rfl rfl) ?_
              clear hs a; intro a hs
              exact J4 true _ _ (hs.to ⟨rfl, rfl, rfl, rfl, rfl, rfl, rfl, trivial⟩) h
            · replace h := h.2 hb
              rw [hb] at hs
              clear hb
              refine t_yes hs rfl ?_
              refine t_pure hs rfl rfl (by decide) (p_move rfl rfl) ?_
              clear hs a; intro a hs
              refine t_yes hs rfl ?_
              refine t_pure hs rfl rfl (by decide) (p_len rfl rfl sl_33) ?_
              clear hs a; intro a hs
              refine t_yes hs rfl ?_
              obtain ⟨t73, he, h⟩ := h
              refine t_pure hs rfl rfl (by decide) (Pure.int he (p_conv_int rfl rfl in_3 in_34)) ?_
              clear hs a he; intro a hs
              refine t_yes hs rfl ?_
              refine t_pure hs rfl rfl (by decide) (p_move rfl rfl) ?_
              clear hs a; intro a hs
              refine t_yes hs rfl ?_
              refine t_pure hs rfl rfl (by decide) (p_ne rfl rfl rfl) ?_
              clear hs a; intro a hs
              replace hs := hs.to (τ := [(0, (Sl.val data0)), (5, (.int .i64 at5_2)), (8, (.int .u64 t29x0)), (10, (Sl.val out10_2)), (11, (Sl.val t57x0)), (12, (.int .i64 t57x1)), (70, (.bool false)), (75, (.bool (decide (t73 ≠ want14_3))))]) ⟨rfl, rfl, rfl, rfl, rfl, rfl, rfl, rfl, trivial⟩
              refine t_pure hs rfl rfl (by decide) (p_pick_f rfl rfl rfl) ?_
              clear hs a; intro a hs
              exact J4 (decide (t73 ≠ want14_3)) _ _ (hs.to ⟨rfl, rfl, rfl, rfl, rfl, rfl, rfl, trivial⟩) h
          clear hK17
          refine wp_seq_k fun K22 hK22 => ?_
          refine wp_region_lit ?_
          refine t_pure hs rfl rfl (by decide) (p_move rfl rfl) ?_
          clear hs a; intro a hs
          refine t_pure hs rfl rfl (by decide) (p_gt rfl rfl rfl) ?_
          clear hs a; intro a hs
          refine hK22 _ _ ?_
          refine c_cond hs rfl (fun hb => ?_) (fun hb => ?_)
          · replace h := h.1 hb
            clear hb
            refine wp_region_lit ?_
            refine t_pure hs rfl rfl (by decide) (p_assign rfl rfl) ?_
            clear hs a; intro a hs
            exact J3 1024 _ _ (hs.to ⟨rfl, rfl, rfl, rfl, rfl, rfl, rfl, rfl, trivial⟩) h
          · replace h := h.2 hb
            clear hb
            refine wp_skip ?_
            exact J3 t65 _ _ (hs.to ⟨rfl, rfl, rfl, rfl, rfl, rfl, rfl, rfl, trivial⟩) h
        · replace h := h.2 hb
          clear hb
          refine wp_exit ?_
          refine hK12 _ _ ?_
          refine wp_seq_k fun K23 hK23 => ?_
          refine wp_seq_k fun K24 hK24 => ?_
          refine wp_region_lit ?_
          refine t_pure hs rfl rfl (by decide) (p_move rfl rfl) ?_
          clear hs a; intro a hs
          refine t_pure hs rfl rfl (by decide) (p_move rfl rfl) ?_
          clear hs a; intro a hs
          refine t_pure hs rfl rfl (by decide) (p_len rfl rfl sl_33) ?_
          clear hs a; intro a hs
          refine t_pure hs rfl rfl (by decide) (p_ne rfl rfl rfl) ?_
          clear hs a; intro a hs
          refine hK24 _ _ ?_
          refine c_cond hs rfl (fun hb => ?_) (fun hb => ?_)
          · replace h := h.1 hb
            clear hb
            refine wp_seq_k fun K25 hK25 => ?_
            refine wp_region_lit ?_
            obtain ⟨t88, w1, ha, hw, h⟩ := h
            refine t_eff hs rfl rfl (by decide) (e_buildSlice (z := #[]) (cs := #[]) rfl sl_33 zt_5 (by decide) rfl rz_5_0 (by rfl) ha hw) ?_
            clear hs a ha hw; intro a hs
            refine t_pure hs rfl rfl (by decide) (p_assign rfl rfl) ?_
            clear hs a; intro a hs
            refine t_pure hs rfl rfl (by decide) (p_assign rfl rfl) ?_
            clear hs a; intro a hs
            refine hK25 _ _ ?_
            refine wp_ret ?_
            refine f_ret (fn := Try.f67) hs (fun a hs => r_many hs (rs := [ResultVar.tmp 2, ResultVar.tmp 3]) (vs := [(Sl.val (Sl.mk (some t88) 0 0)), (.int .i64 61)]) rfl (by decide) ⟨rfl, rfl, trivial⟩) ⟨(Sl.mk (some t88) 0 0), 61, rfl, h⟩
          · replace h := h.2 hb
            clear hb
            refine wp_skip ?_
            refine hK23 _ _ ?_
            refine wp_seq_k fun K26 hK26 => ?_
            refine wp_region_lit ?_
            refine t_pure hs rfl rfl (by decide) (p_move rfl rfl) ?_
            clear hs a; intro a hs
            refine t_pure hs rfl rfl (by decide) (p_assign rfl rfl) ?_
            clear hs a; intro a hs
            refine t_pure hs rfl rfl (by decide) (p_assign rfl rfl) ?_
            clear hs a; intro a hs
            refine hK26 _ _ ?_
            refine wp_ret ?_
            refine f_ret (fn := Try.f67) hs (fun a hs => r_many hs (rs := [ResultVar.tmp 2, ResultVar.tmp 3]) (vs := [(Sl.val out10_2), (.int .i64 0)]) rfl (by decide) ⟨rfl, rfl, trivial⟩) ⟨out10_2, 0, rfl, h⟩
    clear hK9
    refine wp_region_lit ?_
    refine t_pure hs rfl rfl (by decide) (p_move rfl rfl) ?_
    clear hs a; intro a hs
    refine t_pure hs rfl rfl (by decide) (p_ne rfl rfl rfl) ?_
    clear hs a; intro a hs
    refine t_pure hs rfl rfl (by decide) (p_move rfl rfl) ?_
    clear hs a; intro a hs
    refine split_bool (decide (t29x1 ≠ 0)) (fun hb => ?_) (fun hb => ?_)
    · replace h := h.1 hb
      rw [hb] at hs
      clear hb
      refine t_no hs rfl rfl (by decide) ?_
      clear hs a; intro a hs
      refine t_no hs rfl rfl (by decide) ?_
      clear hs a; intro a hs
      refine t_no hs rfl rfl (by decide) ?_
      clear hs a; intro a hs
      refine t_pure hs rfl rfl (by decide) (p_pick_t rfl rfl rfl) ?_
      clear hs a; intro a hs
      refine t_pure hs rfl rfl (by decide) (p_move rfl rfl) ?_
      clear hs a; intro a hs
      replace hs := hs.to (τ := [(0, (Sl.val data0)), (5, (.int .i64 t17x1)), (8, (.int .u64 t29x0)), (39, (.bool true))]) ⟨rfl, rfl, rfl, rfl, trivial⟩
      refine t_no hs rfl rfl (by decide) ?_
      clear hs a; intro a hs
      refine t_no hs rfl rfl (by decide) ?_
      clear hs a; intro a hs
      refine t_no hs rfl rfl (by decide) ?_
      clear hs a; intro a hs
      refine t_no hs rfl rfl (by decide) ?_
      clear hs a; intro a hs
      refine t_no hs rfl rfl (by decide) ?_
      clear hs a; intro a hs
      refine t_pure hs rfl rfl (by decide) (p_pick_t rfl rfl rfl) ?_
      clear hs a; intro a hs
      exact J1 true _ _ (hs.to ⟨rfl, rfl, rfl, rfl, trivial⟩) h
    · replace h := h.2 hb
      rw [hb] at hs
      clear hb
      refine t_yes hs rfl ?_
      refine t_pure hs rfl rfl (by decide) (p_move rfl rfl) ?_
      clear hs a; intro a hs
      refine t_yes hs rfl ?_
      refine t_call hs rfl rfl (by decide) (e_call rfl rfl rfl cb_89) h ?_
      clear hs a h
      intro v a w hk hs
      obtain ⟨t36, rfl, h⟩ := hk
      refine t_yes hs rfl ?_
      refine t_pure hs rfl rfl (by decide) (p_ne rfl rfl rfl) ?_
      clear hs a; intro a hs
      refine t_pure hs rfl rfl (by decide) (p_pick_f rfl rfl rfl) ?_
      clear hs a; intro a hs
      refine t_pure hs rfl rfl (by decide) (p_move rfl rfl) ?_
      clear hs a; intro a hs
      replace hs := hs.to (τ := [(0, (Sl.val data0)), (5, (.int .i64 t17x1)), (8, (.int .u64 t29x0)), (39, (.bool (decide (t36 ≠ 0))))]) ⟨rfl, rfl, rfl, rfl, trivial⟩
      refine split_bool (decide (t36 ≠ 0)) (fun hb => ?_) (fun hb => ?_)
      · replace h := h.1 hb
        rw [hb] at hs
        clear hb
        refine t_no hs rfl rfl (by decide) ?_
        clear hs a; intro a hs
        refine t_no hs rfl rfl (by decide) ?_
        clear hs a; intro a hs
        refine t_no hs rfl rfl (by decide) ?_
        clear hs a; intro a hs
        refine t_no hs rfl rfl (by decide) ?_
        clear hs a; intro a hs
        refine t_no hs rfl rfl (by decide) ?_
        clear hs a; intro a hs
        refine t_pure hs rfl rfl (by decide) (p_pick_t rfl rfl rfl) ?_
        clear hs a; intro a hs
        exact J1 true _ _ (hs.to ⟨rfl, rfl, rfl, rfl, trivial⟩) h
      · replace h := h.2 hb
        rw [hb] at hs
        clear hb
        refine t_yes hs rfl ?_
        refine t_pure hs rfl rfl (by decide) (p_move rfl rfl) ?_
        clear hs a; intro a hs
        refine t_yes hs rfl ?_
        refine t_pure hs rfl rfl (by decide) (p_move rfl rfl) ?_
        clear hs a; intro a hs
        refine t_yes hs rfl ?_
        refine t_pure hs rfl rfl (by decide) (p_len rfl rfl sl_33) ?_
        clear hs a; intro a hs
        refine t_yes hs rfl ?_
        obtain ⟨t43, he, h⟩ := h
        refine t_pure hs rfl rfl (by decide) (Pure.int he (p_conv_int rfl rfl in_3 in_34)) ?_
        clear hs a he; intro a hs
        refine t_yes hs rfl ?_
        refine t_pure hs rfl rfl (by decide) (p_gt rfl rfl rfl) ?_
        clear hs a; intro a hs
        refine t_pure hs rfl rfl (by decide) (p_pick_f rfl rfl rfl) ?_
        clear hs a; intro a hs
        exact J1 (decide (t43 < t29x0)) _ _ (hs.to ⟨rfl, rfl, rfl, rfl, trivial⟩) h
end Go.Proofs.Ytgnkminakongkaa
