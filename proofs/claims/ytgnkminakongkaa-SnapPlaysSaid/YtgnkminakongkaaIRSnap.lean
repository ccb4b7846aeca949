/- Plain forms of functions, and that their code comes to them (package snap). -/
import Derived.Test.YtgnkminakongkaaCalls
import Derived.Test.YtgnkminakongkaaRounds
namespace Go.Proofs.Ytgnkminakongkaa
open Go Go.Sep
set_option linter.unusedVariables false
set_option linter.unusedSimpArgs false
set_option maxRecDepth 100000
set_option maxHeartbeats 4000000
def snap_Save.s2 (Q : Int → K)  (d0_2 : (Option Addr)) (name1_2 : ByteArray) (body2_2 : Sl) (next7_2 : ByteArray) (e8_2 : Int) (t28_2 : Bool) : K :=
  Ite t28_2
    (Q e8_2)
    (snap_Pack.call body2_2 fun t33 =>
    disk_Disk_Append.call d0_2 next7_2 t33 fun t34 =>
    Ite (decide (t34 ≠ 0))
      (Q t34)
      (disk_Disk_Sync.call d0_2 next7_2 fun t40 =>
      Ite (decide (t40 ≠ 0))
        (Q t40)
        (disk_Disk_Rename.call d0_2 next7_2 name1_2 fun t47 =>
        Q t47)))
def snap_Save.s1 (Q : Int → K)  (d0_1 : (Option Addr)) (name1_1 : ByteArray) (body2_1 : Sl) (t17_1 : Bool) : K :=
  Ite t17_1
    (Q 1)
    (Cat name1_1 (⟨#[126]⟩ : ByteArray) fun t19 =>
    disk_Disk_Remove.call d0_1 t19 fun t22 =>
    Ite (decide (t22 ≠ 0))
      (snap_Save.s2 Q d0_1 name1_1 body2_1 t19 t22 (decide (t22 ≠ 60)))
      (snap_Save.s2 Q d0_1 name1_1 body2_1 t19 t22 false))
def snap_Save (d0 : (Option Addr)) (name1 : ByteArray) (body2 : Sl) (Q : Int → K) : K :=
  Ite (name1.toList == (⟨#[]⟩ : ByteArray).toList)
    (snap_Save.s1 Q d0 name1 body2 true)
    (snap_Save.s1 Q d0 name1 body2 (decide ((15 : Int) < (name1.size : Int))))
theorem snap_Save_ok (d0 : (Option Addr)) (name1 : ByteArray) (body2 : Sl) (Q : Int → K) (w : World) (h : snap_Save d0 name1 body2 Q w) : snap_Save.call d0 name1 body2 Q w := by
  unfold snap_Save.call CallF
  refine f_start (args := [(.pointer d0), (.string name1), (Sl.val body2)]) Try.func38 rfl (Nat.le_of_ble_eq_true rfl) ?_
  intro a hs
  unfold snap_Save at h
  refine wp_seq_k fun K1 hK1 => ?_
  refine wp_region_lit ?_
  refine t_pure hs rfl rfl (by decide) (p_assign rfl rfl) ?_
  clear hs a; intro a hs
  refine hK1 _ _ ?_
  refine wp_seq_k fun K2 hK2 => ?_
  refine wp_seq_k fun K3 hK3 => ?_
  have J1 : ∀ (t17_1 : Bool) (a : Act) (w : World), Slots a 48 [(0, (.pointer d0)), (1, (.string name1)), (2, (Sl.val body2)), (17, (.bool t17_1))] → snap_Save.s1 Q d0 name1 body2 t17_1 w → K3 a w := by
    clear h hs
    intro t17_1 a w hs h
    refine hK3 _ _ ?_
    unfold snap_Save.s1 at h
    refine c_cond hs rfl (fun hb => ?_) (fun hb => ?_)
    · replace h := h.1 hb
      clear hb
      refine wp_seq_k fun K4 hK4 => ?_
      refine wp_region_lit ?_
      refine t_pure hs rfl rfl (by decide) (p_assign rfl rfl) ?_
      clear hs a; intro a hs
      refine hK4 _ _ ?_
      refine wp_ret ?_
      refine f_ret (fn := Try.f38) hs (fun a hs => r_one hs rfl (rfl)) ⟨1, rfl, h⟩
    · replace h := h.2 hb
      clear hb
      refine wp_skip ?_
      refine hK2 _ _ ?_
      refine wp_seq_k fun K5 hK5 => ?_
      refine wp_region_lit ?_
      refine t_pure hs rfl rfl (by decide) (p_move rfl rfl) ?_
      clear hs a; intro a hs
      obtain ⟨t19, h0, he, h⟩ := h
      refine t_pure hs rfl rfl (by decide) (Pure.str he (p_cats rfl rfl rfl h0)) ?_
      clear hs a h0 he; intro a hs
      refine t_pure hs rfl rfl (by decide) (p_assign rfl rfl) ?_
      clear hs a; intro a hs
      refine hK5 _ _ ?_
      refine wp_seq_k fun K6 hK6 => ?_
      refine wp_seq_k fun K7 hK7 => ?_
      refine wp_region_lit ?_
      refine t_pure hs rfl rfl (by decide) (p_move rfl rfl) ?_
      clear hs a; intro a hs
      refine t_pure hs rfl rfl (by decide) (p_move rfl rfl) ?_
      clear hs a; intro a hs
      refine t_call hs rfl rfl (by decide) (e_call rfl rfl rfl cb_32) h ?_
      clear hs a h
      intro v a w hk hs
      obtain ⟨t22, rfl, h⟩ := hk
      refine t_pure hs rfl rfl (by decide) (p_assign rfl rfl) ?_
      clear hs a; intro a hs
      refine hK7 _ _ ?_
      refine wp_seq_k fun K8 hK8 => ?_
      have J2 : ∀ (t28_2 : Bool) (a : Act) (w : World), Slots a 48 [(0, (.pointer d0)), (1, (.string name1)), (2, (Sl.val body2)), (7, (.string t19)), (8, (.int .i64 t22)), (28, (.bool t28_2))] → snap_Save.s2 Q d0 name1 body2 t19 t22 t28_2 w → K8 a w := by
        clear h hs
        intro t28_2 a w hs h
        refine hK8 _ _ ?_
        unfold snap_Save.s2 at h
        refine c_cond hs rfl (fun hb => ?_) (fun hb => ?_)
        · replace h := h.1 hb
          clear hb
          refine wp_seq_k fun K9 hK9 => ?_
          refine wp_region_lit ?_
          refine t_pure hs rfl rfl (by decide) (p_move rfl rfl) ?_
          clear hs a; intro a hs
          refine t_pure hs rfl rfl (by decide) (p_assign rfl rfl) ?_
          clear hs a; intro a hs
          refine hK9 _ _ ?_
          refine wp_ret ?_
          refine f_ret (fn := Try.f38) hs (fun a hs => r_one hs rfl (rfl)) ⟨t22, rfl, h⟩
        · replace h := h.2 hb
          clear hb
          refine wp_skip ?_
          refine hK6 _ _ ?_
          refine wp_seq_k fun K10 hK10 => ?_
          refine wp_seq_k fun K11 hK11 => ?_
          refine wp_region_lit ?_
          refine t_pure hs rfl rfl (by decide) (p_move rfl rfl) ?_
          clear hs a; intro a hs
          refine t_pure hs rfl rfl (by decide) (p_move rfl rfl) ?_
          clear hs a; intro a hs
          refine t_pure hs rfl rfl (by decide) (p_move rfl rfl) ?_
          clear hs a; intro a hs
          refine t_call hs rfl rfl (by decide) (e_call rfl rfl rfl cb_64) h ?_
          clear hs a h
          intro v a w hk hs
          obtain ⟨t33, rfl, h⟩ := hk
          refine t_call hs rfl rfl (by decide) (e_call rfl rfl rfl cb_22) h ?_
          clear hs a h
          intro v a w hk hs
          obtain ⟨t34, rfl, h⟩ := hk
          refine t_pure hs rfl rfl (by decide) (p_assign rfl rfl) ?_
          clear hs a; intro a hs
          refine hK11 _ _ ?_
          refine wp_seq_k fun K12 hK12 => ?_
          refine wp_region_lit ?_
          refine t_pure hs rfl rfl (by decide) (p_move rfl rfl) ?_
          clear hs a; intro a hs
          refine t_pure hs rfl rfl (by decide) (p_ne rfl rfl rfl) ?_
          clear hs a; intro a hs
          refine hK12 _ _ ?_
          refine c_cond hs rfl (fun hb => ?_) (fun hb => ?_)
          · replace h := h.1 hb
            clear hb
            refine wp_seq_k fun K13 hK13 => ?_
            refine wp_region_lit ?_
            refine t_pure hs rfl rfl (by decide) (p_move rfl rfl) ?_
            clear hs a; intro a hs
            refine t_pure hs rfl rfl (by decide) (p_assign rfl rfl) ?_
            clear hs a; intro a hs
            refine hK13 _ _ ?_
            refine wp_ret ?_
            refine f_ret (fn := Try.f38) hs (fun a hs => r_one hs rfl (rfl)) ⟨t34, rfl, h⟩
          · replace h := h.2 hb
            clear hb
            refine wp_skip ?_
            refine hK10 _ _ ?_
            refine wp_seq_k fun K14 hK14 => ?_
            refine wp_seq_k fun K15 hK15 => ?_
            refine wp_region_lit ?_
            refine t_pure hs rfl rfl (by decide) (p_move rfl rfl) ?_
            clear hs a; intro a hs
            refine t_pure hs rfl rfl (by decide) (p_move rfl rfl) ?_
            clear hs a; intro a hs
            refine t_call hs rfl rfl (by decide) (e_call rfl rfl rfl cb_23) h ?_
            clear hs a h
            intro v a w hk hs
            obtain ⟨t40, rfl, h⟩ := hk
            refine t_pure hs rfl rfl (by decide) (p_assign rfl rfl) ?_
            clear hs a; intro a hs
            refine hK15 _ _ ?_
            refine wp_seq_k fun K16 hK16 => ?_
            refine wp_region_lit ?_
            refine t_pure hs rfl rfl (by decide) (p_move rfl rfl) ?_
            clear hs a; intro a hs
            refine t_pure hs rfl rfl (by decide) (p_ne rfl rfl rfl) ?_
            clear hs a; intro a hs
            refine hK16 _ _ ?_
            refine c_cond hs rfl (fun hb => ?_) (fun hb => ?_)
            · replace h := h.1 hb
              clear hb
              refine wp_seq_k fun K17 hK17 => ?_
              refine wp_region_lit ?_
              refine t_pure hs rfl rfl (by decide) (p_move rfl rfl) ?_
              clear hs a; intro a hs
              refine t_pure hs rfl rfl (by decide) (p_assign rfl rfl) ?_
              clear hs a; intro a hs
              refine hK17 _ _ ?_
              refine wp_ret ?_
              refine f_ret (fn := Try.f38) hs (fun a hs => r_one hs rfl (rfl)) ⟨t40, rfl, h⟩
            · replace h := h.2 hb
              clear hb
              refine wp_skip ?_
              refine hK14 _ _ ?_
              refine wp_seq_k fun K18 hK18 => ?_
              refine wp_region_lit ?_
              refine t_pure hs rfl rfl (by decide) (p_move rfl rfl) ?_
              clear hs a; intro a hs
              refine t_pure hs rfl rfl (by decide) (p_move rfl rfl) ?_
              clear hs a; intro a hs
              refine t_pure hs rfl rfl (by decide) (p_move rfl rfl) ?_
              clear hs a; intro a hs
              refine t_call hs rfl rfl (by decide) (e_call rfl rfl rfl cb_31) h ?_
              clear hs a h
              intro v a w hk hs
              obtain ⟨t47, rfl, h⟩ := hk
              refine t_pure hs rfl rfl (by decide) (p_assign rfl rfl) ?_
              clear hs a; intro a hs
              refine hK18 _ _ ?_
              refine wp_ret ?_
              refine f_ret (fn := Try.f38) hs (fun a hs => r_one hs rfl (rfl)) ⟨t47, rfl, h⟩
      clear hK8
      refine wp_region_lit ?_
      refine t_pure hs rfl rfl (by decide) (p_move rfl rfl) ?_
      clear hs a; intro a hs
      refine t_pure hs rfl rfl (by decide) (p_ne rfl rfl rfl) ?_
      clear hs a; intro a hs
      refine t_pure hs rfl rfl (by decide) (p_move rfl rfl) ?_
      clear hs a; intro a hs
      refine split_bool (decide (t22 ≠ 0)) (fun hb => ?_) (fun hb => ?_)
      · replace h := h.1 hb
        rw [hb] at hs
        clear hb
        refine t_yes hs rfl ?_
        refine t_pure hs rfl rfl (by decide) (p_move rfl rfl) ?_
        clear hs a; intro a hs
        refine t_yes hs rfl ?_
        refine t_pure hs rfl rfl (by decide) (p_ne rfl rfl rfl) ?_
        clear hs a; intro a hs
        refine t_pure hs rfl rfl (by decide) (p_pick_t rfl rfl rfl) ?_
        clear hs a; intro a hs
        exact J2 (decide (t22 ≠ 60)) _ _ (hs.to ⟨rfl, rfl, rfl, rfl, rfl, rfl, trivial⟩) h
      · replace h := h.2 hb
        rw [hb] at hs
        clear hb
        refine t_no hs rfl rfl (by decide) ?_
        clear hs a; intro a hs
        refine t_no hs rfl rfl (by decide) ?_
        clear hs a; intro a hs
        refine t_pure hs rfl rfl (by decide) (p_pick_f rfl rfl rfl) ?_
        clear hs a; intro a hs
        exact J2 false _ _ (hs.to ⟨rfl, rfl, rfl, rfl, rfl, rfl, trivial⟩) h
  clear hK3
  refine wp_region_lit ?_
  refine t_pure hs rfl rfl (by decide) (p_move rfl rfl) ?_
  clear hs a; intro a hs
  refine t_pure hs rfl rfl (by decide) (p_eqs rfl rfl rfl) ?_
  clear hs a; intro a hs
  refine t_pure hs rfl rfl (by decide) (p_move rfl rfl) ?_
  clear hs a; intro a hs
  refine split_bool (name1.toList == (⟨#[]⟩ : ByteArray).toList) (fun hb => ?_) (fun hb => ?_)
  · replace h := h.1 hb
    rw [hb] at hs
    clear hb
    refine t_no hs rfl rfl (by decide) ?_
    clear hs a; intro a hs
    refine t_no hs rfl rfl (by decide) ?_
    clear hs a; intro a hs
    refine t_no hs rfl rfl (by decide) ?_
    clear hs a; intro a hs
    refine t_pure hs rfl rfl (by decide) (p_pick_t rfl rfl rfl) ?_
    clear hs a; intro a hs
    exact J1 true _ _ (hs.to ⟨rfl, rfl, rfl, rfl, trivial⟩) h
  · replace h := h.2 hb
    rw [hb] at hs
    clear hb
    refine t_yes hs rfl ?_
    refine t_pure hs rfl rfl (by decide) (p_move rfl rfl) ?_
    clear hs a; intro a hs
    refine t_yes hs rfl ?_
    refine t_pure hs rfl rfl (by decide) (p_lens rfl rfl st_9) ?_
    clear hs a; intro a hs
    refine t_yes hs rfl ?_
    refine t_pure hs rfl rfl (by decide) (p_gt rfl rfl rfl) ?_
    clear hs a; intro a hs
    refine t_pure hs rfl rfl (by decide) (p_pick_f rfl rfl rfl) ?_
    clear hs a; intro a hs
    exact J1 (decide ((15 : Int) < (name1.size : Int))) _ _ (hs.to ⟨rfl, rfl, rfl, rfl, trivial⟩) h
def snap_Load (d0 : (Option Addr)) (name1 : ByteArray) (Q : Sl → Int → K) : K :=
  disk_Disk_Read.call d0 name1 fun t11x0 t11x1 =>
  Ite (decide (t11x1 ≠ 0))
    (Q (Sl.mk none 0 0) t11x1)
    (snap_Unpack.call t11x0 fun t18x0 t18x1 =>
    Q t18x0 t18x1)
theorem snap_Load_ok (d0 : (Option Addr)) (name1 : ByteArray) (Q : Sl → Int → K) (w : World) (h : snap_Load d0 name1 Q w) : snap_Load.call d0 name1 Q w := by
  unfold snap_Load.call CallF
  refine f_start (args := [(.pointer d0), (.string name1)]) Try.func39 rfl (Nat.le_of_ble_eq_true rfl) ?_
  intro a hs
  unfold snap_Load at h
  refine wp_seq_k fun K1 hK1 => ?_
  refine wp_region_lit ?_
  refine t_pure hs rfl rfl (by decide) (p_assign rfl rfl) ?_
  clear hs a; intro a hs
  refine t_pure hs rfl rfl (by decide) (p_assign rfl rfl) ?_
  clear hs a; intro a hs
  refine hK1 _ _ ?_
  refine wp_seq_k fun K2 hK2 => ?_
  refine wp_region_lit ?_
  refine t_pure hs rfl rfl (by decide) (p_move rfl rfl) ?_
  clear hs a; intro a hs
  refine t_pure hs rfl rfl (by decide) (p_move rfl rfl) ?_
  clear hs a; intro a hs
  refine t_call hs rfl rfl (by decide) (e_call rfl rfl rfl cb_25) h ?_
  clear hs a h
  intro v a w hk hs
  obtain ⟨t11x0, t11x1, rfl, h⟩ := hk
  refine t_pure hs rfl rfl (by decide) (p_move rfl rfl) ?_
  clear hs a; intro a hs
  refine t_pure hs rfl rfl (by decide) (p_extract rfl rfl rfl) ?_
  clear hs a; intro a hs
  refine t_pure hs rfl rfl (by decide) (p_extract rfl rfl rfl) ?_
  clear hs a; intro a hs
  refine t_pure hs rfl rfl (by decide) (p_assign rfl rfl) ?_
  clear hs a; intro a hs
  refine t_pure hs rfl rfl (by decide) (p_assign rfl rfl) ?_
  clear hs a; intro a hs
  refine hK2 _ _ ?_
  refine wp_seq_k fun K3 hK3 => ?_
  refine wp_seq_k fun K4 hK4 => ?_
  refine wp_region_lit ?_
  refine t_pure hs rfl rfl (by decide) (p_move rfl rfl) ?_
  clear hs a; intro a hs
  refine t_pure hs rfl rfl (by decide) (p_ne rfl rfl rfl) ?_
  clear hs a; intro a hs
  refine hK4 _ _ ?_
  refine c_cond hs rfl (fun hb => ?_) (fun hb => ?_)
  · replace h := h.1 hb
    clear hb
    refine wp_seq_k fun K5 hK5 => ?_
    refine wp_region_lit ?_
    refine t_pure hs rfl rfl (by decide) (p_move rfl rfl) ?_
    clear hs a; intro a hs
    refine t_pure hs rfl rfl (by decide) (p_assign rfl rfl) ?_
    clear hs a; intro a hs
    refine t_pure hs rfl rfl (by decide) (p_assign rfl rfl) ?_
    clear hs a; intro a hs
    refine hK5 _ _ ?_
    refine wp_ret ?_
    refine f_ret (fn := Try.f39) hs (fun a hs => r_many hs (rs := [ResultVar.tmp 4, ResultVar.tmp 5]) (vs := [(Sl.val (Sl.mk none 0 0)), (.int .i64 t11x1)]) rfl (by decide) ⟨rfl, rfl, trivial⟩) ⟨(Sl.mk none 0 0), t11x1, rfl, h⟩
  · replace h := h.2 hb
    clear hb
    refine wp_skip ?_
    refine hK3 _ _ ?_
    refine wp_seq_k fun K6 hK6 => ?_
    refine wp_region_lit ?_
    refine t_pure hs rfl rfl (by decide) (p_move rfl rfl) ?_
    clear hs a; intro a hs
    refine t_call hs rfl rfl (by decide) (e_call rfl rfl rfl cb_65) h ?_
    clear hs a h
    intro v a w hk hs
    obtain ⟨t18x0, t18x1, rfl, h⟩ := hk
    refine t_pure hs rfl rfl (by decide) (p_extract rfl rfl rfl) ?_
    clear hs a; intro a hs
    refine t_pure hs rfl rfl (by decide) (p_extract rfl rfl rfl) ?_
    clear hs a; intro a hs
    refine t_pure hs rfl rfl (by decide) (p_assign rfl rfl) ?_
    clear hs a; intro a hs
    refine t_pure hs rfl rfl (by decide) (p_assign rfl rfl) ?_
    clear hs a; intro a hs
    refine hK6 _ _ ?_
    refine wp_ret ?_
    refine f_ret (fn := Try.f39) hs (fun a hs => r_many hs (rs := [ResultVar.tmp 4, ResultVar.tmp 5]) (vs := [(Sl.val t18x0), (.int .i64 t18x1)]) rfl (by decide) ⟨rfl, rfl, trivial⟩) ⟨t18x0, t18x1, rfl, h⟩
def snap_Pack (body0 : Sl) (Q : Sl → K) : K :=
  New 142 #[(Sl.val ⟨none, 0, 0⟩)] fun t10 =>
  Ar (IntKind.wrap .u64 (body0.n : Int)) fun t14 =>
  code_Pen_Num.call (some t10) t14 <|
  code_Pen_Data.call (some t10) fun t18 =>
  code_Frame.call t18 fun t19x0 t19x1 =>
  New 33 #[(Sl.val ⟨none, 0, 0⟩)] fun out4 =>
  St out4 (Sl.val t19x0) <|
  slices_Chunk_s_byte_byte.call body0 1024 fun t23 =>
  RangeF Try.prog t23 Sl.val (fun KN1 x24 =>
    code_Frame.call x24 fun t27x0 t27x1 =>
    Ld out4 Sl.val fun t30 =>
    Do Try.prog (Builtin.append_ #[33, 33] 33 #[(Sl.val t30), (Sl.val t27x0)]) Sl.val fun t32 =>
    St out4 (Sl.val t32) <|
    KN1)
  fun D1 =>
  Ld out4 Sl.val fun t33 =>
  TakeD D1 <|
  Q t33
theorem snap_Pack_ok (body0 : Sl) (Q : Sl → K) (w : World) (h : snap_Pack body0 Q w) : snap_Pack.call body0 Q w := by
  unfold snap_Pack.call CallF
  refine fI_start (args := [(Sl.val body0)]) Try.func64 rfl (Nat.le_of_ble_eq_true rfl) ?_
  intro a hs
  unfold snap_Pack at h
  refine wpIn_seq_k fun K1 hK1 => ?_
  refine wpIn_region_lit ?_
  refine tI_pure free_wide hs rfl rfl (by decide) (fun _ h => by cases h) (p_assign rfl rfl) ?_
  clear hs a; intro a hs
  refine hK1 _ _ ?_
  refine wpIn_seq_k fun K2 hK2 => ?_
  refine wpIn_region_lit ?_
  refine tI_pure free_wide hs rfl rfl (by decide) (fun _ h => by cases h) (e_build (cs := #[(Sl.val ⟨none, 0, 0⟩)]) rfl zt_142 pl_142 rfl rfl) ?_
  clear hs a; intro a hs
  obtain ⟨t10, w1, ha, hw, h⟩ := h
  refine tI_eff free_wide hs rfl rfl (by decide) (fun _ h => by cases h) (e_box rfl rfl rfl ha hw) ?_
  clear hs a ha hw; intro a hs
  refine tI_pure free_wide hs rfl rfl (by decide) (fun _ h => by cases h) (p_assign rfl rfl) ?_
  clear hs a; intro a hs
  refine hK2 _ _ ?_
  refine wpIn_seq_k fun K3 hK3 => ?_
  refine wpIn_region_lit ?_
  refine tI_pure free_wide hs rfl rfl (by decide) (fun _ h => by cases h) (p_move rfl rfl) ?_
  clear hs a; intro a hs
  refine tI_pure free_wide hs rfl rfl (by decide) (fun _ h => by cases h) (p_move rfl rfl) ?_
  clear hs a; intro a hs
  refine tI_pure free_wide hs rfl rfl (by decide) (fun _ h => by cases h) (p_len rfl rfl sl_33) ?_
  clear hs a; intro a hs
  obtain ⟨t14, he, h⟩ := h
  refine tI_pure free_wide hs rfl rfl (by decide) (fun _ h => by cases h) (Pure.int he (p_conv_int rfl rfl in_3 in_34)) ?_
  clear hs a he; intro a hs
  refine tI_call free_wide rfl hs rfl rfl (by decide) (fun _ h => by cases h) (e_call rfl rfl rfl cb_79) h ?_
  clear hs a h
  intro v a w hk hs
  obtain ⟨rfl, h⟩ := hk
  refine hK3 _ _ ?_
  refine wpIn_seq_k fun K4 hK4 => ?_
  refine wpIn_region_lit ?_
  refine tI_pure free_wide hs rfl rfl (by decide) (fun _ h => by cases h) (p_move rfl rfl) ?_
  clear hs a; intro a hs
  refine tI_call free_wide rfl hs rfl rfl (by decide) (fun _ h => by cases h) (e_call rfl rfl rfl cb_81) h ?_
  clear hs a h
  intro v a w hk hs
  obtain ⟨t18, rfl, h⟩ := hk
  refine tI_call free_wide rfl hs rfl rfl (by decide) (fun _ h => by cases h) (e_call rfl rfl rfl cb_80) h ?_
  clear hs a h
  intro v a w hk hs
  obtain ⟨t19x0, t19x1, rfl, h⟩ := hk
  refine tI_pure free_wide hs rfl rfl (by decide) (fun _ h => by cases h) (p_move rfl rfl) ?_
  clear hs a; intro a hs
  refine tI_pure free_wide hs rfl rfl (by decide) (fun _ h => by cases h) (p_extract rfl rfl rfl) ?_
  clear hs a; intro a hs
  refine tI_pure free_wide hs rfl rfl (by decide) (fun _ h => by cases h) (p_extract rfl rfl rfl) ?_
  clear hs a; intro a hs
  obtain ⟨out4, w1, ha, hw, h⟩ := h
  refine tI_eff free_wide hs rfl rfl (by decide) (fun _ h => by cases h) (e_alloc rfl zt_33 rfl ha hw) ?_
  clear hs a ha hw; intro a hs
  obtain ⟨w1, hw, hc, hf, hv, h⟩ := h
  refine tI_skip free_wide hs rfl rfl (fun _ h => by cases h) (e_store rfl rfl rfl sz_33 hw hc hf hv) ?_
  clear hs a hw hc hf hv; intro a hs
  replace hs := hs.to (τ := [(0, (Sl.val body0)), (4, (.pointer (some out4))), (21, (.int .i64 t19x1))]) ⟨rfl, rfl, rfl, trivial⟩
  refine tI_pure free_wide hs rfl rfl (by decide) (fun _ h => by cases h) (p_assign rfl rfl) ?_
  clear hs a; intro a hs
  refine hK4 _ _ ?_
  refine wpIn_seq_k fun K5 hK5 => ?_
  refine wpIn_seq_k fun K6 hK6 => ?_
  refine wpIn_region_lit ?_
  refine tI_pure free_wide hs rfl rfl (by decide) (fun _ h => by cases h) (p_move rfl rfl) ?_
  clear hs a; intro a hs
  refine tI_call free_wide rfl hs rfl rfl (by decide) (fun _ h => by cases h) (e_call rfl rfl rfl cb_82) h ?_
  clear hs a h
  intro v a w hk hs
  obtain ⟨t23, rfl, h⟩ := hk
  refine hK6 _ _ ?_
  refine wpIn_block ?_
  refine c_range (σ2 := fun x24 => [(4, (.pointer (some out4))), (6, (Sl.val x24))]) hs rfl (by decide) h ?_ ?_ ?_
  · clear hs h a
    intro l1 x24 k a w hs hk
    replace hs := hs.to (τ := [(4, (.pointer (some out4))), (24, (Sl.val x24))]) ⟨rfl, rfl, trivial⟩
    refine wpIn_region_lit ?_
    refine tI_pure (free_wide.round l1) hs rfl rfl (by decide) (fun _ h => by cases h) (p_assign rfl rfl) ?_
    clear hs a; intro a hs
    exact hk _ (hs.to ⟨rfl, rfl, trivial⟩)
  · clear hs h a
    intro l1 x24 KN1 a w hs h
    refine wpIn_block ?_
    refine wpIn_seq_k fun K7 hK7 => ?_
    refine wpIn_region_lit ?_
    refine tI_pure (free_wide.round l1) hs rfl rfl (by decide) (fun _ h => by cases h) (p_move rfl rfl) ?_
    clear hs a; intro a hs
    refine tI_call (free_wide.round l1) rfl hs rfl rfl (by decide) (fun _ h => by cases h) (e_call rfl rfl rfl cb_80) h ?_
    clear hs a h
    intro v a w hk hs
    obtain ⟨t27x0, t27x1, rfl, h⟩ := hk
    refine tI_pure (free_wide.round l1) hs rfl rfl (by decide) (fun _ h => by cases h) (p_move rfl rfl) ?_
    clear hs a; intro a hs
    refine tI_pure (free_wide.round l1) hs rfl rfl (by decide) (fun _ h => by cases h) (p_extract rfl rfl rfl) ?_
    clear hs a; intro a hs
    refine tI_pure (free_wide.round l1) hs rfl rfl (by decide) (fun _ h => by cases h) (p_extract rfl rfl rfl) ?_
    clear hs a; intro a hs
    refine tI_pure (free_wide.round l1) hs rfl rfl (by decide) (fun _ h => by cases h) (p_assign rfl rfl) ?_
    clear hs a; intro a hs
    refine tI_pure (free_wide.round l1) hs rfl rfl (by decide) (fun _ h => by cases h) (p_assign rfl rfl) ?_
    clear hs a; intro a hs
    refine hK7 _ _ ?_
    refine wpIn_region_lit ?_
    obtain ⟨t30, hv, h⟩ := h
    refine tI_eff (free_wide.round l1) hs rfl rfl (by decide) (fun _ h => by cases h) (e_load rfl rfl ct_33 hv) ?_
    clear hs a hv; intro a hs
    refine tI_pure (free_wide.round l1) hs rfl rfl (by decide) (fun _ h => by cases h) (p_move rfl rfl) ?_
    clear hs a; intro a hs
    obtain ⟨t32, w1, hd, h⟩ := h
    refine tI_eff (free_wide.round l1) hs rfl rfl (by decide) (fun _ h => by cases h) (e_append rfl rfl rfl rfl hd) ?_
    clear hs a hd; intro a hs
    obtain ⟨w1, hw, hc, hf, hv, h⟩ := h
    refine tI_skip (free_wide.round l1) hs rfl rfl (fun _ h => by cases h) (e_store rfl rfl rfl sz_33 hw hc hf hv) ?_
    clear hs a hw hc hf hv; intro a hs
    exact h
  · clear h hs a
    intro D1 a w hs h
    replace hs := hs.to (τ := [(4, (.pointer (some out4)))]) ⟨rfl, trivial⟩
    refine hK5 _ _ ?_
    refine wpIn_seq_k fun K8 hK8 => ?_
    refine wpIn_region_lit ?_
    obtain ⟨t33, hv, h⟩ := h
    refine tI_eff free_wide hs rfl rfl (by decide) (fun _ h => by cases h) (e_load rfl rfl ct_33 hv) ?_
    clear hs a hv; intro a hs
    refine tI_pure free_wide hs rfl rfl (by decide) (fun _ h => by cases h) (p_assign rfl rfl) ?_
    clear hs a; intro a hs
    refine hK8 _ _ ?_
    refine wpIn_ret ?_
    refine fI_retM (fn := Try.f64) hs (fun a w hs => r_one hs rfl (rfl)) ⟨h.1, t33, rfl, h.2⟩
def snap_Unpack.s3 (Q : Sl → Int → K) (X1 : Int → Int → Sl → K) (body7_3 : Sl) (t47_3 : Bool) : K :=
  Ite t47_3
    (Q (Sl.mk none 0 0) 61)
    (Q body7_3 0)
def snap_Unpack.s2 (Q : Sl → Int → K) (X1 : Int → Int → Sl → K) (data0_2 : Sl) (at5_2 : Int) (e6_2 : Int) (body7_2 : Sl) (t24_2 : Bool) : K :=
  Ite t24_2
    (Slc data0_2 at5_2 (data0_2.n : Int) (data0_2.c : Int) 1 fun t28 =>
    code_Unframe.call t28 fun t29x0 t29x1 t29x2 =>
    Do Try.prog (Builtin.append_ #[33, 33] 33 #[(Sl.val body7_2), (Sl.val t29x0)]) Sl.val fun t35 =>
    Ar (IntKind.wrap .i64 (at5_2 + t29x1)) fun t38 =>
    X1 t38 t29x2 t35)
    (Ite (decide (e6_2 ≠ 0))
      (snap_Unpack.s3 Q X1 body7_2 true)
      (snap_Pack.call body7_2 fun t43 =>
      slices_Equal_s_byte_byte.call t43 data0_2 fun t45 =>
      snap_Unpack.s3 Q X1 body7_2 (!t45)))
def snap_Unpack.b1 (Q : Sl → Int → K)  (X1 : Int → Int → Sl → K) (data0_1 : Sl) (at5_1 : Int) (e6_1 : Int) (body7_1 : Sl) : K :=
  Ite (decide (e6_1 = 0))
    (snap_Unpack.s2 Q X1 data0_1 at5_1 e6_1 body7_1 (decide (at5_1 < (data0_1.n : Int))))
    (snap_Unpack.s2 Q X1 data0_1 at5_1 e6_1 body7_1 false)
def snap_Unpack (data0 : Sl) (Q : Sl → Int → K) : K :=
  code_Unframe.call data0 fun t12x0 t12x1 t12x2 =>
  New 5 #[] fun t16 =>
  LoopK (α := Int × Int × Sl) (fun X x => snap_Unpack.b1 Q (fun at5_1 e6_1 body7_1 => X (at5_1, e6_1, body7_1)) data0 x.1 x.2.1 x.2.2) (t12x1, t12x2, (Sl.mk (some t16) 0 0))
theorem snap_Unpack_ok (data0 : Sl) (Q : Sl → Int → K) (w : World) (h : snap_Unpack data0 Q w) : snap_Unpack.call data0 Q w := by
  unfold snap_Unpack.call CallF
  refine f_start (args := [(Sl.val data0)]) Try.func65 rfl (Nat.le_of_ble_eq_true rfl) ?_
  intro a hs
  unfold snap_Unpack at h
  refine wp_seq_k fun K1 hK1 => ?_
  refine wp_region_lit ?_
  refine t_pure hs rfl rfl (by decide) (p_assign rfl rfl) ?_
  clear hs a; intro a hs
  refine t_pure hs rfl rfl (by decide) (p_assign rfl rfl) ?_
  clear hs a; intro a hs
  refine hK1 _ _ ?_
  refine wp_seq_k fun K2 hK2 => ?_
  refine wp_region_lit ?_
  refine t_pure hs rfl rfl (by decide) (p_move rfl rfl) ?_
  clear hs a; intro a hs
  refine t_call hs rfl rfl (by decide) (e_call rfl rfl rfl cb_83) h ?_
  clear hs a h
  intro v a w hk hs
  obtain ⟨t12x0, t12x1, t12x2, rfl, h⟩ := hk
  refine t_pure hs rfl rfl (by decide) (p_move rfl rfl) ?_
  clear hs a; intro a hs
  refine t_pure hs rfl rfl (by decide) (p_extract rfl rfl rfl) ?_
  clear hs a; intro a hs
  refine t_pure hs rfl rfl (by decide) (p_extract rfl rfl rfl) ?_
  clear hs a; intro a hs
  refine t_pure hs rfl rfl (by decide) (p_extract rfl rfl rfl) ?_
  clear hs a; intro a hs
  refine t_pure hs rfl rfl (by decide) (p_assign rfl rfl) ?_
  clear hs a; intro a hs
  refine t_pure hs rfl rfl (by decide) (p_assign rfl rfl) ?_
  clear hs a; intro a hs
  replace hs := hs.to (τ := [(0, (Sl.val data0)), (5, (.int .i64 t12x1)), (15, (.int .i64 t12x2))]) ⟨rfl, rfl, rfl, trivial⟩
  refine t_pure hs rfl rfl (by decide) (p_assign rfl rfl) ?_
  clear hs a; intro a hs
  refine hK2 _ _ ?_
  refine wp_seq_k fun K3 hK3 => ?_
  refine wp_region_lit ?_
  obtain ⟨t16, w1, ha, hw, h⟩ := h
  refine t_eff hs rfl rfl (by decide) (e_buildSlice (z := #[]) (cs := #[]) rfl sl_33 zt_5 (by decide) rfl rz_5_0 (by rfl) ha hw) ?_
  clear hs a ha hw; intro a hs
  refine t_pure hs rfl rfl (by decide) (p_assign rfl rfl) ?_
  clear hs a; intro a hs
  refine hK3 _ _ ?_
  refine wp_seq_k fun K4 hK4 => ?_
  refine wp_block ?_
  obtain ⟨I1, μ1, h0, hr⟩ := h
  refine c_loop (α := Int × Int × Sl) I1 μ1 (fun x a => Slots a 49 [(0, (Sl.val data0)), (5, (.int .i64 x.1)), (6, (.int .i64 x.2.1)), (7, (Sl.val x.2.2))]) (t12x1, t12x2, (Sl.mk (some t16) 0 0)) h0 (hs.to ⟨rfl, rfl, rfl, rfl, trivial⟩) ?_
  clear h0 hs a
  rintro ⟨at5_1, e6_1, body7_1⟩ a w hI hs
  have h : snap_Unpack.b1 Q (fun at5_1n e6_1n body7_1n w' => I1 (at5_1n, e6_1n, body7_1n) w' ∧ μ1 (at5_1n, e6_1n, body7_1n) w' < μ1 (at5_1, e6_1, body7_1) w) data0 at5_1 e6_1 body7_1 w := hr (at5_1, e6_1, body7_1) w hI
  clear hr hI
  generalize hX1 : (fun at5_1n e6_1n body7_1n w' => I1 (at5_1n, e6_1n, body7_1n) w' ∧ μ1 (at5_1n, e6_1n, body7_1n) w' < μ1 (at5_1, e6_1, body7_1) w) = X1 at h
  unfold snap_Unpack.b1 at h
  replace hs : Slots a 49 [(0, (Sl.val data0)), (5, (.int .i64 at5_1)), (6, (.int .i64 e6_1)), (7, (Sl.val body7_1))] := hs
  refine wp_seq_k fun K5 hK5 => ?_
  refine wp_seq_k fun K6 hK6 => ?_
  have J2 : ∀ (t24_2 : Bool) (a : Act) (w : World), Slots a 49 [(0, (Sl.val data0)), (5, (.int .i64 at5_1)), (6, (.int .i64 e6_1)), (7, (Sl.val body7_1)), (24, (.bool t24_2))] → snap_Unpack.s2 Q X1 data0 at5_1 e6_1 body7_1 t24_2 w → K6 a w := by
    clear h hs
    intro t24_2 a w hs h
    refine hK6 _ _ ?_
    unfold snap_Unpack.s2 at h
    refine c_cond hs rfl (fun hb => ?_) (fun hb => ?_)
    · replace h := h.1 hb
      clear hb
      refine wp_skip ?_
      refine hK5 _ _ ?_
      refine wp_block ?_
      refine wp_seq_k fun K7 hK7 => ?_
      refine wp_region_lit ?_
      refine t_pure hs rfl rfl (by decide) (p_assign rfl rfl) ?_
      clear hs a; intro a hs
      refine hK7 _ _ ?_
      refine wp_seq_k fun K8 hK8 => ?_
      refine wp_region_lit ?_
      refine t_pure hs rfl rfl (by decide) (p_assign rfl rfl) ?_
      clear hs a; intro a hs
      refine hK8 _ _ ?_
      refine wp_seq_k fun K9 hK9 => ?_
      refine wp_region_lit ?_
      refine t_pure hs rfl rfl (by decide) (p_move rfl rfl) ?_
      clear hs a; intro a hs
      refine t_pure hs rfl rfl (by decide) (p_move rfl rfl) ?_
      clear hs a; intro a hs
      obtain ⟨t28, h0, h1, h2, h3, he, h⟩ := h
      refine t_pure hs rfl rfl (by decide) (Pure.sl he (p_slc rfl rfl sl_33 ⟨_, rfl⟩ rfl rfl (by decide) h0 h1 h2 h3)) ?_
      clear hs a h0 h1 h2 h3 he; intro a hs
      refine t_call hs rfl rfl (by decide) (e_call rfl rfl rfl cb_83) h ?_
      clear hs a h
      intro v a w hk hs
      obtain ⟨t29x0, t29x1, t29x2, rfl, h⟩ := hk
      refine t_pure hs rfl rfl (by decide) (p_move rfl rfl) ?_
      clear hs a; intro a hs
      refine t_pure hs rfl rfl (by decide) (p_extract rfl rfl rfl) ?_
      clear hs a; intro a hs
      refine t_pure hs rfl rfl (by decide) (p_extract rfl rfl rfl) ?_
      clear hs a; intro a hs
      refine t_pure hs rfl rfl (by decide) (p_extract rfl rfl rfl) ?_
      clear hs a; intro a hs
      replace hs := hs.to (τ := [(0, (Sl.val data0)), (5, (.int .i64 at5_1)), (7, (Sl.val body7_1)), (30, (Sl.val t29x0)), (31, (.int .i64 t29x1)), (32, (.int .i64 t29x2))]) ⟨rfl, rfl, rfl, rfl, rfl, rfl, trivial⟩
      refine t_pure hs rfl rfl (by decide) (p_assign rfl rfl) ?_
      clear hs a; intro a hs
      refine t_pure hs rfl rfl (by decide) (p_assign rfl rfl) ?_
      clear hs a; intro a hs
      refine t_pure hs rfl rfl (by decide) (p_assign rfl rfl) ?_
      clear hs a; intro a hs
      refine hK9 _ _ ?_
      refine wp_seq_k fun K10 hK10 => ?_
      refine wp_region_lit ?_
      refine t_pure hs rfl rfl (by decide) (p_move rfl rfl) ?_
      clear hs a; intro a hs
      refine t_pure hs rfl rfl (by decide) (p_move rfl rfl) ?_
      clear hs a; intro a hs
      obtain ⟨t35, w1, hd, h⟩ := h
      refine t_eff hs rfl rfl (by decide) (e_append rfl rfl rfl rfl hd) ?_
      clear hs a hd; intro a hs
      refine t_pure hs rfl rfl (by decide) (p_assign rfl rfl) ?_
      clear hs a; intro a hs
      refine hK10 _ _ ?_
      refine wp_region_lit ?_
      refine t_pure hs rfl rfl (by decide) (p_move rfl rfl) ?_
      clear hs a; intro a hs
      refine t_pure hs rfl rfl (by decide) (p_move rfl rfl) ?_
      clear hs a; intro a hs
      obtain ⟨t38, he, h⟩ := h
      refine t_pure hs rfl rfl (by decide) (Pure.int he (p_add rfl rfl rfl)) ?_
      clear hs a he; intro a hs
      refine t_pure hs rfl rfl (by decide) (p_assign rfl rfl) ?_
      clear hs a; intro a hs
      rw [← hX1] at h
      exact ⟨(t38, t29x2, t35), hs.to ⟨rfl, rfl, rfl, rfl, trivial⟩, h⟩
    · replace h := h.2 hb
      clear hb
      refine wp_exit ?_
      refine hK4 _ _ ?_
      refine wp_seq_k fun K11 hK11 => ?_
      refine wp_seq_k fun K12 hK12 => ?_
      have J3 : ∀ (t47_3 : Bool) (a : Act) (w : World), Slots a 49 [(7, (Sl.val body7_1)), (47, (.bool t47_3))] → snap_Unpack.s3 Q X1 body7_1 t47_3 w → K12 a w := by
        clear h hs
        intro t47_3 a w hs h
        refine hK12 _ _ ?_
        unfold snap_Unpack.s3 at h
        refine c_cond hs rfl (fun hb => ?_) (fun hb => ?_)
        · replace h := h.1 hb
          clear hb
          refine wp_seq_k fun K13 hK13 => ?_
          refine wp_region_lit ?_
          refine t_pure hs rfl rfl (by decide) (p_assign rfl rfl) ?_
          clear hs a; intro a hs
          refine t_pure hs rfl rfl (by decide) (p_assign rfl rfl) ?_
          clear hs a; intro a hs
          refine hK13 _ _ ?_
          refine wp_ret ?_
          refine f_ret (fn := Try.f65) hs (fun a hs => r_many hs (rs := [ResultVar.tmp 2, ResultVar.tmp 3]) (vs := [(Sl.val (Sl.mk none 0 0)), (.int .i64 61)]) rfl (by decide) ⟨rfl, rfl, trivial⟩) ⟨(Sl.mk none 0 0), 61, rfl, h⟩
        · replace h := h.2 hb
          clear hb
          refine wp_skip ?_
          refine hK11 _ _ ?_
          refine wp_seq_k fun K14 hK14 => ?_
          refine wp_region_lit ?_
          refine t_pure hs rfl rfl (by decide) (p_move rfl rfl) ?_
          clear hs a; intro a hs
          refine t_pure hs rfl rfl (by decide) (p_assign rfl rfl) ?_
          clear hs a; intro a hs
          refine t_pure hs rfl rfl (by decide) (p_assign rfl rfl) ?_
          clear hs a; intro a hs
          refine hK14 _ _ ?_
          refine wp_ret ?_
          refine f_ret (fn := Try.f65) hs (fun a hs => r_many hs (rs := [ResultVar.tmp 2, ResultVar.tmp 3]) (vs := [(Sl.val body7_1), (.int .i64 0)]) rfl (by decide) ⟨rfl, rfl, trivial⟩) ⟨body7_1, 0, rfl, h⟩
      clear hK12
      refine wp_region_lit ?_
      refine t_pure hs rfl rfl (by decide) (p_move rfl rfl) ?_
      clear hs a; intro a hs
      refine t_pure hs rfl rfl (by decide) (p_ne rfl rfl rfl) ?_
      clear hs a; intro a hs
      refine t_pure hs rfl rfl (by decide) (p_move rfl rfl) ?_
      clear hs a; intro a hs
      refine split_bool (decide (e6_1 ≠ 0)) (fun hb => ?_) (fun hb => ?_)
      · replace h := h.1 hb
        rw [hb] at hs
        clear hb
        refine t_no hs rfl rfl (by decide) ?_
        clear hs a; intro a hs
        refine t_no hs rfl rfl (by decide) ?_
        clear hs a; intro a hs
        refine t_no hs rfl rfl (by decide) ?_
        clear hs a; intro a hs
        refine t_no hs rfl rfl (by decide) ?_
        clear hs a; intro a hs
        refine t_no hs rfl rfl (by decide) ?_
        clear hs a; intro a hs
        replace hs := hs.to (τ := [(7, (Sl.val body7_1)), (41, (.bool true)), (46, undef)]) ⟨rfl, rfl, rfl, trivial⟩
        refine t_pure hs rfl rfl (by decide) (p_pick_t rfl rfl rfl) ?_
        clear hs a; intro a hs
        exact J3 true _ _ (hs.to ⟨rfl, rfl, trivial⟩) h
      · replace h := h.2 hb
        rw [hb] at hs
        clear hb
        refine t_yes hs rfl ?_
        refine t_pure hs rfl rfl (by decide) (p_move rfl rfl) ?_
        clear hs a; intro a hs
        refine t_yes hs rfl ?_
        refine t_call hs rfl rfl (by decide) (e_call rfl rfl rfl cb_64) h ?_
        clear hs a h
        intro v a w hk hs
        obtain ⟨t43, rfl, h⟩ := hk
        refine t_yes hs rfl ?_
        refine t_pure hs rfl rfl (by decide) (p_move rfl rfl) ?_
        clear hs a; intro a hs
        refine t_yes hs rfl ?_
        refine t_call hs rfl rfl (by decide) (e_call rfl rfl rfl cb_84) h ?_
        clear hs a h
        intro v a w hk hs
        obtain ⟨t45, rfl, h⟩ := hk
        refine t_yes hs rfl ?_
        refine t_pure hs rfl rfl (by decide) (p_not rfl rfl) ?_
        clear hs a; intro a hs
        replace hs := hs.to (τ := [(7, (Sl.val body7_1)), (41, (.bool false)), (46, (.bool (!t45)))]) ⟨rfl, rfl, rfl, trivial⟩
        refine t_pure hs rfl rfl (by decide) (p_pick_f rfl rfl rfl) ?_
        clear hs a; intro a hs
        exact J3 (!t45) _ _ (hs.to ⟨rfl, rfl, trivial⟩) h
  clear hK6
  refine wp_region_lit ?_
  refine t_pure hs rfl rfl (by decide) (p_move rfl rfl) ?_
  clear hs a; intro a hs
  refine t_pure hs rfl rfl (by decide) (p_eq rfl rfl rfl) ?_
  clear hs a; intro a hs
  refine t_pure hs rfl rfl (by decide) (p_move rfl rfl) ?_
  clear hs a; intro a hs
  refine split_bool (decide (e6_1 = 0)) (fun hb => ?_) (fun hb => ?_)
  · replace h := h.1 hb
    rw [hb] at hs
    clear hb
    refine t_yes hs rfl ?_
    refine t_pure hs rfl rfl (by decide) (p_move rfl rfl) ?_
    clear hs a; intro a hs
    refine t_yes hs rfl ?_
    refine t_pure hs rfl rfl (by decide) (p_move rfl rfl) ?_
    clear hs a; intro a hs
    refine t_yes hs rfl ?_
    refine t_pure hs rfl rfl (by decide) (p_len rfl rfl sl_33) ?_
    clear hs a; intro a hs
    refine t_yes hs rfl ?_
    refine t_pure hs rfl rfl (by decide) (p_lt rfl rfl rfl) ?_
    clear hs a; intro a hs
    refine t_pure hs rfl rfl (by decide) (p_pick_t rfl rfl rfl) ?_
    clear hs a; intro a hs
    exact J2 (decide (at5_1 < (data0.n : Int))) _ _ (hs.to ⟨rfl, rfl, rfl, rfl, rfl, trivial⟩) h
  · replace h := h.2 hb
    rw [hb] at hs
    clear hb
    refine t_no hs rfl rfl (by decide) ?_
    clear hs a; intro a hs
    refine t_no hs rfl rfl (by decide) ?_
    clear hs a; intro a hs
    refine t_no hs rfl rfl (by decide) ?_
    clear hs a; intro a hs
    refine t_no hs rfl rfl (by decide) ?_
    clear hs a; intro a hs
    refine t_pure hs rfl rfl (by decide) (p_pick_f rfl rfl rfl) ?_
    clear hs a; intro a hs
    exact J2 false _ _ (hs.to ⟨rfl, rfl, rfl, rfl, rfl, trivial⟩) h
end Go.Proofs.Ytgnkminakongkaa
