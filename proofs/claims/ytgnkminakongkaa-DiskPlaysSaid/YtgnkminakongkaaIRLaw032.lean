/- Plain forms of functions, and that their code comes to them (package law03). -/
import Derived.Test.YtgnkminakongkaaCalls
namespace Go.Proofs.Ytgnkminakongkaa
open Go Go.Sep
set_option linter.unusedVariables false
set_option linter.unusedSimpArgs false
set_option maxRecDepth 100000
set_option maxHeartbeats 4000000
def law03_DiskStops.s5 (Q : Bool → K) (X1 : Int → Bool → Int → K) (d5_5 : (Option Addr)) (left7_5 : Int) (down8_5 : Bool) (o10_5 : Addr) (t29_5 : Sl) (t30_5 : Int) (t31_5 : Int) : K :=
  Ld (o10_5.add 2) Value.string fun t85 =>
  disk_Disk_Read.call d5_5 t85 fun t86x0 t86x1 =>
  Ite (!((decide (t86x1 = 3)) == down8_5))
    (Q false)
    (Ar (IntKind.wrap .i64 (t31_5 + 1)) fun t93 =>
    X1 left7_5 down8_5 t93)
def law03_DiskStops.s4 (Q : Bool → K) (X1 : Int → Bool → Int → K) (d5_4 : (Option Addr)) (left7_4 : Int) (down8_4 : Bool) (o10_4 : Addr) (e11_4 : Int) (t29_4 : Sl) (t30_4 : Int) (t31_4 : Int) (t76_4 : Bool) : K :=
  Ite t76_4
    (Q false)
    (Ite down8_4
      (law03_DiskStops.s5 Q X1 d5_4 left7_4 true o10_4 t29_4 t30_4 t31_4)
      (law03_DiskStops.s5 Q X1 d5_4 left7_4 (decide (e11_4 = 3)) o10_4 t29_4 t30_4 t31_4))
def law03_DiskStops.s3 (Q : Bool → K) (X1 : Int → Bool → Int → K) (d5_3 : (Option Addr)) (left7_3 : Int) (down8_3 : Bool) (o10_3 : Addr) (e11_3 : Int) (t29_3 : Sl) (t30_3 : Int) (t31_3 : Int) : K :=
  Ite (decide (left7_3 < 0))
    (law03_DiskStops.s4 Q X1 d5_3 left7_3 down8_3 o10_3 e11_3 t29_3 t30_3 t31_3 true)
    (Ite down8_3
      (law03_DiskStops.s4 Q X1 d5_3 left7_3 true o10_3 e11_3 t29_3 t30_3 t31_3 (decide (e11_3 ≠ 3)))
      (law03_DiskStops.s4 Q X1 d5_3 left7_3 false o10_3 e11_3 t29_3 t30_3 t31_3 false))
def law03_DiskStops.s2 (Q : Bool → K) (X1 : Int → Bool → Int → K) (d5_2 : (Option Addr)) (left7_2 : Int) (down8_2 : Bool) (o10_2 : Addr) (e11_2 : Int) (t29_2 : Sl) (t30_2 : Int) (t31_2 : Int) : K :=
  Ite (decide (e11_2 = 0))
    (Ar (IntKind.wrap .i64 (left7_2 - 1)) fun t67 =>
    law03_DiskStops.s3 Q X1 d5_2 t67 down8_2 o10_2 e11_2 t29_2 t30_2 t31_2)
    (law03_DiskStops.s3 Q X1 d5_2 left7_2 down8_2 o10_2 e11_2 t29_2 t30_2 t31_2)
def law03_DiskStops.b1 (Q : Bool → K)  (X1 : Int → Bool → Int → K) (d5_1 : (Option Addr)) (t29_1 : Sl) (t30_1 : Int) (left7_1 : Int) (down8_1 : Bool) (t31_1 : Int) : K :=
  Ite (decide (t31_1 < t30_1))
    (Idx t29_1 t31_1 6 fun t33 =>
    LdN t33 6 fun t34 =>
    New 57 #[(.int .i64 0), (.int .i64 0), (.string ⟨#[]⟩), (.string ⟨#[]⟩), (Sl.val ⟨none, 0, 0⟩), (Sl.val ⟨none, 0, 0⟩)] fun o10 =>
    StN o10 6 t34 <|
    Ld o10 (Value.int .i64) fun t36 =>
    Ar (bitsOf .and .i64 t36 3) fun t37 =>
    Ite (decide (t37 = 0))
      (Ld (o10.add 2) Value.string fun t46 =>
      Ld (o10.add 4) Sl.val fun t48 =>
      disk_Disk_Append.call d5_1 t46 t48 fun t49 =>
      law03_DiskStops.s2 Q X1 d5_1 left7_1 down8_1 o10 t49 t29_1 t30_1 t31_1)
      (Ite (decide (t37 = 1))
        (Ld (o10.add 2) Value.string fun t54 =>
        disk_Disk_Sync.call d5_1 t54 fun t55 =>
        law03_DiskStops.s2 Q X1 d5_1 left7_1 down8_1 o10 t55 t29_1 t30_1 t31_1)
        (Ite (decide (t37 = 2))
          (Ld (o10.add 2) Value.string fun t60 =>
          Ld (o10.add 3) Value.string fun t62 =>
          disk_Disk_Rename.call d5_1 t60 t62 fun t63 =>
          law03_DiskStops.s2 Q X1 d5_1 left7_1 down8_1 o10 t63 t29_1 t30_1 t31_1)
          (Ld (o10.add 2) Value.string fun t40 =>
          disk_Disk_Remove.call d5_1 t40 fun t41 =>
          law03_DiskStops.s2 Q X1 d5_1 left7_1 down8_1 o10 t41 t29_1 t30_1 t31_1))))
    (Q true)
def law03_DiskStops (script0 : Sl) (n1 : Int) (Q : Bool → K) : K :=
  law03_speaks.call  fun t14 =>
  Ite (!t14)
    (Q false)
    (law03_great.call script0 fun t17 =>
    Ite t17
      (Q true)
      (disk_New.call 100000 fun t19x0 t19x1 =>
      Ite ((t19x0).isNone)
        (Q false)
        (Ar (bitsOf .and .i64 n1 31) fun t25 =>
        disk_Disk_Limit.call t19x0 t25 <|
        LoopK (α := Int × Bool × Int) (fun X x => law03_DiskStops.b1 Q (fun left7_1 down8_1 t31_1 => X (left7_1, down8_1, t31_1)) t19x0 script0 (script0.n : Int) x.1 x.2.1 x.2.2) (t25, false, 0))))
theorem law03_DiskStops_ok (script0 : Sl) (n1 : Int) (Q : Bool → K) (w : World) (h : law03_DiskStops script0 n1 Q w) : law03_DiskStops.call script0 n1 Q w := by
  unfold law03_DiskStops.call CallF
  refine f_start (args := [(Sl.val script0), (.int .i64 n1)]) Try.func9 rfl (Nat.le_of_ble_eq_true rfl) ?_
  intro a hs
  unfold law03_DiskStops at h
  refine wp_seq_k fun K1 hK1 => ?_
  refine wp_region_lit ?_
  refine t_pure hs rfl rfl (by decide) (p_assign rfl rfl) ?_
  clear hs a
  intro a hs
  refine hK1 _ _ ?_
  refine wp_seq_k fun K2 hK2 => ?_
  refine wp_seq_k fun K3 hK3 => ?_
  refine wp_region_lit ?_
  refine t_call hs rfl rfl (by decide) (e_call rfl rfl rfl cb_20) h ?_
  clear hs a h
  intro v a w hk hs
  obtain ⟨t14, rfl, h⟩ := hk
  refine t_pure hs rfl rfl (by decide) (p_not rfl rfl) ?_
  clear hs a
  intro a hs
  refine hK3 _ _ ?_
  refine c_cond hs rfl (fun hb => ?_) (fun hb => ?_)
  · replace h := h.1 hb
    clear hb
    refine wp_seq_k fun K4 hK4 => ?_
    refine wp_region_lit ?_
    refine t_pure hs rfl rfl (by decide) (p_assign rfl rfl) ?_
    clear hs a
    intro a hs
    refine hK4 _ _ ?_
    refine wp_ret ?_
    refine f_ret (fn := Try.f9) hs (fun a hs => r_one hs rfl (rfl)) ⟨false, rfl, h⟩
  · replace h := h.2 hb
    clear hb
    refine wp_skip ?_
    refine hK2 _ _ ?_
    refine wp_seq_k fun K5 hK5 => ?_
    refine wp_seq_k fun K6 hK6 => ?_
    refine wp_region_lit ?_
    refine t_pure hs rfl rfl (by decide) (p_move rfl rfl) ?_
    clear hs a
    intro a hs
    refine t_call hs rfl rfl (by decide) (e_call rfl rfl rfl cb_26) h ?_
    clear hs a h
    intro v a w hk hs
    obtain ⟨t17, rfl, h⟩ := hk
    refine hK6 _ _ ?_
    refine c_cond hs rfl (fun hb => ?_) (fun hb => ?_)
    · replace h := h.1 hb
      clear hb
      refine wp_seq_k fun K7 hK7 => ?_
      refine wp_region_lit ?_
      refine t_pure hs rfl rfl (by decide) (p_assign rfl rfl) ?_
      clear hs a
      intro a hs
      refine hK7 _ _ ?_
      refine wp_ret ?_
      refine f_ret (fn := Try.f9) hs (fun a hs => r_one hs rfl (rfl)) ⟨true, rfl, h⟩
    · replace h := h.2 hb
      clear hb
      refine wp_skip ?_
      refine hK5 _ _ ?_
      refine wp_seq_k fun K8 hK8 => ?_
      refine wp_region_lit ?_
      refine t_call hs rfl rfl (by decide) (e_call rfl rfl rfl cb_21) h ?_
      clear hs a h
      intro v a w hk hs
      obtain ⟨t19x0, t19x1, rfl, h⟩ := hk
      refine t_pure hs rfl rfl (by decide) (p_move rfl rfl) ?_
      clear hs a
      intro a hs
      refine t_pure hs rfl rfl (by decide) (p_extract rfl rfl rfl) ?_
      clear hs a
      intro a hs
      refine t_pure hs rfl rfl (by decide) (p_extract rfl rfl rfl) ?_
      clear hs a
      intro a hs
      refine t_pure hs rfl rfl (by decide) (p_assign rfl rfl) ?_
      clear hs a
      intro a hs
      refine t_pure hs rfl rfl (by decide) (p_assign rfl rfl) ?_
      clear hs a
      intro a hs
      refine hK8 _ _ ?_
      refine wp_seq_k fun K9 hK9 => ?_
      refine wp_seq_k fun K10 hK10 => ?_
      refine wp_region_lit ?_
      refine t_pure hs rfl rfl (by decide) (p_move rfl rfl) ?_
      clear hs a
      intro a hs
      refine t_pure hs rfl rfl (by decide) (p_eq_nil rfl rfl rfl Try.underlying45) ?_
      clear hs a
      intro a hs
      refine hK10 _ _ ?_
      refine c_cond hs rfl (fun hb => ?_) (fun hb => ?_)
      · replace h := h.1 hb
        clear hb
        refine wp_seq_k fun K11 hK11 => ?_
        refine wp_region_lit ?_
        refine t_pure hs rfl rfl (by decide) (p_assign rfl rfl) ?_
        clear hs a
        intro a hs
        refine hK11 _ _ ?_
        refine wp_ret ?_
        refine f_ret (fn := Try.f9) hs (fun a hs => r_one hs rfl (rfl)) ⟨false, rfl, h⟩
      · replace h := h.2 hb
        clear hb
        refine wp_skip ?_
        refine hK9 _ _ ?_
        refine wp_seq_k fun K12 hK12 => ?_
        refine wp_region_lit ?_
        refine t_pure hs rfl rfl (by decide) (p_move rfl rfl) ?_
        clear hs a
        intro a hs
        obtain ⟨t25, he, h⟩ := h
        refine t_pure hs rfl rfl (by decide) (Pure.int he (p_and rfl rfl rfl)) ?_
        clear hs a he
        intro a hs
        refine t_pure hs rfl rfl (by decide) (p_assign rfl rfl) ?_
        clear hs a
        intro a hs
        refine t_pure hs rfl rfl (by decide) (p_assign rfl rfl) ?_
        clear hs a
        intro a hs
        refine hK12 _ _ ?_
        refine wp_seq_k fun K13 hK13 => ?_
        refine wp_region_lit ?_
        refine t_pure hs rfl rfl (by decide) (p_move rfl rfl) ?_
        clear hs a
        intro a hs
        refine t_pure hs rfl rfl (by decide) (p_move rfl rfl) ?_
        clear hs a
        intro a hs
        refine t_call hs rfl rfl (by decide) (e_call rfl rfl rfl cb_30) h ?_
        clear hs a h
        intro v a w hk hs
        obtain ⟨rfl, h⟩ := hk
        refine hK13 _ _ ?_
        refine wp_seq_k fun K14 hK14 => ?_
        refine wp_seq_k fun K15 hK15 => ?_
        refine wp_region_lit ?_
        refine t_pure hs rfl rfl (by decide) (p_move rfl rfl) ?_
        clear hs a
        intro a hs
        refine t_pure hs rfl rfl (by decide) (p_len rfl rfl sl_54) ?_
        clear hs a
        intro a hs
        refine t_pure hs rfl rfl (by decide) (p_move rfl rfl) ?_
        clear hs a
        intro a hs
        refine hK15 _ _ ?_
        refine wp_block ?_
        obtain ⟨I1, μ1, h0, hr⟩ := h
        refine c_loop (α := Int × Bool × Int) I1 μ1 (fun x a => Slots a 94 [(5, (.pointer t19x0)), (7, (.int .i64 x.1)), (8, (.bool x.2.1)), (29, (Sl.val script0)), (30, (.int .i64 (script0.n : Int))), (31, (.int .i64 x.2.2))]) (t25, false, 0) h0 (hs.to ⟨rfl, rfl, rfl, rfl, rfl, rfl, trivial⟩) ?_
        clear h0 hs a
        rintro ⟨left7_1, down8_1, t31_1⟩ a w hI hs
        have h : law03_DiskStops.b1 Q (fun left7_1n down8_1n t31_1n w' => I1 (left7_1n, down8_1n, t31_1n) w' ∧ μ1 (left7_1n, down8_1n, t31_1n) w' < μ1 (left7_1, down8_1, t31_1) w) t19x0 script0 (script0.n : Int) left7_1 down8_1 t31_1 w := hr (left7_1, down8_1, t31_1) w hI
        clear hr hI
        generalize hX1 : (fun left7_1n down8_1n t31_1n w' => I1 (left7_1n, down8_1n, t31_1n) w' ∧ μ1 (left7_1n, down8_1n, t31_1n) w' < μ1 (left7_1, down8_1, t31_1) w) = X1 at h
        unfold law03_DiskStops.b1 at h
        replace hs : Slots a 94 [(5, (.pointer t19x0)), (7, (.int .i64 left7_1)), (8, (.bool down8_1)), (29, (Sl.val script0)), (30, (.int .i64 (script0.n : Int))), (31, (.int .i64 t31_1))] := hs
        refine wp_seq_k fun K16 hK16 => ?_
        refine wp_region_lit ?_
        refine t_pure hs rfl rfl (by decide) (p_lt rfl rfl rfl) ?_
        clear hs a
        intro a hs
        refine hK16 _ _ ?_
        refine wp_seq_k fun K17 hK17 => ?_
        refine c_cond hs rfl (fun hb => ?_) (fun hb => ?_)
        · replace h := h.1 hb
          clear hb
          refine wp_skip ?_
          refine hK17 _ _ ?_
          refine wp_seq_k fun K18 hK18 => ?_
          refine wp_block ?_
          refine wp_seq_k fun K19 hK19 => ?_
          refine wp_region_lit ?_
          obtain ⟨qt33, t33, ha, h0, h1, he, h⟩ := h
          refine t_pure hs rfl rfl (by decide) (Pure.adr he (p_idx rfl rfl rfl sl_54 ha h0 h1)) ?_
          clear hs a ha h0 h1 he
          intro a hs
          obtain ⟨t34, hn, hv, h⟩ := h
          refine t_eff hs rfl rfl (by decide) (e_loadN rfl rfl at_57 hn hv) ?_
          clear hs a hn hv
          intro a hs
          obtain ⟨o10, w1, ha, hw, h⟩ := h
          refine t_eff hs rfl rfl (by decide) (e_alloc rfl zt_57 rfl ha hw) ?_
          clear hs a ha hw
          intro a hs
          obtain ⟨w1, hw, hn, hc, hv, h⟩ := h
          refine t_skip hs rfl rfl (e_storeN rfl rfl rfl sz_57 hw hn hc hv) ?_
          clear hs a hw hn hc hv
          intro a hs
          refine hK19 _ _ ?_
          refine wp_seq_k fun K20 hK20 => ?_
          refine wp_region_lit ?_
          refine t_pure hs rfl rfl (by decide) (p_assign rfl rfl) ?_
          clear hs a
          intro a hs
          refine hK20 _ _ ?_
          refine wp_seq_k fun K21 hK21 => ?_
          have J2 : ∀ (down8_2 : Bool) (e11_2 : Int) (a : Act) (w : World), Slots a 94 [(5, (.pointer t19x0)), (7, (.int .i64 left7_1)), (8, (.bool down8_2)), (10, (.pointer (some o10))), (11, (.int .i64 e11_2)), (29, (Sl.val script0)), (30, (.int .i64 (script0.n : Int))), (31, (.int .i64 t31_1))] → law03_DiskStops.s2 Q X1 t19x0 left7_1 down8_2 o10 e11_2 script0 (script0.n : Int) t31_1 w → K21 a w := by
            clear h hs
            intro down8_2 e11_2 a w hs h
            refine hK21 _ _ ?_
            unfold law03_DiskStops.s2 at h
            refine wp_seq_k fun K22 hK22 => ?_
            have J3 : ∀ (left7_3 : Int) (down8_3 : Bool) (a : Act) (w : World), Slots a 94 [(5, (.pointer t19x0)), (7, (.int .i64 left7_3)), (8, (.bool down8_3)), (10, (.pointer (some o10))), (11, (.int .i64 e11_2)), (29, (Sl.val script0)), (30, (.int .i64 (script0.n : Int))), (31, (.int .i64 t31_1))] → law03_DiskStops.s3 Q X1 t19x0 left7_3 down8_3 o10 e11_2 script0 (script0.n : Int) t31_1 w → K22 a w := by
              clear h hs
              intro left7_3 down8_3 a w hs h
              refine hK22 _ _ ?_
              unfold law03_DiskStops.s3 at h
              refine wp_seq_k fun K23 hK23 => ?_
              refine wp_seq_k fun K24 hK24 => ?_
              have J4 : ∀ (down8_4 : Bool) (t76_4 : Bool) (a : Act) (w : World), Slots a 94 [(5, (.pointer t19x0)), (7, (.int .i64 left7_3)), (8, (.bool down8_4)), (10, (.pointer (some o10))), (11, (.int .i64 e11_2)), (29, (Sl.val script0)), (30, (.int .i64 (script0.n : Int))), (31, (.int .i64 t31_1)), (76, (.bool t76_4))] → law03_DiskStops.s4 Q X1 t19x0 left7_3 down8_4 o10 e11_2 script0 (script0.n : Int) t31_1 t76_4 w → K24 a w := by
                clear h hs
                intro down8_4 t76_4 a w hs h
                refine hK24 _ _ ?_
                unfold law03_DiskStops.s4 at h
                refine c_cond hs rfl (fun hb => ?_) (fun hb => ?_)
                · replace h := h.1 hb
                  clear hb
                  refine wp_seq_k fun K25 hK25 => ?_
                  refine wp_region_lit ?_
                  refine t_pure hs rfl rfl (by decide) (p_assign rfl rfl) ?_
                  clear hs a
                  intro a hs
                  refine hK25 _ _ ?_
                  refine wp_ret ?_
                  refine f_ret (fn := Try.f9) hs (fun a hs => r_one hs rfl (rfl)) ⟨false, rfl, h⟩
                · replace h := h.2 hb
                  clear hb
                  refine wp_skip ?_
                  refine hK23 _ _ ?_
                  refine wp_seq_k fun K26 hK26 => ?_
                  have J5 : ∀ (down8_5 : Bool) (a : Act) (w : World), Slots a 94 [(5, (.pointer t19x0)), (7, (.int .i64 left7_3)), (8, (.bool down8_5)), (10, (.pointer (some o10))), (29, (Sl.val script0)), (30, (.int .i64 (script0.n : Int))), (31, (.int .i64 t31_1))] → law03_DiskStops.s5 Q X1 t19x0 left7_3 down8_5 o10 script0 (script0.n : Int) t31_1 w → K26 a w := by
                    clear h hs
                    intro down8_5 a w hs h
                    refine hK26 _ _ ?_
                    unfold law03_DiskStops.s5 at h
                    refine wp_seq_k fun K27 hK27 => ?_
                    refine wp_region_lit ?_
                    refine t_pure hs rfl rfl (by decide) (p_move rfl rfl) ?_
                    clear hs a
                    intro a hs
                    refine t_pure hs rfl rfl (by decide) (p_fieldAddr rfl rfl ft_57_2) ?_
                    clear hs a
                    intro a hs
                    obtain ⟨t85, hv, h⟩ := h
                    refine t_eff hs rfl rfl (by decide) (e_load rfl rfl ct_9 hv) ?_
                    clear hs a hv
                    intro a hs
                    refine t_call hs rfl rfl (by decide) (e_call rfl rfl rfl cb_25) h ?_
                    clear hs a h
                    intro v a w hk hs
                    obtain ⟨t86x0, t86x1, rfl, h⟩ := hk
                    refine t_pure hs rfl rfl (by decide) (p_move rfl rfl) ?_
                    clear hs a
                    intro a hs
                    refine t_pure hs rfl rfl (by decide) (p_extract rfl rfl rfl) ?_
                    clear hs a
                    intro a hs
                    refine t_pure hs rfl rfl (by decide) (p_extract rfl rfl rfl) ?_
                    clear hs a
                    intro a hs
                    refine t_pure hs rfl rfl (by decide) (p_assign rfl rfl) ?_
                    clear hs a
                    intro a hs
                    replace hs := hs.to (τ := [(5, (.pointer t19x0)), (7, (.int .i64 left7_3)), (8, (.bool down8_5)), (29, (Sl.val script0)), (30, (.int .i64 (script0.n : Int))), (31, (.int .i64 t31_1)), (88, (.int .i64 t86x1))]) ⟨rfl, rfl, rfl, rfl, rfl, rfl, rfl, trivial⟩
                    refine t_pure hs rfl rfl (by decide) (p_assign rfl rfl) ?_
                    clear hs a
                    intro a hs
                    refine hK27 _ _ ?_
                    refine wp_seq_k fun K28 hK28 => ?_
                    refine wp_region_lit ?_
                    refine t_pure hs rfl rfl (by decide) (p_move rfl rfl) ?_
                    clear hs a
                    intro a hs
                    refine t_pure hs rfl rfl (by decide) (p_eq rfl rfl rfl) ?_
                    clear hs a
                    intro a hs
                    refine t_pure hs rfl rfl (by decide) (p_move rfl rfl) ?_
                    clear hs a
                    intro a hs
                    refine t_pure hs rfl rfl (by decide) (p_neb rfl rfl rfl Try.underlying4) ?_
                    clear hs a
                    intro a hs
                    refine hK28 _ _ ?_
                    refine c_cond hs rfl (fun hb => ?_) (fun hb => ?_)
                    · replace h := h.1 hb
                      clear hb
                      refine wp_seq_k fun K29 hK29 => ?_
                      refine wp_region_lit ?_
                      refine t_pure hs rfl rfl (by decide) (p_assign rfl rfl) ?_
                      clear hs a
                      intro a hs
                      refine hK29 _ _ ?_
                      refine wp_ret ?_
                      refine f_ret (fn := Try.f9) hs (fun a hs => r_one hs rfl (rfl)) ⟨false, rfl, h⟩
                    · replace h := h.2 hb
                      clear hb
                      refine wp_skip ?_
                      refine hK18 _ _ ?_
                      refine wp_region_lit ?_
                      obtain ⟨t93, he, h⟩ := h
                      refine t_pure hs rfl rfl (by decide) (Pure.int he (p_add rfl rfl rfl)) ?_
                      clear hs a he
                      intro a hs
                      refine t_pure hs rfl rfl (by decide) (p_move rfl rfl) ?_
                      clear hs a
                      intro a hs
                      rw [← hX1] at h
                      exact ⟨(left7_3, down8_5, t93), hs.to ⟨rfl, rfl, rfl, rfl, rfl, rfl, trivial⟩, h⟩
                  clear hK26
                  refine wp_region_lit ?_
                  refine t_pure hs rfl rfl (by decide) (p_move rfl rfl) ?_
                  clear hs a
                  intro a hs
                  refine t_pure hs rfl rfl (by decide) (p_move rfl rfl) ?_
                  clear hs a
                  intro a hs
                  refine split_bool down8_4 (fun hb => ?_) (fun hb => ?_)
                  · replace h := h.1 hb
                    rw [hb] at hs
                    clear hb
                    refine t_no hs rfl rfl (by decide) ?_
                    clear hs a
                    intro a hs
                    refine t_no hs rfl rfl (by decide) ?_
                    clear hs a
                    intro a hs
                    refine t_pure hs rfl rfl (by decide) (p_pick_t rfl rfl rfl) ?_
                    clear hs a
                    intro a hs
                    refine t_pure hs rfl rfl (by decide) (p_assign rfl rfl) ?_
                    clear hs a
                    intro a hs
                    exact J5 true _ _ (hs.to ⟨rfl, rfl, rfl, rfl, rfl, rfl, rfl, trivial⟩) h
                  · replace h := h.2 hb
                    rw [hb] at hs
                    clear hb
                    refine t_yes hs rfl ?_
                    refine t_pure hs rfl rfl (by decide) (p_move rfl rfl) ?_
                    clear hs a
                    intro a hs
                    refine t_yes hs rfl ?_
                    refine t_pure hs rfl rfl (by decide) (p_eq rfl rfl rfl) ?_
                    clear hs a
                    intro a hs
                    refine t_pure hs rfl rfl (by decide) (p_pick_f rfl rfl rfl) ?_
                    clear hs a
                    intro a hs
                    refine t_pure hs rfl rfl (by decide) (p_assign rfl rfl) ?_
                    clear hs a
                    intro a hs
                    exact J5 (decide (e11_2 = 3)) _ _ (hs.to ⟨rfl, rfl, rfl, rfl, rfl, rfl, rfl, trivial⟩) h
              clear hK24
              refine wp_region_lit ?_
              refine t_pure hs rfl rfl (by decide) (p_move rfl rfl) ?_
              clear hs a
              intro a hs
              refine t_pure hs rfl rfl (by decide) (p_lt rfl rfl rfl) ?_
              clear hs a
              intro a hs
              refine t_pure hs rfl rfl (by decide) (p_move rfl rfl) ?_
              clear hs a
              intro a hs
              refine split_bool (decide (left7_3 < 0)) (fun hb => ?_) (fun hb => ?_)
              · replace h := h.1 hb
                rw [hb] at hs
                clear hb
                refine t_no hs rfl rfl (by decide) ?_
                clear hs a
                intro a hs
                refine t_no hs rfl rfl (by decide) ?_
                clear hs a
                intro a hs
                refine t_no hs rfl rfl (by decide) ?_
                clear hs a
                intro a hs
                refine t_no hs rfl rfl (by decide) ?_
                clear hs a
                intro a hs
                refine t_no hs rfl rfl (by decide) ?_
                clear hs a
                intro a hs
                replace hs := hs.to (τ := [(5, (.pointer t19x0)), (7, (.int .i64 left7_3)), (8, (.bool down8_3)), (10, (.pointer (some o10))), (11, (.int .i64 e11_2)), (29, (Sl.val script0)), (30, (.int .i64 (script0.n : Int))), (31, (.int .i64 t31_1)), (70, (.bool true)), (75, undef)]) ⟨rfl, rfl, rfl, rfl, rfl, rfl, rfl, rfl, rfl, rfl, trivial⟩
                refine t_pure hs rfl rfl (by decide) (p_pick_t rfl rfl rfl) ?_
                clear hs a
                intro a hs
                exact J4 down8_3 true _ _ (hs.to ⟨rfl, rfl, rfl, rfl, rfl, rfl, rfl, rfl, rfl, trivial⟩) h
              · replace h := h.2 hb
                rw [hb] at hs
                clear hb
                refine t_yes hs rfl ?_
                refine t_pure hs rfl rfl (by decide) (p_move rfl rfl) ?_
                clear hs a
                intro a hs
                refine t_yes hs rfl ?_
                refine t_pure hs rfl rfl (by decide) (p_move rfl rfl) ?_
                clear hs a
                intro a hs
                refine split_bool down8_3 (fun hb => ?_) (fun hb => ?_)
                · replace h := h.1 hb
                  rw [hb] at hs
                  clear hb
                  refine t_yes hs rfl ?_
                  refine t_pure hs rfl rfl (by decide) (p_move rfl rfl) ?_
                  clear hs a
                  intro a hs
                  refine t_yes hs rfl ?_
                  refine t_pure hs rfl rfl (by decide) (p_ne rfl rfl rfl) ?_
                  clear hs a
                  intro a hs
                  refine t_yes hs rfl ?_
                  refine t_pure hs rfl rfl (by decide) (p_pick_t rfl rfl rfl) ?_
                  clear hs a
                  intro a hs
                  replace hs := hs.to (τ := [(5, (.pointer t19x0)), (7, (.int .i64 left7_3)), (8, (.bool true)), (10, (.pointer (some o10))), (11, (.int .i64 e11_2)), (29, (Sl.val script0)), (30, (.int .i64 (script0.n : Int))), (31, (.int .i64 t31_1)), (70, (.bool false)), (75, (.bool (decide (e11_2 ≠ 3))))]) ⟨rfl, rfl, rfl, rfl, rfl, rfl, rfl, rfl, rfl, rfl, trivial⟩
                  refine t_pure hs rfl rfl (by decide) (p_pick_f rfl rfl rfl) ?_
                  clear hs a
                  intro a hs
                  exact J4 true (decide (e11_2 ≠ 3)) _ _ (hs.to ⟨rfl, rfl, rfl, rfl, rfl, rfl, rfl, rfl, rfl, trivial⟩) h
                · replace h := h.2 hb
                  rw [hb] at hs
                  clear hb
                  refine t_no hs rfl rfl (by decide) ?_
                  clear hs a
                  intro a hs
                  refine t_no hs rfl rfl (by decide) ?_
                  clear hs a
                  intro a hs
                  refine t_yes hs rfl ?_
                  refine t_pure hs rfl rfl (by decide) (p_pick_f rfl rfl rfl) ?_
                  clear hs a
                  intro a hs
                  replace hs := hs.to (τ := [(5, (.pointer t19x0)), (7, (.int .i64 left7_3)), (8, (.bool false)), (10, (.pointer (some o10))), (11, (.int .i64 e11_2)), (29, (Sl.val script0)), (30, (.int .i64 (script0.n : Int))), (31, (.int .i64 t31_1)), (70, (.bool false)), (75, (.bool false))]) ⟨rfl, rfl, rfl, rfl, rfl, rfl, rfl, rfl, rfl, rfl, trivial⟩
                  refine t_pure hs rfl rfl (by decide) (p_pick_f rfl rfl rfl) ?_
                  clear hs a
                  intro a hs
                  exact J4 false false _ _ (hs.to ⟨rfl, rfl, rfl, rfl, rfl, rfl, rfl, rfl, rfl, trivial⟩) h
            clear hK22
            refine wp_seq_k fun K30 hK30 => ?_
            refine wp_region_lit ?_
            refine t_pure hs rfl rfl (by decide) (p_move rfl rfl) ?_
            clear hs a
            intro a hs
            refine t_pure hs rfl rfl (by decide) (p_eq rfl rfl rfl) ?_
            clear hs a
            intro a hs
            refine hK30 _ _ ?_
            refine c_cond hs rfl (fun hb => ?_) (fun hb => ?_)
            · replace h := h.1 hb
              clear hb
              refine wp_region_lit ?_
              refine t_pure hs rfl rfl (by decide) (p_move rfl rfl) ?_
              clear hs a
              intro a hs
              obtain ⟨t67, he, h⟩ := h
              refine t_pure hs rfl rfl (by decide) (Pure.int he (p_sub rfl rfl rfl)) ?_
              clear hs a he
              intro a hs
              refine t_pure hs rfl rfl (by decide) (p_assign rfl rfl) ?_
              clear hs a
              intro a hs
              exact J3 t67 down8_2 _ _ (hs.to ⟨rfl, rfl, rfl, rfl, rfl, rfl, rfl, rfl, trivial⟩) h
            · replace h := h.2 hb
              clear hb
              refine wp_skip ?_
              exact J3 left7_1 down8_2 _ _ (hs.to ⟨rfl, rfl, rfl, rfl, rfl, rfl, rfl, rfl, trivial⟩) h
          clear hK21
          refine wp_seq_k fun K31 hK31 => ?_
          refine wp_region_lit ?_
          refine t_pure hs rfl rfl (by decide) (p_fieldAddr0 rfl rfl ft_57_0) ?_
          clear hs a
          intro a hs
          obtain ⟨t36, hv, h⟩ := h
          refine t_eff hs rfl rfl (by decide) (e_load rfl rfl ct_3 hv) ?_
          clear hs a hv
          intro a hs
          obtain ⟨t37, he, h⟩ := h
          refine t_pure hs rfl rfl (by decide) (Pure.int he (p_and rfl rfl rfl)) ?_
          clear hs a he
          intro a hs
          refine hK31 _ _ ?_
          refine wp_block ?_
          refine wp_seq_k fun K32 hK32 => ?_
          refine wp_region_lit ?_
          refine t_pure hs rfl rfl (by decide) (p_eq rfl rfl rfl) ?_
          clear hs a
          intro a hs
          refine t_pure hs rfl rfl (by decide) (p_assign rfl rfl) ?_
          clear hs a
          intro a hs
          refine hK32 _ _ ?_
          refine c_cond hs rfl (fun hb => ?_) (fun hb => ?_)
          · replace h := h.1 hb
            clear hb
            refine wp_region_lit ?_
            refine t_pure hs rfl rfl (by decide) (p_move rfl rfl) ?_
            clear hs a
            intro a hs
            refine t_pure hs rfl rfl (by decide) (p_fieldAddr rfl rfl ft_57_2) ?_
            clear hs a
            intro a hs
            obtain ⟨t46, hv, h⟩ := h
            refine t_eff hs rfl rfl (by decide) (e_load rfl rfl ct_9 hv) ?_
            clear hs a hv
            intro a hs
            refine t_pure hs rfl rfl (by decide) (p_fieldAddr rfl rfl ft_57_4) ?_
            clear hs a
            intro a hs
            obtain ⟨t48, hv, h⟩ := h
            refine t_eff hs rfl rfl (by decide) (e_load rfl rfl ct_33 hv) ?_
            clear hs a hv
            intro a hs
            refine t_call hs rfl rfl (by decide) (e_call rfl rfl rfl cb_22) h ?_
            clear hs a h
            intro v a w hk hs
            obtain ⟨t49, rfl, h⟩ := hk
            refine t_pure hs rfl rfl (by decide) (p_assign rfl rfl) ?_
            clear hs a
            intro a hs
            exact J2 down8_1 t49 _ _ (hs.to ⟨rfl, rfl, rfl, rfl, rfl, rfl, rfl, rfl, trivial⟩) h
          · replace h := h.2 hb
            clear hb
            refine wp_seq_k fun K33 hK33 => ?_
            refine wp_region_lit ?_
            refine t_pure hs rfl rfl (by decide) (p_eq rfl rfl rfl) ?_
            clear hs a
            intro a hs
            refine t_pure hs rfl rfl (by decide) (p_assign rfl rfl) ?_
            clear hs a
            intro a hs
            refine hK33 _ _ ?_
            refine c_cond hs rfl (fun hb => ?_) (fun hb => ?_)
            · replace h := h.1 hb
              clear hb
              refine wp_region_lit ?_
              refine t_pure hs rfl rfl (by decide) (p_move rfl rfl) ?_
              clear hs a
              intro a hs
              refine t_pure hs rfl rfl (by decide) (p_fieldAddr rfl rfl ft_57_2) ?_
              clear hs a
              intro a hs
              obtain ⟨t54, hv, h⟩ := h
              refine t_eff hs rfl rfl (by decide) (e_load rfl rfl ct_9 hv) ?_
              clear hs a hv
              intro a hs
              refine t_call hs rfl rfl (by decide) (e_call rfl rfl rfl cb_23) h ?_
              clear hs a h
              intro v a w hk hs
              obtain ⟨t55, rfl, h⟩ := hk
              refine t_pure hs rfl rfl (by decide) (p_assign rfl rfl) ?_
              clear hs a
              intro a hs
              exact J2 down8_1 t55 _ _ (hs.to ⟨rfl, rfl, rfl, rfl, rfl, rfl, rfl, rfl, trivial⟩) h
            · replace h := h.2 hb
              clear hb
              refine wp_seq_k fun K34 hK34 => ?_
              refine wp_region_lit ?_
              refine t_pure hs rfl rfl (by decide) (p_eq rfl rfl rfl) ?_
              clear hs a
              intro a hs
              refine t_pure hs rfl rfl (by decide) (p_assign rfl rfl) ?_
              clear hs a
              intro a hs
              refine hK34 _ _ ?_
              refine c_cond hs rfl (fun hb => ?_) (fun hb => ?_)
              · replace h := h.1 hb
                clear hb
                refine wp_region_lit ?_
                refine t_pure hs rfl rfl (by decide) (p_move rfl rfl) ?_
                clear hs a
                intro a hs
                refine t_pure hs rfl rfl (by decide) (p_fieldAddr rfl rfl ft_57_2) ?_
                clear hs a
                intro a hs
                obtain ⟨t60, hv, h⟩ := h
                refine t_eff hs rfl rfl (by decide) (e_load rfl rfl ct_9 hv) ?_
                clear hs a hv
                intro a hs
                refine t_pure hs rfl rfl (by decide) (p_fieldAddr rfl rfl ft_57_3) ?_
                clear hs a
                intro a hs
                obtain ⟨t62, hv, h⟩ := h
                refine t_eff hs rfl rfl (by decide) (e_load rfl rfl ct_9 hv) ?_
                clear hs a hv
                intro a hs
                refine t_call hs rfl rfl (by decide) (e_call rfl rfl rfl cb_31) h ?_
                clear hs a h
                intro v a w hk hs
                obtain ⟨t63, rfl, h⟩ := hk
                refine t_pure hs rfl rfl (by decide) (p_assign rfl rfl) ?_
                clear hs a
                intro a hs
                exact J2 down8_1 t63 _ _ (hs.to ⟨rfl, rfl, rfl, rfl, rfl, rfl, rfl, rfl, trivial⟩) h
              · replace h := h.2 hb
                clear hb
                refine wp_region_lit ?_
                refine t_pure hs rfl rfl (by decide) (p_move rfl rfl) ?_
                clear hs a
                intro a hs
                refine t_pure hs rfl rfl (by decide) (p_fieldAddr rfl rfl ft_57_2) ?_
                clear hs a
                intro a hs
                obtain ⟨t40, hv, h⟩ := h
                refine t_eff hs rfl rfl (by decide) (e_load rfl rfl ct_9 hv) ?_
                clear hs a hv
                intro a hs
                refine t_call hs rfl rfl (by decide) (e_call rfl rfl rfl cb_32) h ?_
                clear hs a h
                intro v a w hk hs
                obtain ⟨t41, rfl, h⟩ := hk
                refine t_pure hs rfl rfl (by decide) (p_assign rfl rfl) ?_
                clear hs a
                intro a hs
                exact J2 down8_1 t41 _ _ (hs.to ⟨rfl, rfl, rfl, rfl, rfl, rfl, rfl, rfl, trivial⟩) h
        · replace h := h.2 hb
          clear hb
          refine wp_exit ?_
          refine hK14 _ _ ?_
          refine wp_seq_k fun K35 hK35 => ?_
          refine wp_region_lit ?_
          refine t_pure hs rfl rfl (by decide) (p_assign rfl rfl) ?_
          clear hs a
          intro a hs
          refine hK35 _ _ ?_
          refine wp_ret ?_
          refine f_ret (fn := Try.f9) hs (fun a hs => r_one hs rfl (rfl)) ⟨true, rfl, h⟩
def law03_DiskPlays.s2 (Q : Bool → K)  (t4_2 : Bool) : K :=
  Q t4_2
def law03_DiskPlays.s4 (Q : Bool → K) (X3 : (Option Addr) → (Option Addr) → Int → K) (d5_4 : (Option Addr)) (m7_4 : (Option Addr)) (t46_4 : Sl) (t47_4 : Int) (t48_4 : Int) : K :=
  law03_same.call d5_4 m7_4 fun t82 =>
  Ite (!t82)
    (Q false)
    (Ar (IntKind.wrap .i64 (t48_4 + 1)) fun t84 =>
    X3 d5_4 m7_4 t84)
def law03_DiskPlays.s5 (Q : Bool → K) (X3 : (Option Addr) → (Option Addr) → Int → K) (m7_5 : (Option Addr)) (o9_5 : Addr) (x10_5 : (Option Addr)) (t46_5 : Sl) (t47_5 : Int) (t48_5 : Int) (t69_5 : Bool) : K :=
  Ite t69_5
    (Q false)
    (Ld (o9_5.add 5) Sl.val fun t73 =>
    ref03_Disk_Crash.call m7_5 t73 fun t74 =>
    law03_DiskPlays.s4 Q X3 x10_5 t74 t46_5 t47_5 t48_5)
def law03_DiskPlays.b3 (Q : Bool → K)  (X3 : (Option Addr) → (Option Addr) → Int → K) (t46_3 : Sl) (t47_3 : Int) (d5_3 : (Option Addr)) (m7_3 : (Option Addr)) (t48_3 : Int) : K :=
  Ite (decide (t48_3 < t47_3))
    (Idx t46_3 t48_3 6 fun t50 =>
    LdN t50 6 fun t51 =>
    New 57 #[(.int .i64 0), (.int .i64 0), (.string ⟨#[]⟩), (.string ⟨#[]⟩), (Sl.val ⟨none, 0, 0⟩), (Sl.val ⟨none, 0, 0⟩)] fun o9 =>
    StN o9 6 t51 <|
    Ld o9 (Value.int .i64) fun t53 =>
    Ar (bitsOf .and .i64 t53 15) fun t54 =>
    Ite (decide (t54 = 9))
      (New 3 #[] fun t57 =>
      Ld (o9.add 5) Sl.val fun t59 =>
      Do Try.prog (Builtin.append_ #[44, 44] 44 #[(Sl.val (Sl.mk (some t57) 0 0)), (Sl.val t59)]) Sl.val fun t60 =>
      disk_Disk_Crash.call d5_3 t60 fun t61 =>
      Ite ((t61).isNone)
        (law03_DiskPlays.s5 Q X3 m7_3 o9 t61 t46_3 t47_3 t48_3 true)
        (law03_same.call d5_3 m7_3 fun t67 =>
        law03_DiskPlays.s5 Q X3 m7_3 o9 t61 t46_3 t47_3 t48_3 (!t67)))
      (LdN o9 6 fun t77 =>
      law03_step.call d5_3 m7_3 t77 fun t78 =>
      Ite (!t78)
        (Q false)
        (law03_DiskPlays.s4 Q X3 d5_3 m7_3 t46_3 t47_3 t48_3)))
    (Q true)
def law03_DiskPlays.s1 (Q : Bool → K)  (room0_1 : Int) (script1_1 : Sl) (d5_1 : (Option Addr)) (e6_1 : Int) (t29_1 : Bool) : K :=
  Ite t29_1
    (Ite ((d5_1).isNone)
      (Ite (decide (e6_1 = 1))
        (Ite (decide (room0_1 < 1))
          (law03_DiskPlays.s2 Q true)
          (law03_DiskPlays.s2 Q (decide ((1048576 : Int) < room0_1))))
        (law03_DiskPlays.s2 Q false))
      (law03_DiskPlays.s2 Q false))
    (ref03_New.call room0_1 fun t45 =>
    LoopK (α := (Option Addr) × (Option Addr) × Int) (fun X x => law03_DiskPlays.b3 Q (fun d5_3 m7_3 t48_3 => X (d5_3, m7_3, t48_3)) script1_1 (script1_1.n : Int) x.1 x.2.1 x.2.2) (d5_1, t45, 0))
def law03_DiskPlays (room0 : Int) (script1 : Sl) (Q : Bool → K) : K :=
  law03_speaks.call  fun t11 =>
  Ite (!t11)
    (Q false)
    (law03_great.call script1 fun t14 =>
    Ite t14
      (Q true)
      (disk_New.call room0 fun t17x0 t17x1 =>
      Ite (decide (room0 < 1))
        (law03_DiskPlays.s1 Q room0 script1 t17x0 t17x1 true)
        (Ite (decide ((1048576 : Int) < room0))
          (law03_DiskPlays.s1 Q room0 script1 t17x0 t17x1 true)
          (law03_DiskPlays.s1 Q room0 script1 t17x0 t17x1 ((t17x0).isNone)))))
theorem law03_DiskPlays_ok (room0 : Int) (script1 : Sl) (Q : Bool → K) (w : World) (h : law03_DiskPlays room0 script1 Q w) : law03_DiskPlays.call room0 script1 Q w := by
  unfold law03_DiskPlays.call CallF
  refine f_start (args := [(.int .i64 room0), (Sl.val script1)]) Try.func10 rfl (Nat.le_of_ble_eq_true rfl) ?_
  intro a hs
  unfold law03_DiskPlays at h
  refine wp_seq_k fun K1 hK1 => ?_
  refine wp_region_lit ?_
  refine t_pure hs rfl rfl (by decide) (p_assign rfl rfl) ?_
  clear hs a
  intro a hs
  refine hK1 _ _ ?_
  refine wp_seq_k fun K2 hK2 => ?_
  refine wp_seq_k fun K3 hK3 => ?_
  refine wp_region_lit ?_
  refine t_call hs rfl rfl (by decide) (e_call rfl rfl rfl cb_20) h ?_
  clear hs a h
  intro v a w hk hs
  obtain ⟨t11, rfl, h⟩ := hk
  refine t_pure hs rfl rfl (by decide) (p_not rfl rfl) ?_
  clear hs a
  intro a hs
  refine hK3 _ _ ?_
  refine c_cond hs rfl (fun hb => ?_) (fun hb => ?_)
  · replace h := h.1 hb
    clear hb
    refine wp_seq_k fun K4 hK4 => ?_
    refine wp_region_lit ?_
    refine t_pure hs rfl rfl (by decide) (p_assign rfl rfl) ?_
    clear hs a
    intro a hs
    refine hK4 _ _ ?_
    refine wp_ret ?_
    refine f_ret (fn := Try.f10) hs (fun a hs => r_one hs rfl (rfl)) ⟨false, rfl, h⟩
  · replace h := h.2 hb
    clear hb
    refine wp_skip ?_
    refine hK2 _ _ ?_
    refine wp_seq_k fun K5 hK5 => ?_
    refine wp_seq_k fun K6 hK6 => ?_
    refine wp_region_lit ?_
    refine t_pure hs rfl rfl (by decide) (p_move rfl rfl) ?_
    clear hs a
    intro a hs
    refine t_call hs rfl rfl (by decide) (e_call rfl rfl rfl cb_26) h ?_
    clear hs a h
    intro v a w hk hs
    obtain ⟨t14, rfl, h⟩ := hk
    refine hK6 _ _ ?_
    refine c_cond hs rfl (fun hb => ?_) (fun hb => ?_)
    · replace h := h.1 hb
      clear hb
      refine wp_seq_k fun K7 hK7 => ?_
      refine wp_region_lit ?_
      refine t_pure hs rfl rfl (by decide) (p_assign rfl rfl) ?_
      clear hs a
      intro a hs
      refine hK7 _ _ ?_
      refine wp_ret ?_
      refine f_ret (fn := Try.f10) hs (fun a hs => r_one hs rfl (rfl)) ⟨true, rfl, h⟩
    · replace h := h.2 hb
      clear hb
      refine wp_skip ?_
      refine hK5 _ _ ?_
      refine wp_seq_k fun K8 hK8 => ?_
      refine wp_region_lit ?_
      refine t_pure hs rfl rfl (by decide) (p_move rfl rfl) ?_
      clear hs a
      intro a hs
      refine t_call hs rfl rfl (by decide) (e_call rfl rfl rfl cb_21) h ?_
      clear hs a h
      intro v a w hk hs
      obtain ⟨t17x0, t17x1, rfl, h⟩ := hk
      refine t_pure hs rfl rfl (by decide) (p_move rfl rfl) ?_
      clear hs a
      intro a hs
      refine t_pure hs rfl rfl (by decide) (p_extract rfl rfl rfl) ?_
      clear hs a
      intro a hs
      refine t_pure hs rfl rfl (by decide) (p_extract rfl rfl rfl) ?_
      clear hs a
      intro a hs
      refine t_pure hs rfl rfl (by decide) (p_assign rfl rfl) ?_
      clear hs a
      intro a hs
      refine t_pure hs rfl rfl (by decide) (p_assign rfl rfl) ?_
      clear hs a
      intro a hs
      refine hK8 _ _ ?_
      refine wp_seq_k fun K9 hK9 => ?_
      refine wp_seq_k fun K10 hK10 => ?_
      have J1 : ∀ (t29_1 : Bool) (a : Act) (w : World), Slots a 85 [(0, (.int .i64 room0)), (1, (Sl.val script1)), (5, (.pointer t17x0)), (6, (.int .i64 t17x1)), (29, (.bool t29_1))] → law03_DiskPlays.s1 Q room0 script1 t17x0 t17x1 t29_1 w → K10 a w := by
        clear h hs
        intro t29_1 a w hs h
        refine hK10 _ _ ?_
        unfold law03_DiskPlays.s1 at h
        refine c_cond hs rfl (fun hb => ?_) (fun hb => ?_)
        · replace h := h.1 hb
          clear hb
          refine wp_seq_k fun K11 hK11 => ?_
          have J2 : ∀ (t4_2 : Bool) (a : Act) (w : World), Slots a 85 [(4, (.bool t4_2))] → law03_DiskPlays.s2 Q t4_2 w → K11 a w := by
            clear h hs
            intro t4_2 a w hs h
            refine hK11 _ _ ?_
            unfold law03_DiskPlays.s2 at h
            refine wp_ret ?_
            refine f_ret (fn := Try.f10) hs (fun a hs => r_one hs rfl (rfl)) ⟨t4_2, rfl, h⟩
          clear hK11
          refine wp_region_lit ?_
          refine t_pure hs rfl rfl (by decide) (p_move rfl rfl) ?_
          clear hs a
          intro a hs
          refine t_pure hs rfl rfl (by decide) (p_eq_nil rfl rfl rfl Try.underlying45) ?_
          clear hs a
          intro a hs
          refine t_pure hs rfl rfl (by decide) (p_move rfl rfl) ?_
          clear hs a
          intro a hs
          refine split_bool ((t17x0).isNone) (fun hb => ?_) (fun hb => ?_)
          · replace h := h.1 hb
            rw [hb] at hs
            clear hb
            refine t_yes hs rfl ?_
            refine t_pure hs rfl rfl (by decide) (p_move rfl rfl) ?_
            clear hs a
            intro a hs
            refine t_yes hs rfl ?_
            refine t_pure hs rfl rfl (by decide) (p_eq rfl rfl rfl) ?_
            clear hs a
            intro a hs
            refine t_pure hs rfl rfl (by decide) (p_pick_t rfl rfl rfl) ?_
            clear hs a
            intro a hs
            refine t_pure hs rfl rfl (by decide) (p_move rfl rfl) ?_
            clear hs a
            intro a hs
            refine split_bool (decide (t17x1 = 1)) (fun hb => ?_) (fun hb => ?_)
            · replace h := h.1 hb
              rw [hb] at hs
              clear hb
              refine t_yes hs rfl ?_
              refine t_pure hs rfl rfl (by decide) (p_move rfl rfl) ?_
              clear hs a
              intro a hs
              replace hs := hs.to (τ := [(0, (.int .i64 room0)), (36, (.bool true)), (37, (.int .i64 room0))]) ⟨rfl, rfl, rfl, trivial⟩
              refine t_yes hs rfl ?_
              refine t_pure hs rfl rfl (by decide) (p_lt rfl rfl rfl) ?_
              clear hs a
              intro a hs
              refine t_yes hs rfl ?_
              refine t_pure hs rfl rfl (by decide) (p_move rfl rfl) ?_
              clear hs a
              intro a hs
              refine split_bool (decide (room0 < 1)) (fun hb => ?_) (fun hb => ?_)
              · replace h := h.1 hb
                rw [hb] at hs
                clear hb
                refine t_no hs rfl rfl (by decide) ?_
                clear hs a
                intro a hs
                refine t_no hs rfl rfl (by decide) ?_
                clear hs a
                intro a hs
                refine t_yes hs rfl ?_
                refine t_pure hs rfl rfl (by decide) (p_pick_t rfl rfl rfl) ?_
                clear hs a
                intro a hs
                refine t_pure hs rfl rfl (by decide) (p_pick_t rfl rfl rfl) ?_
                clear hs a
                intro a hs
                refine t_pure hs rfl rfl (by decide) (p_assign rfl rfl) ?_
                clear hs a
                intro a hs
                exact J2 true _ _ (hs.to ⟨rfl, trivial⟩) h
              · replace h := h.2 hb
                rw [hb] at hs
                clear hb
                refine t_yes hs rfl ?_
                refine t_pure hs rfl rfl (by decide) (p_move rfl rfl) ?_
                clear hs a
                intro a hs
                refine t_yes hs rfl ?_
                refine t_pure hs rfl rfl (by decide) (p_gt rfl rfl rfl) ?_
                clear hs a
                intro a hs
                refine t_yes hs rfl ?_
                refine t_pure hs rfl rfl (by decide) (p_pick_f rfl rfl rfl) ?_
                clear hs a
                intro a hs
                refine t_pure hs rfl rfl (by decide) (p_pick_t rfl rfl rfl) ?_
                clear hs a
                intro a hs
                refine t_pure hs rfl rfl (by decide) (p_assign rfl rfl) ?_
                clear hs a
                intro a hs
                exact J2 (decide ((1048576 : Int) < room0)) _ _ (hs.to ⟨rfl, trivial⟩) h
            · replace h := h.2 hb
              rw [hb] at hs
              clear hb
              refine t_no hs rfl rfl (by decide) ?_
              clear hs a
              intro a hs
              replace hs := hs.to (τ := [(0, (.int .i64 room0)), (36, (.bool false)), (37, undef)]) ⟨rfl, rfl, rfl, trivial⟩
              refine t_no hs rfl rfl (by decide) ?_
              clear hs a
              intro a hs
              refine t_no hs rfl rfl (by decide) ?_
              clear hs a
              intro a hs
              refine t_no hs rfl rfl (by decide) ?_
              clear hs a
              intro a hs
              refine t_no hs rfl rfl (by decide) ?_
              clear hs a
              intro a hs
              refine t_no hs rfl rfl (by decide) ?_
              clear hs a
              intro a hs
              refine t_pure hs rfl rfl (by decide) (p_pick_f rfl rfl rfl) ?_
              clear hs a
              intro a hs
              refine t_pure hs rfl rfl (by decide) (p_assign rfl rfl) ?_
              clear hs a
              intro a hs
              exact J2 false _ _ (hs.to ⟨rfl, trivial⟩) h
          · replace h := h.2 hb
            rw [hb] at hs
            clear hb
            refine t_no hs rfl rfl (by decide) ?_
            clear hs a
            intro a hs
            refine t_no hs rfl rfl (by decide) ?_
            clear hs a
            intro a hs
            refine t_pure hs rfl rfl (by decide) (p_pick_f rfl rfl rfl) ?_
            clear hs a
            intro a hs
            refine t_pure hs rfl rfl (by decide) (p_move rfl rfl) ?_
            clear hs a
            intro a hs
            refine t_no hs rfl rfl (by decide) ?_
            clear hs a
            intro a hs
            replace hs := hs.to (τ := [(0, (.int .i64 room0)), (36, (.bool false)), (37, undef)]) ⟨rfl, rfl, rfl, trivial⟩
            refine t_no hs rfl rfl (by decide) ?_
            clear hs a
            intro a hs
            refine t_no hs rfl rfl (by decide) ?_
            clear hs a
            intro a hs
            refine t_no hs rfl rfl (by decide) ?_
            clear hs a
            intro a hs
            refine t_no hs rfl rfl (by decide) ?_
            clear hs a
            intro a hs
            refine t_no hs rfl rfl (by decide) ?_
            clear hs a
            intro a hs
            refine t_pure hs rfl rfl (by decide) (p_pick_f rfl rfl rfl) ?_
            clear hs a
            intro a hs
            refine t_pure hs rfl rfl (by decide) (p_assign rfl rfl) ?_
            clear hs a
            intro a hs
            exact J2 false _ _ (hs.to ⟨rfl, trivial⟩) h
        · replace h := h.2 hb
          clear hb
          refine wp_skip ?_
          refine hK9 _ _ ?_
          refine wp_seq_k fun K12 hK12 => ?_
          refine wp_region_lit ?_
          refine t_pure hs rfl rfl (by decide) (p_move rfl rfl) ?_
          clear hs a
          intro a hs
          refine t_call hs rfl rfl (by decide) (e_call rfl rfl rfl cb_33) h ?_
          clear hs a h
          intro v a w hk hs
          obtain ⟨t45, rfl, h⟩ := hk
          refine t_pure hs rfl rfl (by decide) (p_assign rfl rfl) ?_
          clear hs a
          intro a hs
          refine hK12 _ _ ?_
          refine wp_seq_k fun K13 hK13 => ?_
          refine wp_seq_k fun K14 hK14 => ?_
          refine wp_region_lit ?_
          refine t_pure hs rfl rfl (by decide) (p_move rfl rfl) ?_
          clear hs a
          intro a hs
          refine t_pure hs rfl rfl (by decide) (p_len rfl rfl sl_54) ?_
          clear hs a
          intro a hs
          refine t_pure hs rfl rfl (by decide) (p_move rfl rfl) ?_
          clear hs a
          intro a hs
          refine hK14 _ _ ?_
          refine wp_block ?_
          obtain ⟨I3, μ3, h0, hr⟩ := h
          refine c_loop (α := (Option Addr) × (Option Addr) × Int) I3 μ3 (fun x a => Slots a 85 [(5, (.pointer x.1)), (7, (.pointer x.2.1)), (46, (Sl.val script1)), (47, (.int .i64 (script1.n : Int))), (48, (.int .i64 x.2.2))]) (t17x0, t45, 0) h0 (hs.to ⟨rfl, rfl, rfl, rfl, rfl, trivial⟩) ?_
          clear h0 hs a
          rintro ⟨d5_3, m7_3, t48_3⟩ a w hI hs
          have h : law03_DiskPlays.b3 Q (fun d5_3n m7_3n t48_3n w' => I3 (d5_3n, m7_3n, t48_3n) w' ∧ μ3 (d5_3n, m7_3n, t48_3n) w' < μ3 (d5_3, m7_3, t48_3) w) script1 (script1.n : Int) d5_3 m7_3 t48_3 w := hr (d5_3, m7_3, t48_3) w hI
          clear hr hI
          generalize hX3 : (fun d5_3n m7_3n t48_3n w' => I3 (d5_3n, m7_3n, t48_3n) w' ∧ μ3 (d5_3n, m7_3n, t48_3n) w' < μ3 (d5_3, m7_3, t48_3) w) = X3 at h
          unfold law03_DiskPlays.b3 at h
          replace hs : Slots a 85 [(5, (.pointer d5_3)), (7, (.pointer m7_3)), (46, (Sl.val script1)), (47, (.int .i64 (script1.n : Int))), (48, (.int .i64 t48_3))] := hs
          refine wp_seq_k fun K15 hK15 => ?_
          refine wp_region_lit ?_
          refine t_pure hs rfl rfl (by decide) (p_lt rfl rfl rfl) ?_
          clear hs a
          intro a hs
          refine hK15 _ _ ?_
          refine wp_seq_k fun K16 hK16 => ?_
          refine c_cond hs rfl (fun hb => ?_) (fun hb => ?_)
          · replace h := h.1 hb
            clear hb
            refine wp_skip ?_
            refine hK16 _ _ ?_
            refine wp_seq_k fun K17 hK17 => ?_
            refine wp_block ?_
            refine wp_seq_k fun K18 hK18 => ?_
            refine wp_region_lit ?_
            obtain ⟨qt50, t50, ha, h0, h1, he, h⟩ := h
            refine t_pure hs rfl rfl (by decide) (Pure.adr he (p_idx rfl rfl rfl sl_54 ha h0 h1)) ?_
            clear hs a ha h0 h1 he
            intro a hs
            obtain ⟨t51, hn, hv, h⟩ := h
            refine t_eff hs rfl rfl (by decide) (e_loadN rfl rfl at_57 hn hv) ?_
            clear hs a hn hv
            intro a hs
            obtain ⟨o9, w1, ha, hw, h⟩ := h
            refine t_eff hs rfl rfl (by decide) (e_alloc rfl zt_57 rfl ha hw) ?_
            clear hs a ha hw
            intro a hs
            obtain ⟨w1, hw, hn, hc, hv, h⟩ := h
            refine t_skip hs rfl rfl (e_storeN rfl rfl rfl sz_57 hw hn hc hv) ?_
            clear hs a hw hn hc hv
            intro a hs
            refine hK18 _ _ ?_
            refine wp_seq_k fun K19 hK19 => ?_
            have J4 : ∀ (d5_4 : (Option Addr)) (m7_4 : (Option Addr)) (a : Act) (w : World), Slots a 85 [(5, (.pointer d5_4)), (7, (.pointer m7_4)), (46, (Sl.val script1)), (47, (.int .i64 (script1.n : Int))), (48, (.int .i64 t48_3))] → law03_DiskPlays.s4 Q X3 d5_4 m7_4 script1 (script1.n : Int) t48_3 w → K19 a w := by
              clear h hs
              intro d5_4 m7_4 a w hs h
              refine hK19 _ _ ?_
              unfold law03_DiskPlays.s4 at h
              refine wp_seq_k fun K20 hK20 => ?_
              refine wp_region_lit ?_
              refine t_pure hs rfl rfl (by decide) (p_move rfl rfl) ?_
              clear hs a
              intro a hs
              refine t_pure hs rfl rfl (by decide) (p_move rfl rfl) ?_
              clear hs a
              intro a hs
              refine t_call hs rfl rfl (by decide) (e_call rfl rfl rfl cb_34) h ?_
              clear hs a h
              intro v a w hk hs
              obtain ⟨t82, rfl, h⟩ := hk
              refine t_pure hs rfl rfl (by decide) (p_not rfl rfl) ?_
              clear hs a
              intro a hs
              refine hK20 _ _ ?_
              refine c_cond hs rfl (fun hb => ?_) (fun hb => ?_)
              · replace h := h.1 hb
                clear hb
                refine wp_seq_k fun K21 hK21 => ?_
                refine wp_region_lit ?_
                refine t_pure hs rfl rfl (by decide) (p_assign rfl rfl) ?_
                clear hs a
                intro a hs
                refine hK21 _ _ ?_
                refine wp_ret ?_
                refine f_ret (fn := Try.f10) hs (fun a hs => r_one hs rfl (rfl)) ⟨false, rfl, h⟩
              · replace h := h.2 hb
                clear hb
                refine wp_skip ?_
                refine hK17 _ _ ?_
                refine wp_region_lit ?_
                obtain ⟨t84, he, h⟩ := h
                refine t_pure hs rfl rfl (by decide) (Pure.int he (p_add rfl rfl rfl)) ?_
                clear hs a he
                intro a hs
                refine t_pure hs rfl rfl (by decide) (p_move rfl rfl) ?_
                clear hs a
                intro a hs
                rw [← hX3] at h
                exact ⟨(d5_4, m7_4, t84), hs.to ⟨rfl, rfl, rfl, rfl, rfl, trivial⟩, h⟩
            clear hK19
            refine wp_seq_k fun K22 hK22 => ?_
            refine wp_region_lit ?_
            refine t_pure hs rfl rfl (by decide) (p_fieldAddr0 rfl rfl ft_57_0) ?_
            clear hs a
            intro a hs
            obtain ⟨t53, hv, h⟩ := h
            refine t_eff hs rfl rfl (by decide) (e_load rfl rfl ct_3 hv) ?_
            clear hs a hv
            intro a hs
            obtain ⟨t54, he, h⟩ := h
            refine t_pure hs rfl rfl (by decide) (Pure.int he (p_and rfl rfl rfl)) ?_
            clear hs a he
            intro a hs
            refine t_pure hs rfl rfl (by decide) (p_eq rfl rfl rfl) ?_
            clear hs a
            intro a hs
            refine hK22 _ _ ?_
            refine c_cond hs rfl (fun hb => ?_) (fun hb => ?_)
            · replace h := h.1 hb
              clear hb
              refine wp_seq_k fun K23 hK23 => ?_
              refine wp_region_lit ?_
              refine t_pure hs rfl rfl (by decide) (p_move rfl rfl) ?_
              clear hs a
              intro a hs
              obtain ⟨t57, w1, ha, hw, h⟩ := h
              refine t_eff hs rfl rfl (by decide) (e_buildSlice (z := #[]) (cs := #[]) rfl sl_44 zt_3 (by decide) rfl rz_3_0 (by rfl) ha hw) ?_
              clear hs a ha hw
              intro a hs
              refine t_pure hs rfl rfl (by decide) (p_fieldAddr rfl rfl ft_57_5) ?_
              clear hs a
              intro a hs
              obtain ⟨t59, hv, h⟩ := h
              refine t_eff hs rfl rfl (by decide) (e_load rfl rfl ct_44 hv) ?_
              clear hs a hv
              intro a hs
              obtain ⟨t60, w1, hd, h⟩ := h
              refine t_eff hs rfl rfl (by decide) (e_append rfl rfl rfl rfl hd) ?_
              clear hs a hd
              intro a hs
              refine t_call hs rfl rfl (by decide) (e_call rfl rfl rfl cb_24) h ?_
              clear hs a h
              intro v a w hk hs
              obtain ⟨t61, rfl, h⟩ := hk
              refine t_pure hs rfl rfl (by decide) (p_assign rfl rfl) ?_
              clear hs a
              intro a hs
              refine hK23 _ _ ?_
              refine wp_seq_k fun K24 hK24 => ?_
              refine wp_seq_k fun K25 hK25 => ?_
              have J5 : ∀ (t69_5 : Bool) (a : Act) (w : World), Slots a 85 [(7, (.pointer m7_3)), (9, (.pointer (some o9))), (10, (.pointer t61)), (46, (Sl.val script1)), (47, (.int .i64 (script1.n : Int))), (48, (.int .i64 t48_3)), (69, (.bool t69_5))] → law03_DiskPlays.s5 Q X3 m7_3 o9 t61 script1 (script1.n : Int) t48_3 t69_5 w → K25 a w := by
                clear h hs
                intro t69_5 a w hs h
                refine hK25 _ _ ?_
                unfold law03_DiskPlays.s5 at h
                refine c_cond hs rfl (fun hb => ?_) (fun hb => ?_)
                · replace h := h.1 hb
                  clear hb
                  refine wp_seq_k fun K26 hK26 => ?_
                  refine wp_region_lit ?_
                  refine t_pure hs rfl rfl (by decide) (p_assign rfl rfl) ?_
                  clear hs a
                  intro a hs
                  refine hK26 _ _ ?_
                  refine wp_ret ?_
                  refine f_ret (fn := Try.f10) hs (fun a hs => r_one hs rfl (rfl)) ⟨false, rfl, h⟩
                · replace h := h.2 hb
                  clear hb
                  refine wp_skip ?_
                  refine hK24 _ _ ?_
                  refine wp_region_lit ?_
                  refine t_pure hs rfl rfl (by decide) (p_move rfl rfl) ?_
                  clear hs a
                  intro a hs
                  refine t_pure hs rfl rfl (by decide) (p_move rfl rfl) ?_
                  clear hs a
                  intro a hs
                  refine t_pure hs rfl rfl (by decide) (p_fieldAddr rfl rfl ft_57_5) ?_
                  clear hs a
                  intro a hs
                  obtain ⟨t73, hv, h⟩ := h
                  refine t_eff hs rfl rfl (by decide) (e_load rfl rfl ct_44 hv) ?_
                  clear hs a hv
                  intro a hs
                  refine t_call hs rfl rfl (by decide) (e_call rfl rfl rfl cb_35) h ?_
                  clear hs a h
                  intro v a w hk hs
                  obtain ⟨t74, rfl, h⟩ := hk
                  refine t_pure hs rfl rfl (by decide) (p_assign rfl rfl) ?_
                  clear hs a
                  intro a hs
                  refine t_pure hs rfl rfl (by decide) (p_assign rfl rfl) ?_
                  clear hs a
                  intro a hs
                  exact J4 t61 t74 _ _ (hs.to ⟨rfl, rfl, rfl, rfl, rfl, trivial⟩) h
              clear hK25
              refine wp_region_lit ?_
              refine t_pure hs rfl rfl (by decide) (p_move rfl rfl) ?_
              clear hs a
              intro a hs
              refine t_pure hs rfl rfl (by decide) (p_eq_nil rfl rfl rfl Try.underlying45) ?_
              clear hs a
              intro a hs
              refine t_pure hs rfl rfl (by decide) (p_move rfl rfl) ?_
              clear hs a
              intro a hs
              refine split_bool ((t61).isNone) (fun hb => ?_) (fun hb => ?_)
              · replace h := h.1 hb
                rw [hb] at hs
                clear hb
                refine t_no hs rfl rfl (by decide) ?_
                clear hs a
                intro a hs
                refine t_no hs rfl rfl (by decide) ?_
                clear hs a
                intro a hs
                refine t_no hs rfl rfl (by decide) ?_
                clear hs a
                intro a hs
                refine t_no hs rfl rfl (by decide) ?_
                clear hs a
                intro a hs
                refine t_pure hs rfl rfl (by decide) (p_pick_t rfl rfl rfl) ?_
                clear hs a
                intro a hs
                exact J5 true _ _ (hs.to ⟨rfl, rfl, rfl, rfl, rfl, rfl, rfl, trivial⟩) h
              · replace h := h.2 hb
                rw [hb] at hs
                clear hb
                refine t_yes hs rfl ?_
                refine t_pure hs rfl rfl (by decide) (p_move rfl rfl) ?_
                clear hs a
                intro a hs
                refine t_yes hs rfl ?_
                refine t_pure hs rfl rfl (by decide) (p_move rfl rfl) ?_
                clear hs a
                intro a hs
                refine t_yes hs rfl ?_
                refine t_call hs rfl rfl (by decide) (e_call rfl rfl rfl cb_34) h ?_
                clear hs a h
                intro v a w hk hs
                obtain ⟨t67, rfl, h⟩ := hk
                refine t_yes hs rfl ?_
                refine t_pure hs rfl rfl (by decide) (p_not rfl rfl) ?_
                clear hs a
                intro a hs
                refine t_pure hs rfl rfl (by decide) (p_pick_f rfl rfl rfl) ?_
                clear hs a
                intro a hs
                exact J5 (!t67) _ _ (hs.to ⟨rfl, rfl, rfl, rfl, rfl, rfl, rfl, trivial⟩) h
            · replace h := h.2 hb
              clear hb
              refine wp_seq_k fun K27 hK27 => ?_
              refine wp_region_lit ?_
              refine t_pure hs rfl rfl (by decide) (p_move rfl rfl) ?_
              clear hs a
              intro a hs
              refine t_pure hs rfl rfl (by decide) (p_move rfl rfl) ?_
              clear hs a
              intro a hs
              obtain ⟨t77, hn, hv, h⟩ := h
              refine t_eff hs rfl rfl (by decide) (e_loadN rfl rfl at_57 hn hv) ?_
              clear hs a hn hv
              intro a hs
              refine t_call hs rfl rfl (by decide) (e_call rfl rfl rfl cb_36) h ?_
              clear hs a h
              intro v a w hk hs
              obtain ⟨t78, rfl, h⟩ := hk
              refine t_pure hs rfl rfl (by decide) (p_not rfl rfl) ?_
              clear hs a
              intro a hs
              refine hK27 _ _ ?_
              refine c_cond hs rfl (fun hb => ?_) (fun hb => ?_)
              · replace h := h.1 hb
                clear hb
                refine wp_seq_k fun K28 hK28 => ?_
                refine wp_region_lit ?_
                refine t_pure hs rfl rfl (by decide) (p_assign rfl rfl) ?_
                clear hs a
                intro a hs
                refine hK28 _ _ ?_
                refine wp_ret ?_
                refine f_ret (fn := Try.f10) hs (fun a hs => r_one hs rfl (rfl)) ⟨false, rfl, h⟩
              · replace h := h.2 hb
                clear hb
                refine wp_skip ?_
                exact J4 d5_3 m7_3 _ _ (hs.to ⟨rfl, rfl, rfl, rfl, rfl, trivial⟩) h
          · replace h := h.2 hb
            clear hb
            refine wp_exit ?_
            refine hK13 _ _ ?_
            refine wp_seq_k fun K29 hK29 => ?_
            refine wp_region_lit ?_
            refine t_pure hs rfl rfl (by decide) (p_assign rfl rfl) ?_
            clear hs a
            intro a hs
            refine hK29 _ _ ?_
            refine wp_ret ?_
            refine f_ret (fn := Try.f10) hs (fun a hs => r_one hs rfl (rfl)) ⟨true, rfl, h⟩
      clear hK10
      refine wp_region_lit ?_
      refine t_pure hs rfl rfl (by decide) (p_move rfl rfl) ?_
      clear hs a
      intro a hs
      refine t_pure hs rfl rfl (by decide) (p_lt rfl rfl rfl) ?_
      clear hs a
      intro a hs
      refine t_pure hs rfl rfl (by decide) (p_move rfl rfl) ?_
      clear hs a
      intro a hs
      refine split_bool (decide (room0 < 1)) (fun hb => ?_) (fun hb => ?_)
      · replace h := h.1 hb
        rw [hb] at hs
        clear hb
        refine t_no hs rfl rfl (by decide) ?_
        clear hs a
        intro a hs
        refine t_no hs rfl rfl (by decide) ?_
        clear hs a
        intro a hs
        refine t_pure hs rfl rfl (by decide) (p_pick_t rfl rfl rfl) ?_
        clear hs a
        intro a hs
        refine t_pure hs rfl rfl (by decide) (p_move rfl rfl) ?_
        clear hs a
        intro a hs
        refine t_no hs rfl rfl (by decide) ?_
        clear hs a
        intro a hs
        replace hs := hs.to (τ := [(0, (.int .i64 room0)), (1, (Sl.val script1)), (5, (.pointer t17x0)), (6, (.int .i64 t17x1)), (26, (.bool true)), (27, undef)]) ⟨rfl, rfl, rfl, rfl, rfl, rfl, trivial⟩
        refine t_no hs rfl rfl (by decide) ?_
        clear hs a
        intro a hs
        refine t_pure hs rfl rfl (by decide) (p_pick_t rfl rfl rfl) ?_
        clear hs a
        intro a hs
        exact J1 true _ _ (hs.to ⟨rfl, rfl, rfl, rfl, rfl, trivial⟩) h
      · replace h := h.2 hb
        rw [hb] at hs
        clear hb
        refine t_yes hs rfl ?_
        refine t_pure hs rfl rfl (by decide) (p_move rfl rfl) ?_
        clear hs a
        intro a hs
        refine t_yes hs rfl ?_
        refine t_pure hs rfl rfl (by decide) (p_gt rfl rfl rfl) ?_
        clear hs a
        intro a hs
        refine t_pure hs rfl rfl (by decide) (p_pick_f rfl rfl rfl) ?_
        clear hs a
        intro a hs
        refine t_pure hs rfl rfl (by decide) (p_move rfl rfl) ?_
        clear hs a
        intro a hs
        refine split_bool (decide ((1048576 : Int) < room0)) (fun hb => ?_) (fun hb => ?_)
        · replace h := h.1 hb
          rw [hb] at hs
          clear hb
          refine t_no hs rfl rfl (by decide) ?_
          clear hs a
          intro a hs
          replace hs := hs.to (τ := [(0, (.int .i64 room0)), (1, (Sl.val script1)), (5, (.pointer t17x0)), (6, (.int .i64 t17x1)), (26, (.bool true)), (27, undef)]) ⟨rfl, rfl, rfl, rfl, rfl, rfl, trivial⟩
          refine t_no hs rfl rfl (by decide) ?_
          clear hs a
          intro a hs
          refine t_pure hs rfl rfl (by decide) (p_pick_t rfl rfl rfl) ?_
          clear hs a
          intro a hs
          exact J1 true _ _ (hs.to ⟨rfl, rfl, rfl, rfl, rfl, trivial⟩) h
        · replace h := h.2 hb
          rw [hb] at hs
          clear hb
          refine t_yes hs rfl ?_
          refine t_pure hs rfl rfl (by decide) (p_move rfl rfl) ?_
          clear hs a
          intro a hs
          replace hs := hs.to (τ := [(0, (.int .i64 room0)), (1, (Sl.val script1)), (5, (.pointer t17x0)), (6, (.int .i64 t17x1)), (26, (.bool false)), (27, (.pointer t17x0))]) ⟨rfl, rfl, rfl, rfl, rfl, rfl, trivial⟩
          refine t_yes hs rfl ?_
          refine t_pure hs rfl rfl (by decide) (p_eq_nil rfl rfl rfl Try.underlying45) ?_
          clear hs a
          intro a hs
          refine t_pure hs rfl rfl (by decide) (p_pick_f rfl rfl rfl) ?_
          clear hs a
          intro a hs
          exact J1 ((t17x0).isNone) _ _ (hs.to ⟨rfl, rfl, rfl, rfl, rfl, trivial⟩) h
def law03_speaks.b2 (Q : Bool → K)  (X2 : Int → K) (d1_2 : (Option Addr)) (want3_2 : Addr) (t29_2 : Int) : K :=
  Ite (decide (t29_2 < 4))
    (New 3 #[(.int .i64 t29_2)] fun t34 =>
    disk_Disk_Crash.call d1_2 (Sl.mk (some t34) 1 1) fun t35 =>
    Ite ((t35).isNone)
      (Q false)
      (disk_Disk_Read.call t35 ⟨#[97]⟩ fun t40x0 t40x1 =>
      Dr <|
      Rd Try.prog (convert 33 9 (Sl.val t40x0)) Value.string fun t44 =>
      IdxA want3_2 4 t29_2 1 fun t46 =>
      Ld t46 Value.string fun t47 =>
      Ite (!(t44.toList == t47.toList))
        (Q false)
        (Ar (IntKind.wrap .i64 (t29_2 + 1)) fun t49 =>
        X2 t49)))
    (Q true)
def law03_speaks.s1 (Q : Bool → K)  (d1_1 : (Option Addr)) (t17_1 : Bool) : K :=
  Ite t17_1
    (Q false)
    (New 5 #[(.int .u8 49), (.int .u8 50), (.int .u8 51)] fun t19 =>
    Do Try.prog (convert 33 33 (Sl.val (Sl.mk (some t19) 3 3))) Sl.val fun t20 =>
    disk_Disk_Append.call d1_1 ⟨#[97]⟩ t20 fun t21 =>
    disk_Disk_Sync.call d1_1 ⟨#[97]⟩ fun t23 =>
    New 5 #[(.int .u8 52), (.int .u8 53)] fun t25 =>
    Do Try.prog (convert 33 33 (Sl.val (Sl.mk (some t25) 2 2))) Sl.val fun t26 =>
    disk_Disk_Append.call d1_1 ⟨#[97]⟩ t26 fun t27 =>
    Pu Try.prog (Instr.build 100 [(0, (.string ⟨#[49, 50, 51]⟩)), (1, (.string ⟨#[49, 50, 51, 52]⟩)), (2, (.string ⟨#[49, 50, 51, 52, 53]⟩)), (3, (.string ⟨#[49, 50, 51]⟩))].toArray) Value.agg fun t28 =>
    New 100 #[(.string ⟨#[]⟩), (.string ⟨#[]⟩), (.string ⟨#[]⟩), (.string ⟨#[]⟩)] fun want3 =>
    StN want3 4 t28 <|
    LoopK (α := Int) (fun X x => law03_speaks.b2 Q X d1_1 want3 x) 0)
def law03_speaks  (Q : Bool → K) : K :=
  disk_New.call 100 fun t9x0 t9x1 =>
  Ite ((t9x0).isNone)
    (law03_speaks.s1 Q t9x0 true)
    (law03_speaks.s1 Q t9x0 (decide (t9x1 ≠ 0)))
theorem law03_speaks_ok  (Q : Bool → K) (w : World) (h : law03_speaks  Q w) : law03_speaks.call  Q w := by
  unfold law03_speaks.call CallF
  refine f_start (args := []) Try.func20 rfl (Nat.le_of_ble_eq_true rfl) ?_
  intro a hs
  unfold law03_speaks at h
  refine wp_seq_k fun K1 hK1 => ?_
  refine wp_region_lit ?_
  refine t_pure hs rfl rfl (by decide) (p_assign rfl rfl) ?_
  clear hs a
  intro a hs
  refine hK1 _ _ ?_
  refine wp_seq_k fun K2 hK2 => ?_
  refine wp_region_lit ?_
  refine t_call hs rfl rfl (by decide) (e_call rfl rfl rfl cb_21) h ?_
  clear hs a h
  intro v a w hk hs
  obtain ⟨t9x0, t9x1, rfl, h⟩ := hk
  refine t_pure hs rfl rfl (by decide) (p_move rfl rfl) ?_
  clear hs a
  intro a hs
  refine t_pure hs rfl rfl (by decide) (p_extract rfl rfl rfl) ?_
  clear hs a
  intro a hs
  refine t_pure hs rfl rfl (by decide) (p_extract rfl rfl rfl) ?_
  clear hs a
  intro a hs
  refine t_pure hs rfl rfl (by decide) (p_assign rfl rfl) ?_
  clear hs a
  intro a hs
  refine t_pure hs rfl rfl (by decide) (p_assign rfl rfl) ?_
  clear hs a
  intro a hs
  refine hK2 _ _ ?_
  refine wp_seq_k fun K3 hK3 => ?_
  refine wp_seq_k fun K4 hK4 => ?_
  have J1 : ∀ (t17_1 : Bool) (a : Act) (w : World), Slots a 50 [(1, (.pointer t9x0)), (17, (.bool t17_1))] → law03_speaks.s1 Q t9x0 t17_1 w → K4 a w := by
    clear h hs
    intro t17_1 a w hs h
    refine hK4 _ _ ?_
    unfold law03_speaks.s1 at h
    refine c_cond hs rfl (fun hb => ?_) (fun hb => ?_)
    · replace h := h.1 hb
      clear hb
      refine wp_seq_k fun K5 hK5 => ?_
      refine wp_region_lit ?_
      refine t_pure hs rfl rfl (by decide) (p_assign rfl rfl) ?_
      clear hs a
      intro a hs
      refine hK5 _ _ ?_
      refine wp_ret ?_
      refine f_ret (fn := Try.f20) hs (fun a hs => r_one hs rfl (rfl)) ⟨false, rfl, h⟩
    · replace h := h.2 hb
      clear hb
      refine wp_skip ?_
      refine hK3 _ _ ?_
      refine wp_seq_k fun K6 hK6 => ?_
      refine wp_region_lit ?_
      refine t_pure hs rfl rfl (by decide) (p_move rfl rfl) ?_
      clear hs a
      intro a hs
      obtain ⟨t19, w1, ha, hw, h⟩ := h
      refine t_eff hs rfl rfl (by decide) (e_buildSlice (z := #[(.int .u8 0), (.int .u8 0), (.int .u8 0)]) (cs := #[(.int .u8 49), (.int .u8 50), (.int .u8 51)]) rfl sl_33 zt_5 (by decide) rfl rz_5_3 (by rfl) ha hw) ?_
      clear hs a ha hw
      intro a hs
      obtain ⟨t20, w1, hd, h⟩ := h
      refine t_eff hs rfl rfl (by decide) (e_convert rfl rfl hd) ?_
      clear hs a hd
      intro a hs
      refine t_call hs rfl rfl (by decide) (e_call rfl rfl rfl cb_22) h ?_
      clear hs a h
      intro v a w hk hs
      obtain ⟨t21, rfl, h⟩ := hk
      refine hK6 _ _ ?_
      refine wp_seq_k fun K7 hK7 => ?_
      refine wp_region_lit ?_
      refine t_pure hs rfl rfl (by decide) (p_move rfl rfl) ?_
      clear hs a
      intro a hs
      refine t_call hs rfl rfl (by decide) (e_call rfl rfl rfl cb_23) h ?_
      clear hs a h
      intro v a w hk hs
      obtain ⟨t23, rfl, h⟩ := hk
      refine hK7 _ _ ?_
      refine wp_seq_k fun K8 hK8 => ?_
      refine wp_region_lit ?_
      refine t_pure hs rfl rfl (by decide) (p_move rfl rfl) ?_
      clear hs a
      intro a hs
      obtain ⟨t25, w1, ha, hw, h⟩ := h
      refine t_eff hs rfl rfl (by decide) (e_buildSlice (z := #[(.int .u8 0), (.int .u8 0)]) (cs := #[(.int .u8 52), (.int .u8 53)]) rfl sl_33 zt_5 (by decide) rfl rz_5_2 (by rfl) ha hw) ?_
      clear hs a ha hw
      intro a hs
      obtain ⟨t26, w1, hd, h⟩ := h
      refine t_eff hs rfl rfl (by decide) (e_convert rfl rfl hd) ?_
      clear hs a hd
      intro a hs
      refine t_call hs rfl rfl (by decide) (e_call rfl rfl rfl cb_22) h ?_
      clear hs a h
      intro v a w hk hs
      obtain ⟨t27, rfl, h⟩ := hk
      refine hK8 _ _ ?_
      refine wp_seq_k fun K9 hK9 => ?_
      refine wp_region_lit ?_
      obtain ⟨t28, hd, h⟩ := h
      refine t_pure hs rfl rfl (by decide) (p_sem (fun w => e_buildg rfl rfl (hd w))) ?_
      clear hs a hd
      intro a hs
      obtain ⟨want3, w1, ha, hw, h⟩ := h
      refine t_eff hs rfl rfl (by decide) (e_alloc rfl zt_100 rfl ha hw) ?_
      clear hs a ha hw
      intro a hs
      obtain ⟨w1, hw, hn, hc, hv, h⟩ := h
      refine t_skip hs rfl rfl (e_storeN rfl rfl rfl sz_100 hw hn hc hv) ?_
      clear hs a hw hn hc hv
      intro a hs
      refine hK9 _ _ ?_
      refine wp_seq_k fun K10 hK10 => ?_
      refine wp_seq_k fun K11 hK11 => ?_
      refine wp_region_lit ?_
      refine t_pure hs rfl rfl (by decide) (p_move rfl rfl) ?_
      clear hs a
      intro a hs
      refine hK11 _ _ ?_
      refine wp_block ?_
      obtain ⟨I2, μ2, h0, hr⟩ := h
      refine c_loop (α := Int) I2 μ2 (fun x a => Slots a 50 [(1, (.pointer t9x0)), (3, (.pointer (some want3))), (29, (.int .i64 x))]) 0 h0 (hs.to ⟨rfl, rfl, rfl, trivial⟩) ?_
      clear h0 hs a
      intro t29_2 a w hI hs
      have h : law03_speaks.b2 Q (fun t29_2n w' => I2 t29_2n w' ∧ μ2 t29_2n w' < μ2 t29_2 w) t9x0 want3 t29_2 w := hr t29_2 w hI
      clear hr hI
      generalize hX2 : (fun t29_2n w' => I2 t29_2n w' ∧ μ2 t29_2n w' < μ2 t29_2 w) = X2 at h
      unfold law03_speaks.b2 at h
      replace hs : Slots a 50 [(1, (.pointer t9x0)), (3, (.pointer (some want3))), (29, (.int .i64 t29_2))] := hs
      refine wp_seq_k fun K12 hK12 => ?_
      refine wp_region_lit ?_
      refine t_pure hs rfl rfl (by decide) (p_lt rfl rfl rfl) ?_
      clear hs a
      intro a hs
      refine hK12 _ _ ?_
      refine wp_seq_k fun K13 hK13 => ?_
      refine c_cond hs rfl (fun hb => ?_) (fun hb => ?_)
      · replace h := h.1 hb
        clear hb
        refine wp_skip ?_
        refine hK13 _ _ ?_
        refine wp_seq_k fun K14 hK14 => ?_
        refine wp_block ?_
        refine wp_seq_k fun K15 hK15 => ?_
        refine wp_region_lit ?_
        refine t_pure hs rfl rfl (by decide) (p_move rfl rfl) ?_
        clear hs a
        intro a hs
        refine t_pure hs rfl rfl (by decide) (p_assign rfl rfl) ?_
        clear hs a
        intro a hs
        refine hK15 _ _ ?_
        refine wp_seq_k fun K16 hK16 => ?_
        refine wp_region_lit ?_
        refine t_pure hs rfl rfl (by decide) (p_move rfl rfl) ?_
        clear hs a
        intro a hs
        refine t_pure hs rfl rfl (by decide) (p_move rfl rfl) ?_
        clear hs a
        intro a hs
        obtain ⟨t34, w1, ha, hw, h⟩ := h
        refine t_eff hs rfl rfl (by decide) (e_buildSlice (z := #[(.int .i64 0)]) (cs := #[(.int .i64 t29_2)]) rfl sl_44 zt_3 (by decide) rfl rz_3_1 (by rfl) ha hw) ?_
        clear hs a ha hw
        intro a hs
        refine t_call hs rfl rfl (by decide) (e_call rfl rfl rfl cb_24) h ?_
        clear hs a h
        intro v a w hk hs
        obtain ⟨t35, rfl, h⟩ := hk
        refine t_pure hs rfl rfl (by decide) (p_assign rfl rfl) ?_
        clear hs a
        intro a hs
        refine hK16 _ _ ?_
        refine wp_seq_k fun K17 hK17 => ?_
        refine wp_seq_k fun K18 hK18 => ?_
        refine wp_region_lit ?_
        refine t_pure hs rfl rfl (by decide) (p_move rfl rfl) ?_
        clear hs a
        intro a hs
        refine t_pure hs rfl rfl (by decide) (p_eq_nil rfl rfl rfl Try.underlying45) ?_
        clear hs a
        intro a hs
        refine hK18 _ _ ?_
        refine c_cond hs rfl (fun hb => ?_) (fun hb => ?_)
        · replace h := h.1 hb
          clear hb
          refine wp_seq_k fun K19 hK19 => ?_
          refine wp_region_lit ?_
          refine t_pure hs rfl rfl (by decide) (p_assign rfl rfl) ?_
          clear hs a
          intro a hs
          refine hK19 _ _ ?_
          refine wp_ret ?_
          refine f_ret (fn := Try.f20) hs (fun a hs => r_one hs rfl (rfl)) ⟨false, rfl, h⟩
        · replace h := h.2 hb
          clear hb
          refine wp_skip ?_
          refine hK17 _ _ ?_
          refine wp_seq_k fun K20 hK20 => ?_
          refine wp_region_lit ?_
          refine t_pure hs rfl rfl (by decide) (p_move rfl rfl) ?_
          clear hs a
          intro a hs
          refine t_call hs rfl rfl (by decide) (e_call rfl rfl rfl cb_25) h ?_
          clear hs a h
          intro v a w hk hs
          obtain ⟨t40x0, t40x1, rfl, h⟩ := hk
          refine t_pure hs rfl rfl (by decide) (p_move rfl rfl) ?_
          clear hs a
          intro a hs
          refine t_pure hs rfl rfl (by decide) (p_extract rfl rfl rfl) ?_
          clear hs a
          intro a hs
          refine t_pure hs rfl rfl (by decide) (p_extract rfl rfl rfl) ?_
          clear hs a
          intro a hs
          refine t_pure hs rfl rfl (by decide) (p_assign rfl rfl) ?_
          clear hs a
          intro a hs
          refine t_pure hs rfl rfl (by decide) (p_assign rfl rfl) ?_
          clear hs a
          intro a hs
          refine hK20 _ _ ?_
          refine wp_seq_k fun K21 hK21 => ?_
          obtain ⟨w1, hw1, h⟩ := h
          refine s_start mixed (by kernel_rfl) hw1 ?_
          clear hw1
          refine s_pure hs rfl rfl (by decide) (p_move rfl rfl) ?_
          clear hs a
          intro a hs
          obtain ⟨t44, hd, h⟩ := h
          refine s_eff hs rfl rfl (by decide) (e_convert rfl rfl hd) ?_
          clear hs a hd
          intro a hs
          refine s_pure hs rfl rfl (by decide) (p_move rfl rfl) ?_
          clear hs a
          intro a hs
          obtain ⟨t46, h0, h1, he, h⟩ := h
          refine s_pure hs rfl rfl (by decide) (Pure.adr he (p_idxA rfl rfl rfl ar_100 h0 h1)) ?_
          clear hs a h0 h1 he
          intro a hs
          obtain ⟨t47, hv, h⟩ := h
          refine s_eff hs rfl rfl (by decide) (e_load rfl rfl ct_9 hv) ?_
          clear hs a hv
          intro a hs
          refine s_pure hs rfl rfl (by decide) (p_nes rfl rfl rfl) ?_
          clear hs a
          intro a hs
          refine hK21 _ _ ?_
          refine c_cond hs rfl (fun hb => ?_) (fun hb => ?_)
          · replace h := h.1 hb
            clear hb
            refine wp_seq_k fun K22 hK22 => ?_
            refine wp_region_lit ?_
            refine t_pure hs rfl rfl (by decide) (p_assign rfl rfl) ?_
            clear hs a
            intro a hs
            refine hK22 _ _ ?_
            refine wp_ret ?_
            refine f_ret (fn := Try.f20) hs (fun a hs => r_one hs rfl (rfl)) ⟨false, rfl, h⟩
          · replace h := h.2 hb
            clear hb
            refine wp_skip ?_
            refine hK14 _ _ ?_
            refine wp_region_lit ?_
            obtain ⟨t49, he, h⟩ := h
            refine t_pure hs rfl rfl (by decide) (Pure.int he (p_add rfl rfl rfl)) ?_
            clear hs a he
            intro a hs
            refine t_pure hs rfl rfl (by decide) (p_move rfl rfl) ?_
            clear hs a
            intro a hs
            rw [← hX2] at h
            exact ⟨t49, hs.to ⟨rfl, rfl, rfl, trivial⟩, h⟩
      · replace h := h.2 hb
        clear hb
        refine wp_exit ?_
        refine hK10 _ _ ?_
        refine wp_seq_k fun K23 hK23 => ?_
        refine wp_region_lit ?_
        refine t_pure hs rfl rfl (by decide) (p_assign rfl rfl) ?_
        clear hs a
        intro a hs
        refine hK23 _ _ ?_
        refine wp_ret ?_
        refine f_ret (fn := Try.f20) hs (fun a hs => r_one hs rfl (rfl)) ⟨true, rfl, h⟩
  clear hK4
  refine wp_region_lit ?_
  refine t_pure hs rfl rfl (by decide) (p_move rfl rfl) ?_
  clear hs a
  intro a hs
  refine t_pure hs rfl rfl (by decide) (p_eq_nil rfl rfl rfl Try.underlying45) ?_
  clear hs a
  intro a hs
  refine t_pure hs rfl rfl (by decide) (p_move rfl rfl) ?_
  clear hs a
  intro a hs
  refine split_bool ((t9x0).isNone) (fun hb => ?_) (fun hb => ?_)
  · replace h := h.1 hb
    rw [hb] at hs
    clear hb
    refine t_no hs rfl rfl (by decide) ?_
    clear hs a
    intro a hs
    refine t_no hs rfl rfl (by decide) ?_
    clear hs a
    intro a hs
    refine t_pure hs rfl rfl (by decide) (p_pick_t rfl rfl rfl) ?_
    clear hs a
    intro a hs
    exact J1 true _ _ (hs.to ⟨rfl, rfl, trivial⟩) h
  · replace h := h.2 hb
    rw [hb] at hs
    clear hb
    refine t_yes hs rfl ?_
    refine t_pure hs rfl rfl (by decide) (p_move rfl rfl) ?_
    clear hs a
    intro a hs
    refine t_yes hs rfl ?_
    refine t_pure hs rfl rfl (by decide) (p_ne rfl rfl rfl) ?_
    clear hs a
    intro a hs
    refine t_pure hs rfl rfl (by decide) (p_pick_f rfl rfl rfl) ?_
    clear hs a
    intro a hs
    exact J1 (decide (t9x1 ≠ 0)) _ _ (hs.to ⟨rfl, rfl, trivial⟩) h
def law03_great.s2 (Q : Bool → K) (X1 : Int → K) (t8_2 : Sl) (t9_2 : Int) (t10_2 : Int) (t35_2 : Bool) : K :=
  Ite t35_2
    (Q true)
    (Ar (IntKind.wrap .i64 (t10_2 + 1)) fun t36 =>
    X1 t36)
def law03_great.b1 (Q : Bool → K)  (X1 : Int → K) (t8_1 : Sl) (t9_1 : Int) (t10_1 : Int) : K :=
  Ite (decide (t10_1 < t9_1))
    (Idx t8_1 t10_1 6 fun t12 =>
    LdN t12 6 fun t13 =>
    New 57 #[(.int .i64 0), (.int .i64 0), (.string ⟨#[]⟩), (.string ⟨#[]⟩), (Sl.val ⟨none, 0, 0⟩), (Sl.val ⟨none, 0, 0⟩)] fun o4 =>
    StN o4 6 t13 <|
    Ld (o4.add 4) Sl.val fun t15 =>
    Ite (decide ((2000 : Int) < (t15.n : Int)))
      (law03_great.s2 Q X1 t8_1 t9_1 t10_1 true)
      (Ld (o4.add 2) Value.string fun t20 =>
      Ite (decide ((200 : Int) < (t20.size : Int)))
        (law03_great.s2 Q X1 t8_1 t9_1 t10_1 true)
        (Ld (o4.add 3) Value.string fun t26 =>
        Ite (decide ((200 : Int) < (t26.size : Int)))
          (law03_great.s2 Q X1 t8_1 t9_1 t10_1 true)
          (Ld (o4.add 5) Sl.val fun t32 =>
          law03_great.s2 Q X1 t8_1 t9_1 t10_1 (decide ((100 : Int) < (t32.n : Int)))))))
    (Q false)
def law03_great (script0 : Sl) (Q : Bool → K) : K :=
  Ite (decide ((200 : Int) < (script0.n : Int)))
    (Q true)
    (LoopK (α := Int) (fun X x => law03_great.b1 Q X script0 (script0.n : Int) x) 0)
theorem law03_great_ok (script0 : Sl) (Q : Bool → K) (w : World) (h : law03_great script0 Q w) : law03_great.call script0 Q w := by
  unfold law03_great.call CallF
  refine f_start (args := [(Sl.val script0)]) Try.func26 rfl (Nat.le_of_ble_eq_true rfl) ?_
  intro a hs
  unfold law03_great at h
  refine wp_seq_k fun K1 hK1 => ?_
  refine wp_region_lit ?_
  refine t_pure hs rfl rfl (by decide) (p_assign rfl rfl) ?_
  clear hs a
  intro a hs
  refine hK1 _ _ ?_
  refine wp_seq_k fun K2 hK2 => ?_
  refine wp_seq_k fun K3 hK3 => ?_
  refine wp_region_lit ?_
  refine t_pure hs rfl rfl (by decide) (p_move rfl rfl) ?_
  clear hs a
  intro a hs
  refine t_pure hs rfl rfl (by decide) (p_len rfl rfl sl_54) ?_
  clear hs a
  intro a hs
  refine t_pure hs rfl rfl (by decide) (p_gt rfl rfl rfl) ?_
  clear hs a
  intro a hs
  refine hK3 _ _ ?_
  refine c_cond hs rfl (fun hb => ?_) (fun hb => ?_)
  · replace h := h.1 hb
    clear hb
    refine wp_seq_k fun K4 hK4 => ?_
    refine wp_region_lit ?_
    refine t_pure hs rfl rfl (by decide) (p_assign rfl rfl) ?_
    clear hs a
    intro a hs
    refine hK4 _ _ ?_
    refine wp_ret ?_
    refine f_ret (fn := Try.f26) hs (fun a hs => r_one hs rfl (rfl)) ⟨true, rfl, h⟩
  · replace h := h.2 hb
    clear hb
    refine wp_skip ?_
    refine hK2 _ _ ?_
    refine wp_seq_k fun K5 hK5 => ?_
    refine wp_seq_k fun K6 hK6 => ?_
    refine wp_region_lit ?_
    refine t_pure hs rfl rfl (by decide) (p_move rfl rfl) ?_
    clear hs a
    intro a hs
    refine t_pure hs rfl rfl (by decide) (p_len rfl rfl sl_54) ?_
    clear hs a
    intro a hs
    refine t_pure hs rfl rfl (by decide) (p_move rfl rfl) ?_
    clear hs a
    intro a hs
    refine hK6 _ _ ?_
    refine wp_block ?_
    obtain ⟨I1, μ1, h0, hr⟩ := h
    refine c_loop (α := Int) I1 μ1 (fun x a => Slots a 37 [(8, (Sl.val script0)), (9, (.int .i64 (script0.n : Int))), (10, (.int .i64 x))]) 0 h0 (hs.to ⟨rfl, rfl, rfl, trivial⟩) ?_
    clear h0 hs a
    intro t10_1 a w hI hs
    have h : law03_great.b1 Q (fun t10_1n w' => I1 t10_1n w' ∧ μ1 t10_1n w' < μ1 t10_1 w) script0 (script0.n : Int) t10_1 w := hr t10_1 w hI
    clear hr hI
    generalize hX1 : (fun t10_1n w' => I1 t10_1n w' ∧ μ1 t10_1n w' < μ1 t10_1 w) = X1 at h
    unfold law03_great.b1 at h
    replace hs : Slots a 37 [(8, (Sl.val script0)), (9, (.int .i64 (script0.n : Int))), (10, (.int .i64 t10_1))] := hs
    refine wp_seq_k fun K7 hK7 => ?_
    refine wp_region_lit ?_
    refine t_pure hs rfl rfl (by decide) (p_lt rfl rfl rfl) ?_
    clear hs a
    intro a hs
    refine hK7 _ _ ?_
    refine wp_seq_k fun K8 hK8 => ?_
    refine c_cond hs rfl (fun hb => ?_) (fun hb => ?_)
    · replace h := h.1 hb
      clear hb
      refine wp_skip ?_
      refine hK8 _ _ ?_
      refine wp_seq_k fun K9 hK9 => ?_
      refine wp_block ?_
      refine wp_seq_k fun K10 hK10 => ?_
      refine wp_region_lit ?_
      obtain ⟨qt12, t12, ha, h0, h1, he, h⟩ := h
      refine t_pure hs rfl rfl (by decide) (Pure.adr he (p_idx rfl rfl rfl sl_54 ha h0 h1)) ?_
      clear hs a ha h0 h1 he
      intro a hs
      obtain ⟨t13, hn, hv, h⟩ := h
      refine t_eff hs rfl rfl (by decide) (e_loadN rfl rfl at_57 hn hv) ?_
      clear hs a hn hv
      intro a hs
      obtain ⟨o4, w1, ha, hw, h⟩ := h
      refine t_eff hs rfl rfl (by decide) (e_alloc rfl zt_57 rfl ha hw) ?_
      clear hs a ha hw
      intro a hs
      obtain ⟨w1, hw, hn, hc, hv, h⟩ := h
      refine t_skip hs rfl rfl (e_storeN rfl rfl rfl sz_57 hw hn hc hv) ?_
      clear hs a hw hn hc hv
      intro a hs
      refine hK10 _ _ ?_
      refine wp_seq_k fun K11 hK11 => ?_
      have J2 : ∀ (t35_2 : Bool) (a : Act) (w : World), Slots a 37 [(8, (Sl.val script0)), (9, (.int .i64 (script0.n : Int))), (10, (.int .i64 t10_1)), (35, (.bool t35_2))] → law03_great.s2 Q X1 script0 (script0.n : Int) t10_1 t35_2 w → K11 a w := by
        clear h hs
        intro t35_2 a w hs h
        refine hK11 _ _ ?_
        unfold law03_great.s2 at h
        refine c_cond hs rfl (fun hb => ?_) (fun hb => ?_)
        · replace h := h.1 hb
          clear hb
          refine wp_seq_k fun K12 hK12 => ?_
          refine wp_region_lit ?_
          refine t_pure hs rfl rfl (by decide) (p_assign rfl rfl) ?_
          clear hs a
          intro a hs
          refine hK12 _ _ ?_
          refine wp_ret ?_
          refine f_ret (fn := Try.f26) hs (fun a hs => r_one hs rfl (rfl)) ⟨true, rfl, h⟩
        · replace h := h.2 hb
          clear hb
          refine wp_skip ?_
          refine hK9 _ _ ?_
          refine wp_region_lit ?_
          obtain ⟨t36, he, h⟩ := h
          refine t_pure hs rfl rfl (by decide) (Pure.int he (p_add rfl rfl rfl)) ?_
          clear hs a he
          intro a hs
          refine t_pure hs rfl rfl (by decide) (p_move rfl rfl) ?_
          clear hs a
          intro a hs
          rw [← hX1] at h
          exact ⟨t36, hs.to ⟨rfl, rfl, rfl, trivial⟩, h⟩
      clear hK11
      refine wp_region_lit ?_
      refine t_pure hs rfl rfl (by decide) (p_fieldAddr rfl rfl ft_57_4) ?_
      clear hs a
      intro a hs
      obtain ⟨t15, hv, h⟩ := h
      refine t_eff hs rfl rfl (by decide) (e_load rfl rfl ct_33 hv) ?_
      clear hs a hv
      intro a hs
      refine t_pure hs rfl rfl (by decide) (p_len rfl rfl sl_33) ?_
      clear hs a
      intro a hs
      refine t_pure hs rfl rfl (by decide) (p_gt rfl rfl rfl) ?_
      clear hs a
      intro a hs
      refine t_pure hs rfl rfl (by decide) (p_move rfl rfl) ?_
      clear hs a
      intro a hs
      refine split_bool (decide ((2000 : Int) < (t15.n : Int))) (fun hb => ?_) (fun hb => ?_)
      · replace h := h.1 hb
        rw [hb] at hs
        clear hb
        refine t_no hs rfl rfl (by decide) ?_
        clear hs a
        intro a hs
        refine t_no hs rfl rfl (by decide) ?_
        clear hs a
        intro a hs
        refine t_no hs rfl rfl (by decide) ?_
        clear hs a
        intro a hs
        replace hs := hs.to (τ := [(4, (.pointer (some o4))), (8, (Sl.val script0)), (9, (.int .i64 (script0.n : Int))), (10, (.int .i64 t10_1)), (18, (.bool true)), (21, undef)]) ⟨rfl, rfl, rfl, rfl, rfl, rfl, trivial⟩
        refine t_no hs rfl rfl (by decide) ?_
        clear hs a
        intro a hs
        refine t_pure hs rfl rfl (by decide) (p_pick_t rfl rfl rfl) ?_
        clear hs a
        intro a hs
        refine t_pure hs rfl rfl (by decide) (p_move rfl rfl) ?_
        clear hs a
        intro a hs
        refine t_no hs rfl rfl (by decide) ?_
        clear hs a
        intro a hs
        refine t_no hs rfl rfl (by decide) ?_
        clear hs a
        intro a hs
        refine t_no hs rfl rfl (by decide) ?_
        clear hs a
        intro a hs
        refine t_no hs rfl rfl (by decide) ?_
        clear hs a
        intro a hs
        refine t_pure hs rfl rfl (by decide) (p_pick_t rfl rfl rfl) ?_
        clear hs a
        intro a hs
        replace hs := hs.to (τ := [(4, (.pointer (some o4))), (8, (Sl.val script0)), (9, (.int .i64 (script0.n : Int))), (10, (.int .i64 t10_1)), (29, (.bool true))]) ⟨rfl, rfl, rfl, rfl, rfl, trivial⟩
        refine t_pure hs rfl rfl (by decide) (p_move rfl rfl) ?_
        clear hs a
        intro a hs
        refine t_no hs rfl rfl (by decide) ?_
        clear hs a
        intro a hs
        refine t_no hs rfl rfl (by decide) ?_
        clear hs a
        intro a hs
        refine t_no hs rfl rfl (by decide) ?_
        clear hs a
        intro a hs
        refine t_no hs rfl rfl (by decide) ?_
        clear hs a
        intro a hs
        refine t_pure hs rfl rfl (by decide) (p_pick_t rfl rfl rfl) ?_
        clear hs a
        intro a hs
        exact J2 true _ _ (hs.to ⟨rfl, rfl, rfl, rfl, trivial⟩) h
      · replace h := h.2 hb
        rw [hb] at hs
        clear hb
        refine t_yes hs rfl ?_
        refine t_pure hs rfl rfl (by decide) (p_fieldAddr rfl rfl ft_57_2) ?_
        clear hs a
        intro a hs
        refine t_yes hs rfl ?_
        obtain ⟨t20, hv, h⟩ := h
        refine t_eff hs rfl rfl (by decide) (e_load rfl rfl ct_9 hv) ?_
        clear hs a hv
        intro a hs
        refine t_yes hs rfl ?_
        refine t_pure hs rfl rfl (by decide) (p_lens rfl rfl st_9) ?_
        clear hs a
        intro a hs
        replace hs := hs.to (τ := [(4, (.pointer (some o4))), (8, (Sl.val script0)), (9, (.int .i64 (script0.n : Int))), (10, (.int .i64 t10_1)), (18, (.bool false)), (21, (.int .i64 (t20.size : Int)))]) ⟨rfl, rfl, rfl, rfl, rfl, rfl, trivial⟩
        refine t_yes hs rfl ?_
        refine t_pure hs rfl rfl (by decide) (p_gt rfl rfl rfl) ?_
        clear hs a
        intro a hs
        refine t_pure hs rfl rfl (by decide) (p_pick_f rfl rfl rfl) ?_
        clear hs a
        intro a hs
        refine t_pure hs rfl rfl (by decide) (p_move rfl rfl) ?_
        clear hs a
        intro a hs
        refine split_bool (decide ((200 : Int) < (t20.size : Int))) (fun hb => ?_) (fun hb => ?_)
        · replace h := h.1 hb
          rw [hb] at hs
          clear hb
          refine t_no hs rfl rfl (by decide) ?_
          clear hs a
          intro a hs
          refine t_no hs rfl rfl (by decide) ?_
          clear hs a
          intro a hs
          refine t_no hs rfl rfl (by decide) ?_
          clear hs a
          intro a hs
          refine t_no hs rfl rfl (by decide) ?_
          clear hs a
          intro a hs
          refine t_pure hs rfl rfl (by decide) (p_pick_t rfl rfl rfl) ?_
          clear hs a
          intro a hs
          replace hs := hs.to (τ := [(4, (.pointer (some o4))), (8, (Sl.val script0)), (9, (.int .i64 (script0.n : Int))), (10, (.int .i64 t10_1)), (29, (.bool true))]) ⟨rfl, rfl, rfl, rfl, rfl, trivial⟩
          refine t_pure hs rfl rfl (by decide) (p_move rfl rfl) ?_
          clear hs a
          intro a hs
          refine t_no hs rfl rfl (by decide) ?_
          clear hs a
          intro a hs
          refine t_no hs rfl rfl (by decide) ?_
          clear hs a
          intro a hs
          refine t_no hs rfl rfl (by decide) ?_
          clear hs a
          intro a hs
          refine t_no hs rfl rfl (by decide) ?_
          clear hs a
          intro a hs
          refine t_pure hs rfl rfl (by decide) (p_pick_t rfl rfl rfl) ?_
          clear hs a
          intro a hs
          exact J2 true _ _ (hs.to ⟨rfl, rfl, rfl, rfl, trivial⟩) h
        · replace h := h.2 hb
          rw [hb] at hs
          clear hb
          refine t_yes hs rfl ?_
          refine t_pure hs rfl rfl (by decide) (p_fieldAddr rfl rfl ft_57_3) ?_
          clear hs a
          intro a hs
          refine t_yes hs rfl ?_
          obtain ⟨t26, hv, h⟩ := h
          refine t_eff hs rfl rfl (by decide) (e_load rfl rfl ct_9 hv) ?_
          clear hs a hv
          intro a hs
          refine t_yes hs rfl ?_
          refine t_pure hs rfl rfl (by decide) (p_lens rfl rfl st_9) ?_
          clear hs a
          intro a hs
          refine t_yes hs rfl ?_
          refine t_pure hs rfl rfl (by decide) (p_gt rfl rfl rfl) ?_
          clear hs a
          intro a hs
          refine t_pure hs rfl rfl (by decide) (p_pick_f rfl rfl rfl) ?_
          clear hs a
          intro a hs
          replace hs := hs.to (τ := [(4, (.pointer (some o4))), (8, (Sl.val script0)), (9, (.int .i64 (script0.n : Int))), (10, (.int .i64 t10_1)), (29, (.bool (decide ((200 : Int) < (t26.size : Int)))))]) ⟨rfl, rfl, rfl, rfl, rfl, trivial⟩
          refine t_pure hs rfl rfl (by decide) (p_move rfl rfl) ?_
          clear hs a
          intro a hs
          refine split_bool (decide ((200 : Int) < (t26.size : Int))) (fun hb => ?_) (fun hb => ?_)
          · replace h := h.1 hb
            rw [hb] at hs
            clear hb
            refine t_no hs rfl rfl (by decide) ?_
            clear hs a
            intro a hs
            refine t_no hs rfl rfl (by decide) ?_
            clear hs a
            intro a hs
            refine t_no hs rfl rfl (by decide) ?_
            clear hs a
            intro a hs
            refine t_no hs rfl rfl (by decide) ?_
            clear hs a
            intro a hs
            refine t_pure hs rfl rfl (by decide) (p_pick_t rfl rfl rfl) ?_
            clear hs a
            intro a hs
            exact J2 true _ _ (hs.to ⟨rfl, rfl, rfl, rfl, trivial⟩) h
          · replace h := h.2 hb
            rw [hb] at hs
            clear hb
            refine t_yes hs rfl ?_
            refine t_pure hs rfl rfl (by decide) (p_fieldAddr rfl rfl ft_57_5) ?_
            clear hs a
            intro a hs
            refine t_yes hs rfl ?_
            obtain ⟨t32, hv, h⟩ := h
            refine t_eff hs rfl rfl (by decide) (e_load rfl rfl ct_44 hv) ?_
            clear hs a hv
            intro a hs
            refine t_yes hs rfl ?_
            refine t_pure hs rfl rfl (by decide) (p_len rfl rfl sl_44) ?_
            clear hs a
            intro a hs
            refine t_yes hs rfl ?_
            refine t_pure hs rfl rfl (by decide) (p_gt rfl rfl rfl) ?_
            clear hs a
            intro a hs
            refine t_pure hs rfl rfl (by decide) (p_pick_f rfl rfl rfl) ?_
            clear hs a
            intro a hs
            exact J2 (decide ((100 : Int) < (t32.n : Int))) _ _ (hs.to ⟨rfl, rfl, rfl, rfl, trivial⟩) h
    · replace h := h.2 hb
      clear hb
      refine wp_exit ?_
      refine hK5 _ _ ?_
      refine wp_seq_k fun K13 hK13 => ?_
      refine wp_region_lit ?_
      refine t_pure hs rfl rfl (by decide) (p_assign rfl rfl) ?_
      clear hs a
      intro a hs
      refine hK13 _ _ ?_
      refine wp_ret ?_
      refine f_ret (fn := Try.f26) hs (fun a hs => r_one hs rfl (rfl)) ⟨false, rfl, h⟩
def law03_renames.s5 (Q : Bool → K)  (t8_5 : Bool) : K :=
  Q t8_5
def law03_renames.s4 (Q : Bool → K)  (old0_4 : Sl) (next1_4 : Sl) (b13_4 : Sl) (t71_4 : Bool) : K :=
  Ite t71_4
    (Q false)
    (Rd Try.prog (convert 33 9 (Sl.val b13_4)) Value.string fun t73 =>
    Rd Try.prog (convert 33 9 (Sl.val next1_4)) Value.string fun t75 =>
    Ite (t73.toList == t75.toList)
      (law03_renames.s5 Q true)
      (Rd Try.prog (convert 33 9 (Sl.val b13_4)) Value.string fun t79 =>
      Rd Try.prog (convert 33 9 (Sl.val old0_4)) Value.string fun t81 =>
      law03_renames.s5 Q (t79.toList == t81.toList)))
def law03_renames.s3 (Q : Bool → K)  (old0_3 : Sl) (next1_3 : Sl) (keeps3_3 : Sl) (d9_3 : (Option Addr)) (e11_3 : Int) : K :=
  disk_Disk_Crash.call d9_3 keeps3_3 fun t51 =>
  Ite ((t51).isNone)
    (Q false)
    (disk_Disk_Read.call t51 ⟨#[120]⟩ fun t56x0 t56x1 =>
    Ite (decide (t56x1 ≠ 0))
      (law03_renames.s4 Q old0_3 next1_3 t56x0 true)
      (Ite (decide (e11_3 = 0))
        (Rd Try.prog (convert 33 9 (Sl.val t56x0)) Value.string fun t66 =>
        Rd Try.prog (convert 33 9 (Sl.val next1_3)) Value.string fun t68 =>
        law03_renames.s4 Q old0_3 next1_3 t56x0 (!(t66.toList == t68.toList)))
        (law03_renames.s4 Q old0_3 next1_3 t56x0 false)))
def law03_renames.s2 (Q : Bool → K)  (old0_2 : Sl) (next1_2 : Sl) (keeps3_2 : Sl) (d9_2 : (Option Addr)) (e11_2 : Int) : K :=
  Ite (decide (e11_2 = 0))
    (disk_Disk_Rename.call d9_2 ⟨#[121]⟩ ⟨#[120]⟩ fun t48 =>
    law03_renames.s3 Q old0_2 next1_2 keeps3_2 d9_2 t48)
    (law03_renames.s3 Q old0_2 next1_2 keeps3_2 d9_2 e11_2)
def law03_renames.s1 (Q : Bool → K)  (old0_1 : Sl) (next1_1 : Sl) (calls2_1 : Int) (keeps3_1 : Sl) (t22_1 : Bool) : K :=
  Ite t22_1
    (Q true)
    (disk_New.call 1048576 fun t24x0 t24x1 =>
    Ite ((t24x0).isNone)
      (Q false)
      (disk_Disk_Append.call t24x0 ⟨#[120]⟩ old0_1 fun t31 =>
      disk_Disk_Sync.call t24x0 ⟨#[120]⟩ fun t33 =>
      Ar (bitsOf .and .i64 calls2_1 7) fun t36 =>
      disk_Disk_Limit.call t24x0 t36 <|
      disk_Disk_Append.call t24x0 ⟨#[121]⟩ next1_1 fun t40 =>
      Ite (decide (t40 = 0))
        (disk_Disk_Sync.call t24x0 ⟨#[121]⟩ fun t44 =>
        law03_renames.s2 Q old0_1 next1_1 keeps3_1 t24x0 t44)
        (law03_renames.s2 Q old0_1 next1_1 keeps3_1 t24x0 t40)))
def law03_renames (old0 : Sl) (next1 : Sl) (calls2 : Int) (keeps3 : Sl) (Q : Bool → K) : K :=
  Ite (decide ((2000 : Int) < (old0.n : Int)))
    (law03_renames.s1 Q old0 next1 calls2 keeps3 true)
    (law03_renames.s1 Q old0 next1 calls2 keeps3 (decide ((2000 : Int) < (next1.n : Int))))
theorem law03_renames_ok (old0 : Sl) (next1 : Sl) (calls2 : Int) (keeps3 : Sl) (Q : Bool → K) (w : World) (h : law03_renames old0 next1 calls2 keeps3 Q w) : law03_renames.call old0 next1 calls2 keeps3 Q w := by
  unfold law03_renames.call CallF
  refine f_start (args := [(Sl.val old0), (Sl.val next1), (.int .i64 calls2), (Sl.val keeps3)]) Try.func29 rfl (Nat.le_of_ble_eq_true rfl) ?_
  intro a hs
  unfold law03_renames at h
  refine wp_seq_k fun K1 hK1 => ?_
  refine wp_region_lit ?_
  refine t_pure hs rfl rfl (by decide) (p_assign rfl rfl) ?_
  clear hs a
  intro a hs
  refine hK1 _ _ ?_
  refine wp_seq_k fun K2 hK2 => ?_
  refine wp_seq_k fun K3 hK3 => ?_
  have J1 : ∀ (t22_1 : Bool) (a : Act) (w : World), Slots a 84 [(0, (Sl.val old0)), (1, (Sl.val next1)), (2, (.int .i64 calls2)), (3, (Sl.val keeps3)), (22, (.bool t22_1))] → law03_renames.s1 Q old0 next1 calls2 keeps3 t22_1 w → K3 a w := by
    clear h hs
    intro t22_1 a w hs h
    refine hK3 _ _ ?_
    unfold law03_renames.s1 at h
    refine c_cond hs rfl (fun hb => ?_) (fun hb => ?_)
    · replace h := h.1 hb
      clear hb
      refine wp_seq_k fun K4 hK4 => ?_
      refine wp_region_lit ?_
      refine t_pure hs rfl rfl (by decide) (p_assign rfl rfl) ?_
      clear hs a
      intro a hs
      refine hK4 _ _ ?_
      refine wp_ret ?_
      refine f_ret (fn := Try.f29) hs (fun a hs => r_one hs rfl (rfl)) ⟨true, rfl, h⟩
    · replace h := h.2 hb
      clear hb
      refine wp_skip ?_
      refine hK2 _ _ ?_
      refine wp_seq_k fun K5 hK5 => ?_
      refine wp_region_lit ?_
      refine t_call hs rfl rfl (by decide) (e_call rfl rfl rfl cb_21) h ?_
      clear hs a h
      intro v a w hk hs
      obtain ⟨t24x0, t24x1, rfl, h⟩ := hk
      refine t_pure hs rfl rfl (by decide) (p_move rfl rfl) ?_
      clear hs a
      intro a hs
      refine t_pure hs rfl rfl (by decide) (p_extract rfl rfl rfl) ?_
      clear hs a
      intro a hs
      refine t_pure hs rfl rfl (by decide) (p_extract rfl rfl rfl) ?_
      clear hs a
      intro a hs
      refine t_pure hs rfl rfl (by decide) (p_assign rfl rfl) ?_
      clear hs a
      intro a hs
      refine t_pure hs rfl rfl (by decide) (p_assign rfl rfl) ?_
      clear hs a
      intro a hs
      refine hK5 _ _ ?_
      refine wp_seq_k fun K6 hK6 => ?_
      refine wp_seq_k fun K7 hK7 => ?_
      refine wp_region_lit ?_
      refine t_pure hs rfl rfl (by decide) (p_move rfl rfl) ?_
      clear hs a
      intro a hs
      refine t_pure hs rfl rfl (by decide) (p_eq_nil rfl rfl rfl Try.underlying45) ?_
      clear hs a
      intro a hs
      refine hK7 _ _ ?_
      refine c_cond hs rfl (fun hb => ?_) (fun hb => ?_)
      · replace h := h.1 hb
        clear hb
        refine wp_seq_k fun K8 hK8 => ?_
        refine wp_region_lit ?_
        refine t_pure hs rfl rfl (by decide) (p_assign rfl rfl) ?_
        clear hs a
        intro a hs
        refine hK8 _ _ ?_
        refine wp_ret ?_
        refine f_ret (fn := Try.f29) hs (fun a hs => r_one hs rfl (rfl)) ⟨false, rfl, h⟩
      · replace h := h.2 hb
        clear hb
        refine wp_skip ?_
        refine hK6 _ _ ?_
        refine wp_seq_k fun K9 hK9 => ?_
        refine wp_region_lit ?_
        refine t_pure hs rfl rfl (by decide) (p_move rfl rfl) ?_
        clear hs a
        intro a hs
        refine t_pure hs rfl rfl (by decide) (p_move rfl rfl) ?_
        clear hs a
        intro a hs
        refine t_call hs rfl rfl (by decide) (e_call rfl rfl rfl cb_22) h ?_
        clear hs a h
        intro v a w hk hs
        obtain ⟨t31, rfl, h⟩ := hk
        refine hK9 _ _ ?_
        refine wp_seq_k fun K10 hK10 => ?_
        refine wp_region_lit ?_
        refine t_pure hs rfl rfl (by decide) (p_move rfl rfl) ?_
        clear hs a
        intro a hs
        refine t_call hs rfl rfl (by decide) (e_call rfl rfl rfl cb_23) h ?_
        clear hs a h
        intro v a w hk hs
        obtain ⟨t33, rfl, h⟩ := hk
        refine hK10 _ _ ?_
        refine wp_seq_k fun K11 hK11 => ?_
        refine wp_region_lit ?_
        refine t_pure hs rfl rfl (by decide) (p_move rfl rfl) ?_
        clear hs a
        intro a hs
        refine t_pure hs rfl rfl (by decide) (p_move rfl rfl) ?_
        clear hs a
        intro a hs
        obtain ⟨t36, he, h⟩ := h
        refine t_pure hs rfl rfl (by decide) (Pure.int he (p_and rfl rfl rfl)) ?_
        clear hs a he
        intro a hs
        refine t_call hs rfl rfl (by decide) (e_call rfl rfl rfl cb_30) h ?_
        clear hs a h
        intro v a w hk hs
        obtain ⟨rfl, h⟩ := hk
        refine hK11 _ _ ?_
        refine wp_seq_k fun K12 hK12 => ?_
        refine wp_region_lit ?_
        refine t_pure hs rfl rfl (by decide) (p_move rfl rfl) ?_
        clear hs a
        intro a hs
        refine t_pure hs rfl rfl (by decide) (p_move rfl rfl) ?_
        clear hs a
        intro a hs
        refine t_call hs rfl rfl (by decide) (e_call rfl rfl rfl cb_22) h ?_
        clear hs a h
        intro v a w hk hs
        obtain ⟨t40, rfl, h⟩ := hk
        refine t_pure hs rfl rfl (by decide) (p_assign rfl rfl) ?_
        clear hs a
        intro a hs
        refine hK12 _ _ ?_
        refine wp_seq_k fun K13 hK13 => ?_
        have J2 : ∀ (e11_2 : Int) (a : Act) (w : World), Slots a 84 [(0, (Sl.val old0)), (1, (Sl.val next1)), (3, (Sl.val keeps3)), (9, (.pointer t24x0)), (11, (.int .i64 e11_2))] → law03_renames.s2 Q old0 next1 keeps3 t24x0 e11_2 w → K13 a w := by
          clear h hs
          intro e11_2 a w hs h
          refine hK13 _ _ ?_
          unfold law03_renames.s2 at h
          refine wp_seq_k fun K14 hK14 => ?_
          have J3 : ∀ (e11_3 : Int) (a : Act) (w : World), Slots a 84 [(0, (Sl.val old0)), (1, (Sl.val next1)), (3, (Sl.val keeps3)), (9, (.pointer t24x0)), (11, (.int .i64 e11_3))] → law03_renames.s3 Q old0 next1 keeps3 t24x0 e11_3 w → K14 a w := by
            clear h hs
            intro e11_3 a w hs h
            refine hK14 _ _ ?_
            unfold law03_renames.s3 at h
            refine wp_seq_k fun K15 hK15 => ?_
            refine wp_region_lit ?_
            refine t_pure hs rfl rfl (by decide) (p_move rfl rfl) ?_
            clear hs a
            intro a hs
            refine t_pure hs rfl rfl (by decide) (p_move rfl rfl) ?_
            clear hs a
            intro a hs
            refine t_call hs rfl rfl (by decide) (e_call rfl rfl rfl cb_24) h ?_
            clear hs a h
            intro v a w hk hs
            obtain ⟨t51, rfl, h⟩ := hk
            refine t_pure hs rfl rfl (by decide) (p_assign rfl rfl) ?_
            clear hs a
            intro a hs
            refine hK15 _ _ ?_
            refine wp_seq_k fun K16 hK16 => ?_
            refine wp_seq_k fun K17 hK17 => ?_
            refine wp_region_lit ?_
            refine t_pure hs rfl rfl (by decide) (p_move rfl rfl) ?_
            clear hs a
            intro a hs
            refine t_pure hs rfl rfl (by decide) (p_eq_nil rfl rfl rfl Try.underlying45) ?_
            clear hs a
            intro a hs
            refine hK17 _ _ ?_
            refine c_cond hs rfl (fun hb => ?_) (fun hb => ?_)
            · replace h := h.1 hb
              clear hb
              refine wp_seq_k fun K18 hK18 => ?_
              refine wp_region_lit ?_
              refine t_pure hs rfl rfl (by decide) (p_assign rfl rfl) ?_
              clear hs a
              intro a hs
              refine hK18 _ _ ?_
              refine wp_ret ?_
              refine f_ret (fn := Try.f29) hs (fun a hs => r_one hs rfl (rfl)) ⟨false, rfl, h⟩
            · replace h := h.2 hb
              clear hb
              refine wp_skip ?_
              refine hK16 _ _ ?_
              refine wp_seq_k fun K19 hK19 => ?_
              refine wp_region_lit ?_
              refine t_pure hs rfl rfl (by decide) (p_move rfl rfl) ?_
              clear hs a
              intro a hs
              refine t_call hs rfl rfl (by decide) (e_call rfl rfl rfl cb_25) h ?_
              clear hs a h
              intro v a w hk hs
              obtain ⟨t56x0, t56x1, rfl, h⟩ := hk
              refine t_pure hs rfl rfl (by decide) (p_move rfl rfl) ?_
              clear hs a
              intro a hs
              refine t_pure hs rfl rfl (by decide) (p_extract rfl rfl rfl) ?_
              clear hs a
              intro a hs
              refine t_pure hs rfl rfl (by decide) (p_extract rfl rfl rfl) ?_
              clear hs a
              intro a hs
              refine t_pure hs rfl rfl (by decide) (p_assign rfl rfl) ?_
              clear hs a
              intro a hs
              refine t_pure hs rfl rfl (by decide) (p_assign rfl rfl) ?_
              clear hs a
              intro a hs
              refine hK19 _ _ ?_
              refine wp_seq_k fun K20 hK20 => ?_
              refine wp_seq_k fun K21 hK21 => ?_
              have J4 : ∀ (t71_4 : Bool) (a : Act) (w : World), Slots a 84 [(0, (Sl.val old0)), (1, (Sl.val next1)), (13, (Sl.val t56x0)), (71, (.bool t71_4))] → law03_renames.s4 Q old0 next1 t56x0 t71_4 w → K21 a w := by
                clear h hs
                intro t71_4 a w hs h
                refine hK21 _ _ ?_
                unfold law03_renames.s4 at h
                refine c_cond hs rfl (fun hb => ?_) (fun hb => ?_)
                · replace h := h.1 hb
                  clear hb
                  refine wp_seq_k fun K22 hK22 => ?_
                  refine wp_region_lit ?_
                  refine t_pure hs rfl rfl (by decide) (p_assign rfl rfl) ?_
                  clear hs a
                  intro a hs
                  refine hK22 _ _ ?_
                  refine wp_ret ?_
                  refine f_ret (fn := Try.f29) hs (fun a hs => r_one hs rfl (rfl)) ⟨false, rfl, h⟩
                · replace h := h.2 hb
                  clear hb
                  refine wp_skip ?_
                  refine hK20 _ _ ?_
                  refine wp_seq_k fun K23 hK23 => ?_
                  have J5 : ∀ (t8_5 : Bool) (a : Act) (w : World), Slots a 84 [(8, (.bool t8_5))] → law03_renames.s5 Q t8_5 w → K23 a w := by
                    clear h hs
                    intro t8_5 a w hs h
                    refine hK23 _ _ ?_
                    unfold law03_renames.s5 at h
                    refine wp_ret ?_
                    refine f_ret (fn := Try.f29) hs (fun a hs => r_one hs rfl (rfl)) ⟨t8_5, rfl, h⟩
                  clear hK23
                  refine wp_region_lit ?_
                  refine t_pure hs rfl rfl (by decide) (p_move rfl rfl) ?_
                  clear hs a
                  intro a hs
                  obtain ⟨t73, hd, h⟩ := h
                  refine t_eff hs rfl rfl (by decide) (e_convert rfl rfl hd) ?_
                  clear hs a hd
                  intro a hs
                  refine t_pure hs rfl rfl (by decide) (p_move rfl rfl) ?_
                  clear hs a
                  intro a hs
                  obtain ⟨t75, hd, h⟩ := h
                  refine t_eff hs rfl rfl (by decide) (e_convert rfl rfl hd) ?_
                  clear hs a hd
                  intro a hs
                  refine t_pure hs rfl rfl (by decide) (p_eqs rfl rfl rfl) ?_
                  clear hs a
                  intro a hs
                  refine t_pure hs rfl rfl (by decide) (p_move rfl rfl) ?_
                  clear hs a
                  intro a hs
                  refine split_bool (t73.toList == t75.toList) (fun hb => ?_) (fun hb => ?_)
                  · replace h := h.1 hb
                    rw [hb] at hs
                    clear hb
                    refine t_no hs rfl rfl (by decide) ?_
                    clear hs a
                    intro a hs
                    refine t_no hs rfl rfl (by decide) ?_
                    clear hs a
                    intro a hs
                    replace hs := hs.to (τ := [(0, (Sl.val old0)), (77, (.bool true)), (79, undef)]) ⟨rfl, rfl, rfl, trivial⟩
                    refine t_no hs rfl rfl (by decide) ?_
                    clear hs a
                    intro a hs
                    refine t_no hs rfl rfl (by decide) ?_
                    clear hs a
                    intro a hs
                    refine t_no hs rfl rfl (by decide) ?_
                    clear hs a
                    intro a hs
                    refine t_pure hs rfl rfl (by decide) (p_pick_t rfl rfl rfl) ?_
                    clear hs a
                    intro a hs
                    refine t_pure hs rfl rfl (by decide) (p_assign rfl rfl) ?_
                    clear hs a
                    intro a hs
                    exact J5 true _ _ (hs.to ⟨rfl, trivial⟩) h
                  · replace h := h.2 hb
                    rw [hb] at hs
                    clear hb
                    refine t_yes hs rfl ?_
                    refine t_pure hs rfl rfl (by decide) (p_move rfl rfl) ?_
                    clear hs a
                    intro a hs
                    refine t_yes hs rfl ?_
                    obtain ⟨t79, hd, h⟩ := h
                    refine t_eff hs rfl rfl (by decide) (e_convert rfl rfl hd) ?_
                    clear hs a hd
                    intro a hs
                    replace hs := hs.to (τ := [(0, (Sl.val old0)), (77, (.bool false)), (79, (.string t79))]) ⟨rfl, rfl, rfl, trivial⟩
                    refine t_yes hs rfl ?_
                    refine t_pure hs rfl rfl (by decide) (p_move rfl rfl) ?_
                    clear hs a
                    intro a hs
                    refine t_yes hs rfl ?_
                    obtain ⟨t81, hd, h⟩ := h
                    refine t_eff hs rfl rfl (by decide) (e_convert rfl rfl hd) ?_
                    clear hs a hd
                    intro a hs
                    refine t_yes hs rfl ?_
                    refine t_pure hs rfl rfl (by decide) (p_eqs rfl rfl rfl) ?_
                    clear hs a
                    intro a hs
                    refine t_pure hs rfl rfl (by decide) (p_pick_f rfl rfl rfl) ?_
                    clear hs a
                    intro a hs
                    refine t_pure hs rfl rfl (by decide) (p_assign rfl rfl) ?_
                    clear hs a
                    intro a hs
                    exact J5 (t79.toList == t81.toList) _ _ (hs.to ⟨rfl, trivial⟩) h
              clear hK21
              refine wp_region_lit ?_
              refine t_pure hs rfl rfl (by decide) (p_move rfl rfl) ?_
              clear hs a
              intro a hs
              refine t_pure hs rfl rfl (by decide) (p_ne rfl rfl rfl) ?_
              clear hs a
              intro a hs
              refine t_pure hs rfl rfl (by decide) (p_move rfl rfl) ?_
              clear hs a
              intro a hs
              refine split_bool (decide (t56x1 ≠ 0)) (fun hb => ?_) (fun hb => ?_)
              · replace h := h.1 hb
                rw [hb] at hs
                clear hb
                refine t_no hs rfl rfl (by decide) ?_
                clear hs a
                intro a hs
                refine t_no hs rfl rfl (by decide) ?_
                clear hs a
                intro a hs
                refine t_no hs rfl rfl (by decide) ?_
                clear hs a
                intro a hs
                refine t_no hs rfl rfl (by decide) ?_
                clear hs a
                intro a hs
                refine t_no hs rfl rfl (by decide) ?_
                clear hs a
                intro a hs
                replace hs := hs.to (τ := [(0, (Sl.val old0)), (1, (Sl.val next1)), (13, (Sl.val t56x0)), (61, (.bool true)), (64, undef), (66, undef)]) ⟨rfl, rfl, rfl, rfl, rfl, rfl, trivial⟩
                refine t_no hs rfl rfl (by decide) ?_
                clear hs a
                intro a hs
                refine t_no hs rfl rfl (by decide) ?_
                clear hs a
                intro a hs
                refine t_no hs rfl rfl (by decide) ?_
                clear hs a
                intro a hs
                refine t_no hs rfl rfl (by decide) ?_
                clear hs a
                intro a hs
                refine t_pure hs rfl rfl (by decide) (p_pick_t rfl rfl rfl) ?_
                clear hs a
                intro a hs
                exact J4 true _ _ (hs.to ⟨rfl, rfl, rfl, rfl, trivial⟩) h
              · replace h := h.2 hb
                rw [hb] at hs
                clear hb
                refine t_yes hs rfl ?_
                refine t_pure hs rfl rfl (by decide) (p_move rfl rfl) ?_
                clear hs a
                intro a hs
                refine t_yes hs rfl ?_
                refine t_pure hs rfl rfl (by decide) (p_eq rfl rfl rfl) ?_
                clear hs a
                intro a hs
                refine t_yes hs rfl ?_
                refine t_pure hs rfl rfl (by decide) (p_move rfl rfl) ?_
                clear hs a
                intro a hs
                refine split_bool (decide (e11_3 = 0)) (fun hb => ?_) (fun hb => ?_)
                · replace h := h.1 hb
                  rw [hb] at hs
                  clear hb
                  refine t_yes hs rfl ?_
                  refine t_pure hs rfl rfl (by decide) (p_move rfl rfl) ?_
                  clear hs a
                  intro a hs
                  refine t_yes hs rfl ?_
                  obtain ⟨t66, hd, h⟩ := h
                  refine t_eff hs rfl rfl (by decide) (e_convert rfl rfl hd) ?_
                  clear hs a hd
                  intro a hs
                  replace hs := hs.to (τ := [(0, (Sl.val old0)), (1, (Sl.val next1)), (13, (Sl.val t56x0)), (61, (.bool false)), (64, (.bool true)), (66, (.string t66))]) ⟨rfl, rfl, rfl, rfl, rfl, rfl, trivial⟩
                  refine t_yes hs rfl ?_
                  refine t_pure hs rfl rfl (by decide) (p_move rfl rfl) ?_
                  clear hs a
                  intro a hs
                  refine t_yes hs rfl ?_
                  obtain ⟨t68, hd, h⟩ := h
                  refine t_eff hs rfl rfl (by decide) (e_convert rfl rfl hd) ?_
                  clear hs a hd
                  intro a hs
                  refine t_yes hs rfl ?_
                  refine t_pure hs rfl rfl (by decide) (p_nes rfl rfl rfl) ?_
                  clear hs a
                  intro a hs
                  refine t_yes hs rfl ?_
                  refine t_pure hs rfl rfl (by decide) (p_pick_t rfl rfl rfl) ?_
                  clear hs a
                  intro a hs
                  refine t_pure hs rfl rfl (by decide) (p_pick_f rfl rfl rfl) ?_
                  clear hs a
                  intro a hs
                  exact J4 (!(t66.toList == t68.toList)) _ _ (hs.to ⟨rfl, rfl, rfl, rfl, trivial⟩) h
                · replace h := h.2 hb
                  rw [hb] at hs
                  clear hb
                  refine t_no hs rfl rfl (by decide) ?_
                  clear hs a
                  intro a hs
                  refine t_no hs rfl rfl (by decide) ?_
                  clear hs a
                  intro a hs
                  replace hs := hs.to (τ := [(0, (Sl.val old0)), (1, (Sl.val next1)), (13, (Sl.val t56x0)), (61, (.bool false)), (64, (.bool false)), (66, undef)]) ⟨rfl, rfl, rfl, rfl, rfl, rfl, trivial⟩
                  refine t_no hs rfl rfl (by decide) ?_
                  clear hs a
                  intro a hs
                  refine t_no hs rfl rfl (by decide) ?_
                  clear hs a
                  intro a hs
                  refine t_no hs rfl rfl (by decide) ?_
                  clear hs a
                  intro a hs
                  refine t_yes hs rfl ?_
                  refine t_pure hs rfl rfl (by decide) (p_pick_f rfl rfl rfl) ?_
                  clear hs a
                  intro a hs
                  refine t_pure hs rfl rfl (by decide) (p_pick_f rfl rfl rfl) ?_
                  clear hs a
                  intro a hs
                  exact J4 false _ _ (hs.to ⟨rfl, rfl, rfl, rfl, trivial⟩) h
          clear hK14
          refine wp_seq_k fun K24 hK24 => ?_
          refine wp_region_lit ?_
          refine t_pure hs rfl rfl (by decide) (p_move rfl rfl) ?_
          clear hs a
          intro a hs
          refine t_pure hs rfl rfl (by decide) (p_eq rfl rfl rfl) ?_
          clear hs a
          intro a hs
          refine hK24 _ _ ?_
          refine c_cond hs rfl (fun hb => ?_) (fun hb => ?_)
          · replace h := h.1 hb
            clear hb
            refine wp_region_lit ?_
            refine t_pure hs rfl rfl (by decide) (p_move rfl rfl) ?_
            clear hs a
            intro a hs
            refine t_call hs rfl rfl (by decide) (e_call rfl rfl rfl cb_31) h ?_
            clear hs a h
            intro v a w hk hs
            obtain ⟨t48, rfl, h⟩ := hk
            refine t_pure hs rfl rfl (by decide) (p_assign rfl rfl) ?_
            clear hs a
            intro a hs
            exact J3 t48 _ _ (hs.to ⟨rfl, rfl, rfl, rfl, rfl, trivial⟩) h
          · replace h := h.2 hb
            clear hb
            refine wp_skip ?_
            exact J3 e11_2 _ _ (hs.to ⟨rfl, rfl, rfl, rfl, rfl, trivial⟩) h
        clear hK13
        refine wp_seq_k fun K25 hK25 => ?_
        refine wp_region_lit ?_
        refine t_pure hs rfl rfl (by decide) (p_move rfl rfl) ?_
        clear hs a
        intro a hs
        refine t_pure hs rfl rfl (by decide) (p_eq rfl rfl rfl) ?_
        clear hs a
        intro a hs
        refine hK25 _ _ ?_
        refine c_cond hs rfl (fun hb => ?_) (fun hb => ?_)
        · replace h := h.1 hb
          clear hb
          refine wp_region_lit ?_
          refine t_pure hs rfl rfl (by decide) (p_move rfl rfl) ?_
          clear hs a
          intro a hs
          refine t_call hs rfl rfl (by decide) (e_call rfl rfl rfl cb_23) h ?_
          clear hs a h
          intro v a w hk hs
          obtain ⟨t44, rfl, h⟩ := hk
          refine t_pure hs rfl rfl (by decide) (p_assign rfl rfl) ?_
          clear hs a
          intro a hs
          exact J2 t44 _ _ (hs.to ⟨rfl, rfl, rfl, rfl, rfl, trivial⟩) h
        · replace h := h.2 hb
          clear hb
          refine wp_skip ?_
          exact J2 t40 _ _ (hs.to ⟨rfl, rfl, rfl, rfl, rfl, trivial⟩) h
  clear hK3
  refine wp_region_lit ?_
  refine t_pure hs rfl rfl (by decide) (p_move rfl rfl) ?_
  clear hs a
  intro a hs
  refine t_pure hs rfl rfl (by decide) (p_len rfl rfl sl_33) ?_
  clear hs a
  intro a hs
  refine t_pure hs rfl rfl (by decide) (p_gt rfl rfl rfl) ?_
  clear hs a
  intro a hs
  refine t_pure hs rfl rfl (by decide) (p_move rfl rfl) ?_
  clear hs a
  intro a hs
  refine split_bool (decide ((2000 : Int) < (old0.n : Int))) (fun hb => ?_) (fun hb => ?_)
  · replace h := h.1 hb
    rw [hb] at hs
    clear hb
    refine t_no hs rfl rfl (by decide) ?_
    clear hs a
    intro a hs
    refine t_no hs rfl rfl (by decide) ?_
    clear hs a
    intro a hs
    refine t_no hs rfl rfl (by decide) ?_
    clear hs a
    intro a hs
    refine t_pure hs rfl rfl (by decide) (p_pick_t rfl rfl rfl) ?_
    clear hs a
    intro a hs
    exact J1 true _ _ (hs.to ⟨rfl, rfl, rfl, rfl, rfl, trivial⟩) h
  · replace h := h.2 hb
    rw [hb] at hs
    clear hb
    refine t_yes hs rfl ?_
    refine t_pure hs rfl rfl (by decide) (p_move rfl rfl) ?_
    clear hs a
    intro a hs
    refine t_yes hs rfl ?_
    refine t_pure hs rfl rfl (by decide) (p_len rfl rfl sl_33) ?_
    clear hs a
    intro a hs
    refine t_yes hs rfl ?_
    refine t_pure hs rfl rfl (by decide) (p_gt rfl rfl rfl) ?_
    clear hs a
    intro a hs
    refine t_pure hs rfl rfl (by decide) (p_pick_f rfl rfl rfl) ?_
    clear hs a
    intro a hs
    exact J1 (decide ((2000 : Int) < (next1.n : Int))) _ _ (hs.to ⟨rfl, rfl, rfl, rfl, rfl, trivial⟩) h
end Go.Proofs.Ytgnkminakongkaa
