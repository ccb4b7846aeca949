/- Plain forms of functions, and that their code comes to them (package law08_SnapPlays). -/
import Derived.Test.YtgnkminakongkaaCalls
namespace Go.Proofs.Ytgnkminakongkaa
open Go Go.Sep
set_option linter.unusedVariables false
set_option linter.unusedSimpArgs false
set_option maxRecDepth 100000
set_option maxHeartbeats 4000000
def law08_SnapPlays.b4 (Q : Bool → K) (X1 : (Option Addr) → (Option Addr) → Int → K) (X4 : Int → K) (d5_4 : (Option Addr)) (m7_4 : (Option Addr)) (names14_4 : Sl) (t33_4 : Sl) (t34_4 : Int) (t35_4 : Int) (t116_4 : Int) (t117_4 : Int) : K :=
  Ite (decide (t117_4 < t116_4))
    (Dr <|
    Idx names14_4 t117_4 1 fun t122 =>
    Ld t122 Value.string fun t123 =>
    Nn m7_4 fun t125 =>
    Ld (t125.add 1) Sl.val fun t127 =>
    Idx t127 t117_4 3 fun t129 =>
    Ld t129 Value.string fun t131 =>
    Ite (!(t123.toList == t131.toList))
      (Q false)
      (Ar (IntKind.wrap .i64 (t117_4 + 1)) fun t133 =>
      X4 t133))
    (Ar (IntKind.wrap .i64 (t35_4 + 1)) fun t134 =>
    X1 d5_4 m7_4 t134)
def law08_SnapPlays.s3 (Q : Bool → K) (X1 : (Option Addr) → (Option Addr) → Int → K) (d5_3 : (Option Addr)) (m7_3 : (Option Addr)) (names14_3 : Sl) (t33_3 : Sl) (t34_3 : Int) (t35_3 : Int) (t114_3 : Bool) : K :=
  Ite t114_3
    (Q false)
    (LoopK (α := Int) (fun X x => law08_SnapPlays.b4 Q X1 X d5_3 m7_3 names14_3 t33_3 t34_3 t35_3 (names14_3.n : Int) x) 0)
def law08_SnapPlays.s2 (Q : Bool → K) (X1 : (Option Addr) → (Option Addr) → Int → K) (d5_2 : (Option Addr)) (m7_2 : (Option Addr)) (o9_2 : Addr) (t33_2 : Sl) (t34_2 : Int) (t35_2 : Int) : K :=
  Ld (o9_2.add 2) Value.string fun t82 =>
  snap_Load.call d5_2 t82 fun t83x0 t83x1 =>
  Ld (o9_2.add 2) Value.string fun t89 =>
  ref08_Load.call m7_2 t89 fun t90x0 t90x1 =>
  disk_Disk_Names.call d5_2 fun t94 =>
  Ite (decide (t83x1 ≠ t90x1))
    (law08_SnapPlays.s3 Q X1 d5_2 m7_2 t94 t33_2 t34_2 t35_2 true)
    (Rd Try.prog (convert 33 9 (Sl.val t83x0)) Value.string fun t100 =>
    Rd Try.prog (convert 33 9 (Sl.val t90x0)) Value.string fun t102 =>
    Ite (!(t100.toList == t102.toList))
      (law08_SnapPlays.s3 Q X1 d5_2 m7_2 t94 t33_2 t34_2 t35_2 true)
      (Nn m7_2 fun t109 =>
      Ld (t109.add 1) Sl.val fun t111 =>
      law08_SnapPlays.s3 Q X1 d5_2 (some t109) t94 t33_2 t34_2 t35_2 (decide ((t94.n : Int) ≠ (t111.n : Int)))))
def law08_SnapPlays.b1 (Q : Bool → K)  (X1 : (Option Addr) → (Option Addr) → Int → K) (t33_1 : Sl) (t34_1 : Int) (d5_1 : (Option Addr)) (m7_1 : (Option Addr)) (t35_1 : Int) : K :=
  Ite (decide (t35_1 < t34_1))
    (Idx t33_1 t35_1 5 fun t37 =>
    LdN t37 5 fun t38 =>
    New 81 #[(.int .i64 0), (.int .i64 0), (.string ⟨#[]⟩), (Sl.val ⟨none, 0, 0⟩), (Sl.val ⟨none, 0, 0⟩)] fun o9 =>
    StN o9 5 t38 <|
    Ld o9 (Value.int .i64) fun t40 =>
    Ar (bitsOf .and .i64 t40 3) fun t41 =>
    Ite (decide (t41 = 0))
      (Dr <| WithS fun S =>
      LdS S (o9.add 4) Sl.val fun t61 =>
      LdS S (o9.add 4) Sl.val fun t65 =>
      disk_Disk_Crash.call d5_1 t61 fun t62 =>
      Sv S <|
      ref03_Disk_Crash.call m7_1 t65 fun t66 =>
      Ite ((t62).isNone)
        (Q false)
        (law08_SnapPlays.s2 Q X1 t62 t66 o9 t33_1 t34_1 t35_1))
      (Ite (decide (t41 = 1))
        (Ld (o9.add 1) (Value.int .i64) fun t73 =>
        disk_Disk_Limit.call d5_1 t73 <|
        Ld (o9.add 1) (Value.int .i64) fun t77 =>
        ref03_Disk_Limit.call m7_1 t77 <|
        law08_SnapPlays.s2 Q X1 d5_1 m7_1 o9 t33_1 t34_1 t35_1)
        (Dr <| WithS fun S =>
        LdS S (o9.add 2) Value.string fun t44 =>
        LdS S (o9.add 3) Sl.val fun t47 =>
        LdS S (o9.add 2) Value.string fun t52 =>
        LdS S (o9.add 3) Sl.val fun t54 =>
        New 5 #[] fun t45 =>
        Sv S <|
        Do Try.prog (Builtin.append_ #[33, 33] 33 #[(Sl.val (Sl.mk (some t45) 0 0)), (Sl.val t47)]) Sl.val fun t48 =>
        Sv S <|
        snap_Save.call d5_1 t44 t48 fun t49 =>
        Sv S <|
        ref08_Save.call m7_1 t52 t54 fun t55 =>
        Ite (decide (t49 ≠ t55))
          (Q false)
          (law08_SnapPlays.s2 Q X1 d5_1 m7_1 o9 t33_1 t34_1 t35_1))))
    (Q true)
def law08_SnapPlays (room0 : Int) (script1 : Sl) (Q : Bool → K) : K :=
  law08_speaks.call  fun t16 =>
  Ite (!t16)
    (Q false)
    (law08_great.call script1 fun t19 =>
    Ite t19
      (Q true)
      (Ar (bitsOf .and .i64 room0 65535) fun t22 =>
      Ar (IntKind.wrap .i64 (1 + t22)) fun t23 =>
      disk_New.call t23 fun t24x0 t24x1 =>
      Ar (bitsOf .and .i64 room0 65535) fun t28 =>
      Ar (IntKind.wrap .i64 (1 + t28)) fun t29 =>
      ref03_New.call t29 fun t30 =>
      Ite ((t24x0).isNone)
        (Q false)
        (LoopK (α := (Option Addr) × (Option Addr) × Int) (fun X x => law08_SnapPlays.b1 Q (fun d5_1 m7_1 t35_1 => X (d5_1, m7_1, t35_1)) script1 (script1.n : Int) x.1 x.2.1 x.2.2) (t24x0, t30, 0))))
theorem law08_SnapPlays_ok (room0 : Int) (script1 : Sl) (Q : Bool → K) (w : World) (h : law08_SnapPlays room0 script1 Q w) : law08_SnapPlays.call room0 script1 Q w := by
  unfold law08_SnapPlays.call CallF
  refine f_start (args := [(.int .i64 room0), (Sl.val script1)]) Try.func12 rfl (Nat.le_of_ble_eq_true rfl) ?_
  intro a hs
  unfold law08_SnapPlays at h
  refine wp_seq_k fun K1 hK1 => ?_
  refine wp_region_lit ?_
  refine t_pure hs rfl rfl (by decide) (p_assign rfl rfl) ?_
  clear hs a; intro a hs
  refine hK1 _ _ ?_
  refine wp_seq_k fun K2 hK2 => ?_
  refine wp_seq_k fun K3 hK3 => ?_
  refine wp_region_lit ?_
  refine t_call hs rfl rfl (by decide) (e_call rfl rfl rfl cb_37) h ?_
  clear hs a h
  intro v a w hk hs
  obtain ⟨t16, rfl, h⟩ := hk
  refine t_pure hs rfl rfl (by decide) (p_not rfl rfl) ?_
  clear hs a; intro a hs
  refine hK3 _ _ ?_
  refine c_cond hs rfl (fun hb => ?_) (fun hb => ?_)
  · replace h := h.1 hb
    clear hb
    refine wp_seq_k fun K4 hK4 => ?_
    refine wp_region_lit ?_
    refine t_pure hs rfl rfl (by decide) (p_assign rfl rfl) ?_
    clear hs a; intro a hs
    refine hK4 _ _ ?_
    refine wp_ret ?_
    refine f_ret (fn := Try.f12) hs (fun a hs => r_one hs rfl (rfl)) ⟨false, rfl, h⟩
  · replace h := h.2 hb
    clear hb
    refine wp_skip ?_
    refine hK2 _ _ ?_
    refine wp_seq_k fun K5 hK5 => ?_
    refine wp_seq_k fun K6 hK6 => ?_
    refine wp_region_lit ?_
    refine t_pure hs rfl rfl (by decide) (p_move rfl rfl) ?_
    clear hs a; intro a hs
    refine t_call hs rfl rfl (by decide) (e_call rfl rfl rfl cb_40) h ?_
    clear hs a h
    intro v a w hk hs
    obtain ⟨t19, rfl, h⟩ := hk
    refine hK6 _ _ ?_
    refine c_cond hs rfl (fun hb => ?_) (fun hb => ?_)
    · replace h := h.1 hb
      clear hb
      refine wp_seq_k fun K7 hK7 => ?_
      refine wp_region_lit ?_
      refine t_pure hs rfl rfl (by decide) (p_assign rfl rfl) ?_
      clear hs a; intro a hs
      refine hK7 _ _ ?_
      refine wp_ret ?_
      refine f_ret (fn := Try.f12) hs (fun a hs => r_one hs rfl (rfl)) ⟨true, rfl, h⟩
    · replace h := h.2 hb
      clear hb
      refine wp_skip ?_
      refine hK5 _ _ ?_
      refine wp_seq_k fun K8 hK8 => ?_
      refine wp_region_lit ?_
      refine t_pure hs rfl rfl (by decide) (p_move rfl rfl) ?_
      clear hs a; intro a hs
      obtain ⟨t22, he, h⟩ := h
      refine t_pure hs rfl rfl (by decide) (Pure.int he (p_and rfl rfl rfl)) ?_
      clear hs a he; intro a hs
      obtain ⟨t23, he, h⟩ := h
      refine t_pure hs rfl rfl (by decide) (Pure.int he (p_add rfl rfl rfl)) ?_
      clear hs a he; intro a hs
      refine t_call hs rfl rfl (by decide) (e_call rfl rfl rfl cb_21) h ?_
      clear hs a h
      intro v a w hk hs
      obtain ⟨t24x0, t24x1, rfl, h⟩ := hk
      refine t_pure hs rfl rfl (by decide) (p_move rfl rfl) ?_
      clear hs a; intro a hs
      refine t_pure hs rfl rfl (by decide) (p_extract rfl rfl rfl) ?_
      clear hs a; intro a hs
      refine t_pure hs rfl rfl (by decide) (p_extract rfl rfl rfl) ?_
      clear hs a; intro a hs
      refine t_pure hs rfl rfl (by decide) (p_assign rfl rfl) ?_
      clear hs a; intro a hs
      replace hs := hs.to (τ := [(0, (.int .i64 room0)), (1, (Sl.val script1)), (5, (.pointer t24x0)), (26, (.int .i64 t24x1))]) ⟨rfl, rfl, rfl, rfl, trivial⟩
      refine t_pure hs rfl rfl (by decide) (p_assign rfl rfl) ?_
      clear hs a; intro a hs
      refine hK8 _ _ ?_
      refine wp_seq_k fun K9 hK9 => ?_
      refine wp_region_lit ?_
      refine t_pure hs rfl rfl (by decide) (p_move rfl rfl) ?_
      clear hs a; intro a hs
      obtain ⟨t28, he, h⟩ := h
      refine t_pure hs rfl rfl (by decide) (Pure.int he (p_and rfl rfl rfl)) ?_
      clear hs a he; intro a hs
      obtain ⟨t29, he, h⟩ := h
      refine t_pure hs rfl rfl (by decide) (Pure.int he (p_add rfl rfl rfl)) ?_
      clear hs a he; intro a hs
      refine t_call hs rfl rfl (by decide) (e_call rfl rfl rfl cb_33) h ?_
      clear hs a h
      intro v a w hk hs
      obtain ⟨t30, rfl, h⟩ := hk
      refine t_pure hs rfl rfl (by decide) (p_assign rfl rfl) ?_
      clear hs a; intro a hs
      refine hK9 _ _ ?_
      refine wp_seq_k fun K10 hK10 => ?_
      refine wp_seq_k fun K11 hK11 => ?_
      refine wp_region_lit ?_
      refine t_pure hs rfl rfl (by decide) (p_move rfl rfl) ?_
      clear hs a; intro a hs
      refine t_pure hs rfl rfl (by decide) (p_eq_nil rfl rfl rfl Try.underlying45) ?_
      clear hs a; intro a hs
      refine hK11 _ _ ?_
      refine c_cond hs rfl (fun hb => ?_) (fun hb => ?_)
      · replace h := h.1 hb
        clear hb
        refine wp_seq_k fun K12 hK12 => ?_
        refine wp_region_lit ?_
        refine t_pure hs rfl rfl (by decide) (p_assign rfl rfl) ?_
        clear hs a; intro a hs
        refine hK12 _ _ ?_
        refine wp_ret ?_
        refine f_ret (fn := Try.f12) hs (fun a hs => r_one hs rfl (rfl)) ⟨false, rfl, h⟩
      · replace h := h.2 hb
        clear hb
        refine wp_skip ?_
        refine hK10 _ _ ?_
        refine wp_seq_k fun K13 hK13 => ?_
        refine wp_seq_k fun K14 hK14 => ?_
        refine wp_region_lit ?_
        refine t_pure hs rfl rfl (by decide) (p_move rfl rfl) ?_
        clear hs a; intro a hs
        refine t_pure hs rfl rfl (by decide) (p_len rfl rfl sl_78) ?_
        clear hs a; intro a hs
        refine t_pure hs rfl rfl (by decide) (p_move rfl rfl) ?_
        clear hs a; intro a hs
        refine hK14 _ _ ?_
        refine wp_block ?_
        obtain ⟨I1, μ1, h0, hr⟩ := h
        refine c_loop (α := (Option Addr) × (Option Addr) × Int) I1 μ1 (fun x a => Slots a 135 [(5, (.pointer x.1)), (7, (.pointer x.2.1)), (33, (Sl.val script1)), (34, (.int .i64 (script1.n : Int))), (35, (.int .i64 x.2.2))]) (t24x0, t30, 0) h0 (hs.to ⟨rfl, rfl, rfl, rfl, rfl, trivial⟩) ?_
        clear h0 hs a
        rintro ⟨d5_1, m7_1, t35_1⟩ a w hI hs
        have h : law08_SnapPlays.b1 Q (fun d5_1n m7_1n t35_1n w' => I1 (d5_1n, m7_1n, t35_1n) w' ∧ μ1 (d5_1n, m7_1n, t35_1n) w' < μ1 (d5_1, m7_1, t35_1) w) script1 (script1.n : Int) d5_1 m7_1 t35_1 w := hr (d5_1, m7_1, t35_1) w hI
        clear hr hI
        generalize hX1 : (fun d5_1n m7_1n t35_1n w' => I1 (d5_1n, m7_1n, t35_1n) w' ∧ μ1 (d5_1n, m7_1n, t35_1n) w' < μ1 (d5_1, m7_1, t35_1) w) = X1 at h
        unfold law08_SnapPlays.b1 at h
        replace hs : Slots a 135 [(5, (.pointer d5_1)), (7, (.pointer m7_1)), (33, (Sl.val script1)), (34, (.int .i64 (script1.n : Int))), (35, (.int .i64 t35_1))] := hs
        refine wp_seq_k fun K15 hK15 => ?_
        refine wp_region_lit ?_
        refine t_pure hs rfl rfl (by decide) (p_lt rfl rfl rfl) ?_
        clear hs a; intro a hs
        refine hK15 _ _ ?_
        refine wp_seq_k fun K16 hK16 => ?_
        refine c_cond hs rfl (fun hb => ?_) (fun hb => ?_)
        · replace h := h.1 hb
          clear hb
          refine wp_skip ?_
          refine hK16 _ _ ?_
          refine wp_seq_k fun K17 hK17 => ?_
          refine wp_block ?_
          refine wp_seq_k fun K18 hK18 => ?_
          refine wp_region_lit ?_
          obtain ⟨qt37, t37, ha, h0, h1, he, h⟩ := h
          refine t_pure hs rfl rfl (by decide) (Pure.adr he (p_idx rfl rfl rfl sl_78 ha h0 h1)) ?_
          clear hs a ha h0 h1 he; intro a hs
          obtain ⟨t38, hn, hv, h⟩ := h
          refine t_eff hs rfl rfl (by decide) (e_loadN rfl rfl at_81 hn hv) ?_
          clear hs a hn hv; intro a hs
          obtain ⟨o9, w1, ha, hw, h⟩ := h
          refine t_eff hs rfl rfl (by decide) (e_alloc rfl zt_81 rfl ha hw) ?_
          clear hs a ha hw; intro a hs
          obtain ⟨w1, hw, hn, hc, hv, h⟩ := h
          refine t_skip hs rfl rfl (e_storeN rfl rfl rfl sz_81 hw hn hc hv) ?_
          clear hs a hw hn hc hv; intro a hs
          refine hK18 _ _ ?_
          refine wp_seq_k fun K19 hK19 => ?_
          have J2 : ∀ (d5_2 : (Option Addr)) (m7_2 : (Option Addr)) (a : Act) (w : World), Slots a 135 [(5, (.pointer d5_2)), (7, (.pointer m7_2)), (9, (.pointer (some o9))), (33, (Sl.val script1)), (34, (.int .i64 (script1.n : Int))), (35, (.int .i64 t35_1))] → law08_SnapPlays.s2 Q X1 d5_2 m7_2 o9 script1 (script1.n : Int) t35_1 w → K19 a w := by
            clear h hs
            intro d5_2 m7_2 a w hs h
            refine hK19 _ _ ?_
            unfold law08_SnapPlays.s2 at h
            refine wp_seq_k fun K20 hK20 => ?_
            refine wp_region_lit ?_
            refine t_pure hs rfl rfl (by decide) (p_move rfl rfl) ?_
            clear hs a; intro a hs
            refine t_pure hs rfl rfl (by decide) (p_fieldAddr rfl rfl ft_81_2) ?_
            clear hs a; intro a hs
            obtain ⟨t82, hv, h⟩ := h
            refine t_eff hs rfl rfl (by decide) (e_load rfl rfl ct_9 hv) ?_
            clear hs a hv; intro a hs
            refine t_call hs rfl rfl (by decide) (e_call rfl rfl rfl cb_39) h ?_
            clear hs a h
            intro v a w hk hs
            obtain ⟨t83x0, t83x1, rfl, h⟩ := hk
            refine t_pure hs rfl rfl (by decide) (p_move rfl rfl) ?_
            clear hs a; intro a hs
            refine t_pure hs rfl rfl (by decide) (p_extract rfl rfl rfl) ?_
            clear hs a; intro a hs
            refine t_pure hs rfl rfl (by decide) (p_extract rfl rfl rfl) ?_
            clear hs a; intro a hs
            refine t_pure hs rfl rfl (by decide) (p_assign rfl rfl) ?_
            clear hs a; intro a hs
            replace hs := hs.to (τ := [(5, (.pointer d5_2)), (7, (.pointer m7_2)), (9, (.pointer (some o9))), (10, (Sl.val t83x0)), (33, (Sl.val script1)), (34, (.int .i64 (script1.n : Int))), (35, (.int .i64 t35_1)), (85, (.int .i64 t83x1))]) ⟨rfl, rfl, rfl, rfl, rfl, rfl, rfl, rfl, trivial⟩
            refine t_pure hs rfl rfl (by decide) (p_assign rfl rfl) ?_
            clear hs a; intro a hs
            refine hK20 _ _ ?_
            refine wp_seq_k fun K21 hK21 => ?_
            refine wp_region_lit ?_
            refine t_pure hs rfl rfl (by decide) (p_move rfl rfl) ?_
            clear hs a; intro a hs
            refine t_pure hs rfl rfl (by decide) (p_fieldAddr rfl rfl ft_81_2) ?_
            clear hs a; intro a hs
            obtain ⟨t89, hv, h⟩ := h
            refine t_eff hs rfl rfl (by decide) (e_load rfl rfl ct_9 hv) ?_
            clear hs a hv; intro a hs
            refine t_call hs rfl rfl (by decide) (e_call rfl rfl rfl cb_43) h ?_
            clear hs a h
            intro v a w hk hs
            obtain ⟨t90x0, t90x1, rfl, h⟩ := hk
            refine t_pure hs rfl rfl (by decide) (p_move rfl rfl) ?_
            clear hs a; intro a hs
            refine t_pure hs rfl rfl (by decide) (p_extract rfl rfl rfl) ?_
            clear hs a; intro a hs
            refine t_pure hs rfl rfl (by decide) (p_extract rfl rfl rfl) ?_
            clear hs a; intro a hs
            refine t_pure hs rfl rfl (by decide) (p_assign rfl rfl) ?_
            clear hs a; intro a hs
            replace hs := hs.to (τ := [(5, (.pointer d5_2)), (7, (.pointer m7_2)), (10, (Sl.val t83x0)), (11, (.int .i64 t83x1)), (12, (Sl.val t90x0)), (33, (Sl.val script1)), (34, (.int .i64 (script1.n : Int))), (35, (.int .i64 t35_1)), (92, (.int .i64 t90x1))]) ⟨rfl, rfl, rfl, rfl, rfl, rfl, rfl, rfl, rfl, trivial⟩
            refine t_pure hs rfl rfl (by decide) (p_assign rfl rfl) ?_
            clear hs a; intro a hs
            refine hK21 _ _ ?_
            refine wp_seq_k fun K22 hK22 => ?_
            refine wp_region_lit ?_
            refine t_pure hs rfl rfl (by decide) (p_move rfl rfl) ?_
            clear hs a; intro a hs
            refine t_call hs rfl rfl (by decide) (e_call rfl rfl rfl cb_28) h ?_
            clear hs a h
            intro v a w hk hs
            obtain ⟨t94, rfl, h⟩ := hk
            refine t_pure hs rfl rfl (by decide) (p_assign rfl rfl) ?_
            clear hs a; intro a hs
            refine hK22 _ _ ?_
            refine wp_seq_k fun K23 hK23 => ?_
            refine wp_seq_k fun K24 hK24 => ?_
            have J3 : ∀ (t114_3 : Bool) (a : Act) (w : World), Slots a 135 [(5, (.pointer d5_2)), (7, (.pointer m7_2)), (14, (Sl.val t94)), (33, (Sl.val script1)), (34, (.int .i64 (script1.n : Int))), (35, (.int .i64 t35_1)), (114, (.bool t114_3))] → law08_SnapPlays.s3 Q X1 d5_2 m7_2 t94 script1 (script1.n : Int) t35_1 t114_3 w → K24 a w := by
              clear h hs
              intro t114_3 a w hs h
              refine hK24 _ _ ?_
              unfold law08_SnapPlays.s3 at h
              refine c_cond hs rfl (fun hb => ?_) (fun hb => ?_)
              · replace h := h.1 hb
                clear hb
                refine wp_seq_k fun K25 hK25 => ?_
                refine wp_region_lit ?_
                refine t_pure hs rfl rfl (by decide) (p_assign rfl rfl) ?_
                clear hs a; intro a hs
                refine hK25 _ _ ?_
                refine wp_ret ?_
                refine f_ret (fn := Try.f12) hs (fun a hs => r_one hs rfl (rfl)) ⟨false, rfl, h⟩
              · replace h := h.2 hb
                clear hb
                refine wp_skip ?_
                refine hK23 _ _ ?_
                refine wp_seq_k fun K26 hK26 => ?_
                refine wp_region_lit ?_
                refine t_pure hs rfl rfl (by decide) (p_move rfl rfl) ?_
                clear hs a; intro a hs
                refine t_pure hs rfl rfl (by decide) (p_len rfl rfl sl_59) ?_
                clear hs a; intro a hs
                refine t_pure hs rfl rfl (by decide) (p_move rfl rfl) ?_
                clear hs a; intro a hs
                refine hK26 _ _ ?_
                refine wp_block ?_
                obtain ⟨I4, μ4, h0, hr⟩ := h
                refine c_loop (α := Int) I4 μ4 (fun x a => Slots a 135 [(5, (.pointer d5_2)), (7, (.pointer m7_2)), (14, (Sl.val t94)), (33, (Sl.val script1)), (34, (.int .i64 (script1.n : Int))), (35, (.int .i64 t35_1)), (116, (.int .i64 (t94.n : Int))), (117, (.int .i64 x))]) 0 h0 (hs.to ⟨rfl, rfl, rfl, rfl, rfl, rfl, rfl, rfl, trivial⟩) ?_
                clear h0 hs a
                intro t117_4 a w hI hs
                have h : law08_SnapPlays.b4 Q X1 (fun t117_4n w' => I4 t117_4n w' ∧ μ4 t117_4n w' < μ4 t117_4 w) d5_2 m7_2 t94 script1 (script1.n : Int) t35_1 (t94.n : Int) t117_4 w := hr t117_4 w hI
                clear hr hI
                generalize hX4 : (fun t117_4n w' => I4 t117_4n w' ∧ μ4 t117_4n w' < μ4 t117_4 w) = X4 at h
                unfold law08_SnapPlays.b4 at h
                replace hs : Slots a 135 [(5, (.pointer d5_2)), (7, (.pointer m7_2)), (14, (Sl.val t94)), (33, (Sl.val script1)), (34, (.int .i64 (script1.n : Int))), (35, (.int .i64 t35_1)), (116, (.int .i64 (t94.n : Int))), (117, (.int .i64 t117_4))] := hs
                refine wp_seq_k fun K27 hK27 => ?_
                refine wp_region_lit ?_
                refine t_pure hs rfl rfl (by decide) (p_lt rfl rfl rfl) ?_
                clear hs a; intro a hs
                refine hK27 _ _ ?_
                refine wp_seq_k fun K28 hK28 => ?_
                refine c_cond hs rfl (fun hb => ?_) (fun hb => ?_)
                · replace h := h.1 hb
                  clear hb
                  refine wp_skip ?_
                  refine hK28 _ _ ?_
                  refine wp_seq_k fun K29 hK29 => ?_
                  refine wp_block ?_
                  refine wp_seq_k fun K30 hK30 => ?_
                  refine wp_region_lit ?_
                  refine t_pure hs rfl rfl (by decide) (p_move rfl rfl) ?_
                  clear hs a; intro a hs
                  refine t_pure hs rfl rfl (by decide) (p_assign rfl rfl) ?_
                  clear hs a; intro a hs
                  refine hK30 _ _ ?_
                  refine wp_seq_k fun K31 hK31 => ?_
                  obtain ⟨w1, hw1, h⟩ := h
                  refine s_start mixed (by kernel_rfl) hw1 ?_
                  clear hw1
                  refine s_pure hs rfl rfl (by decide) (p_move rfl rfl) ?_
                  clear hs a; intro a hs
                  refine s_pure hs rfl rfl (by decide) (p_move rfl rfl) ?_
                  clear hs a; intro a hs
                  obtain ⟨qt122, t122, ha, h0, h1, he, h⟩ := h
                  refine s_pure hs rfl rfl (by decide) (Pure.adr he (p_idx rfl rfl rfl sl_59 ha h0 h1)) ?_
                  clear hs a ha h0 h1 he; intro a hs
                  obtain ⟨t123, hv, h⟩ := h
                  refine s_eff hs rfl rfl (by decide) (e_load rfl rfl ct_9 hv) ?_
                  clear hs a hv; intro a hs
                  refine s_pure hs rfl rfl (by decide) (p_move rfl rfl) ?_
                  clear hs a; intro a hs
                  obtain ⟨t125, rfl, h⟩ := h
                  refine s_pure hs rfl rfl (by decide) (p_nil rfl rfl) ?_
                  clear hs a; intro a hs
                  refine s_pure hs rfl rfl (by decide) (p_fieldAddr rfl rfl ft_87_1) ?_
                  clear hs a; intro a hs
                  obtain ⟨t127, hv, h⟩ := h
                  refine s_eff hs rfl rfl (by decide) (e_load rfl rfl ct_85 hv) ?_
                  clear hs a hv; intro a hs
                  replace hs := hs.to (τ := [(5, (.pointer d5_2)), (7, (.pointer (some t125))), (14, (Sl.val t94)), (15, (.int .i64 t117_4)), (33, (Sl.val script1)), (34, (.int .i64 (script1.n : Int))), (35, (.int .i64 t35_1)), (116, (.int .i64 (t94.n : Int))), (117, (.int .i64 t117_4)), (123, (.string t123)), (127, (Sl.val t127))]) ⟨rfl, rfl, rfl, rfl, rfl, rfl, rfl, rfl, rfl, rfl, rfl, trivial⟩
                  refine s_pure hs rfl rfl (by decide) (p_move rfl rfl) ?_
                  clear hs a; intro a hs
                  obtain ⟨qt129, t129, ha, h0, h1, he, h⟩ := h
                  refine s_pure hs rfl rfl (by decide) (Pure.adr he (p_idx rfl rfl rfl sl_85 ha h0 h1)) ?_
                  clear hs a ha h0 h1 he; intro a hs
                  refine s_pure hs rfl rfl (by decide) (p_fieldAddr0 rfl rfl ft_89_0) ?_
                  clear hs a; intro a hs
                  obtain ⟨t131, hv, h⟩ := h
                  refine s_eff hs rfl rfl (by decide) (e_load rfl rfl ct_9 hv) ?_
                  clear hs a hv; intro a hs
                  refine s_pure hs rfl rfl (by decide) (p_nes rfl rfl rfl) ?_
                  clear hs a; intro a hs
                  refine hK31 _ _ ?_
                  refine c_cond hs rfl (fun hb => ?_) (fun hb => ?_)
                  · replace h := h.1 hb
                    clear hb
                    refine wp_seq_k fun K32 hK32 => ?_
                    refine wp_region_lit ?_
                    refine t_pure hs rfl rfl (by decide) (p_assign rfl rfl) ?_
                    clear hs a; intro a hs
                    refine hK32 _ _ ?_
                    refine wp_ret ?_
                    refine f_ret (fn := Try.f12) hs (fun a hs => r_one hs rfl (rfl)) ⟨false, rfl, h⟩
                  · replace h := h.2 hb
                    clear hb
                    refine wp_skip ?_
                    refine hK29 _ _ ?_
                    refine wp_region_lit ?_
                    obtain ⟨t133, he, h⟩ := h
                    refine t_pure hs rfl rfl (by decide) (Pure.int he (p_add rfl rfl rfl)) ?_
                    clear hs a he; intro a hs
                    refine t_pure hs rfl rfl (by decide) (p_move rfl rfl) ?_
                    clear hs a; intro a hs
                    rw [← hX4] at h
                    exact ⟨t133, hs.to ⟨rfl, rfl, rfl, rfl, rfl, rfl, rfl, rfl, trivial⟩, h⟩
                · replace h := h.2 hb
                  clear hb
                  refine wp_exit ?_
                  refine hK17 _ _ ?_
                  refine wp_region_lit ?_
                  obtain ⟨t134, he, h⟩ := h
                  refine t_pure hs rfl rfl (by decide) (Pure.int he (p_add rfl rfl rfl)) ?_
                  clear hs a he; intro a hs
                  refine t_pure hs rfl rfl (by decide) (p_move rfl rfl) ?_
                  clear hs a; intro a hs
                  rw [← hX1] at h
                  exact ⟨(d5_2, m7_2, t134), hs.to ⟨rfl, rfl, rfl, rfl, rfl, trivial⟩, h⟩
            clear hK24
            refine wp_region_lit ?_
            refine t_pure hs rfl rfl (by decide) (p_move rfl rfl) ?_
            clear hs a; intro a hs
            refine t_pure hs rfl rfl (by decide) (p_move rfl rfl) ?_
            clear hs a; intro a hs
            refine t_pure hs rfl rfl (by decide) (p_ne rfl rfl rfl) ?_
            clear hs a; intro a hs
            refine t_pure hs rfl rfl (by decide) (p_move rfl rfl) ?_
            clear hs a; intro a hs
            refine split_bool (decide (t83x1 ≠ t90x1)) (fun hb => ?_) (fun hb => ?_)
            · replace h := h.1 hb
              rw [hb] at hs
              clear hb
              refine t_no hs rfl rfl (by decide) ?_
              clear hs a; intro a hs
              refine t_no hs rfl rfl (by decide) ?_
              clear hs a; intro a hs
              refine t_no hs rfl rfl (by decide) ?_
              clear hs a; intro a hs
              refine t_no hs rfl rfl (by decide) ?_
              clear hs a; intro a hs
              replace hs := hs.to (τ := [(5, (.pointer d5_2)), (7, (.pointer m7_2)), (14, (Sl.val t94)), (33, (Sl.val script1)), (34, (.int .i64 (script1.n : Int))), (35, (.int .i64 t35_1)), (98, (.bool true)), (100, undef), (102, undef)]) ⟨rfl, rfl, rfl, rfl, rfl, rfl, rfl, rfl, rfl, trivial⟩
              refine t_no hs rfl rfl (by decide) ?_
              clear hs a; intro a hs
              refine t_pure hs rfl rfl (by decide) (p_pick_t rfl rfl rfl) ?_
              clear hs a; intro a hs
              refine t_pure hs rfl rfl (by decide) (p_move rfl rfl) ?_
              clear hs a; intro a hs
              refine t_no hs rfl rfl (by decide) ?_
              clear hs a; intro a hs
              refine t_no hs rfl rfl (by decide) ?_
              clear hs a; intro a hs
              refine t_no hs rfl rfl (by decide) ?_
              clear hs a; intro a hs
              refine t_no hs rfl rfl (by decide) ?_
              clear hs a; intro a hs
              refine t_no hs rfl rfl (by decide) ?_
              clear hs a; intro a hs
              replace hs := hs.to (τ := [(5, (.pointer d5_2)), (7, (.pointer m7_2)), (14, (Sl.val t94)), (33, (Sl.val script1)), (34, (.int .i64 (script1.n : Int))), (35, (.int .i64 t35_1)), (105, (.bool true)), (107, undef), (110, undef)]) ⟨rfl, rfl, rfl, rfl, rfl, rfl, rfl, rfl, rfl, trivial⟩
              refine t_no hs rfl rfl (by decide) ?_
              clear hs a; intro a hs
              refine t_no hs rfl rfl (by decide) ?_
              clear hs a; intro a hs
              refine t_no hs rfl rfl (by decide) ?_
              clear hs a; intro a hs
              refine t_pure hs rfl rfl (by decide) (p_pick_t rfl rfl rfl) ?_
              clear hs a; intro a hs
              exact J3 true _ _ (hs.to ⟨rfl, rfl, rfl, rfl, rfl, rfl, rfl, trivial⟩) h
            · replace h := h.2 hb
              rw [hb] at hs
              clear hb
              refine t_yes hs rfl ?_
              refine t_pure hs rfl rfl (by decide) (p_move rfl rfl) ?_
              clear hs a; intro a hs
              refine t_yes hs rfl ?_
              obtain ⟨t100, hd, h⟩ := h
              refine t_eff hs rfl rfl (by decide) (e_convert rfl rfl hd) ?_
              clear hs a hd; intro a hs
              refine t_yes hs rfl ?_
              refine t_pure hs rfl rfl (by decide) (p_move rfl rfl) ?_
              clear hs a; intro a hs
              refine t_yes hs rfl ?_
              obtain ⟨t102, hd, h⟩ := h
              refine t_eff hs rfl rfl (by decide) (e_convert rfl rfl hd) ?_
              clear hs a hd; intro a hs
              replace hs := hs.to (τ := [(5, (.pointer d5_2)), (7, (.pointer m7_2)), (14, (Sl.val t94)), (33, (Sl.val script1)), (34, (.int .i64 (script1.n : Int))), (35, (.int .i64 t35_1)), (98, (.bool false)), (100, (.string t100)), (102, (.string t102))]) ⟨rfl, rfl, rfl, rfl, rfl, rfl, rfl, rfl, rfl, trivial⟩
              refine t_yes hs rfl ?_
              refine t_pure hs rfl rfl (by decide) (p_nes rfl rfl rfl) ?_
              clear hs a; intro a hs
              refine t_pure hs rfl rfl (by decide) (p_pick_f rfl rfl rfl) ?_
              clear hs a; intro a hs
              refine t_pure hs rfl rfl (by decide) (p_move rfl rfl) ?_
              clear hs a; intro a hs
              refine split_bool (!(t100.toList == t102.toList)) (fun hb => ?_) (fun hb => ?_)
              · replace h := h.1 hb
                rw [hb] at hs
                clear hb
                refine t_no hs rfl rfl (by decide) ?_
                clear hs a; intro a hs
                refine t_no hs rfl rfl (by decide) ?_
                clear hs a; intro a hs
                refine t_no hs rfl rfl (by decide) ?_
                clear hs a; intro a hs
                refine t_no hs rfl rfl (by decide) ?_
                clear hs a; intro a hs
                refine t_no hs rfl rfl (by decide) ?_
                clear hs a; intro a hs
                replace hs := hs.to (τ := [(5, (.pointer d5_2)), (7, (.pointer m7_2)), (14, (Sl.val t94)), (33, (Sl.val script1)), (34, (.int .i64 (script1.n : Int))), (35, (.int .i64 t35_1)), (105, (.bool true)), (107, undef), (110, undef)]) ⟨rfl, rfl, rfl, rfl, rfl, rfl, rfl, rfl, rfl, trivial⟩
                refine t_no hs rfl rfl (by decide) ?_
                clear hs a; intro a hs
                refine t_no hs rfl rfl (by decide) ?_
                clear hs a; intro a hs
                refine t_no hs rfl rfl (by decide) ?_
                clear hs a; intro a hs
                refine t_pure hs rfl rfl (by decide) (p_pick_t rfl rfl rfl) ?_
                clear hs a; intro a hs
                exact J3 true _ _ (hs.to ⟨rfl, rfl, rfl, rfl, rfl, rfl, rfl, trivial⟩) h
              · replace h := h.2 hb
                rw [hb] at hs
                clear hb
                refine t_yes hs rfl ?_
                refine t_pure hs rfl rfl (by decide) (p_move rfl rfl) ?_
                clear hs a; intro a hs
                refine t_yes hs rfl ?_
                refine t_pure hs rfl rfl (by decide) (p_len rfl rfl sl_59) ?_
                clear hs a; intro a hs
                refine t_yes hs rfl ?_
                refine t_pure hs rfl rfl (by decide) (p_move rfl rfl) ?_
                clear hs a; intro a hs
                refine t_yes hs rfl ?_
                obtain ⟨t109, rfl, h⟩ := h
                refine t_pure hs rfl rfl (by decide) (p_nil rfl rfl) ?_
                clear hs a; intro a hs
                refine t_yes hs rfl ?_
                refine t_pure hs rfl rfl (by decide) (p_fieldAddr rfl rfl ft_87_1) ?_
                clear hs a; intro a hs
                replace hs := hs.to (τ := [(5, (.pointer d5_2)), (7, (.pointer (some t109))), (14, (Sl.val t94)), (33, (Sl.val script1)), (34, (.int .i64 (script1.n : Int))), (35, (.int .i64 t35_1)), (105, (.bool false)), (107, (.int .i64 (t94.n : Int))), (110, (.pointer (some (t109.add 1))))]) ⟨rfl, rfl, rfl, rfl, rfl, rfl, rfl, rfl, rfl, trivial⟩
                refine t_yes hs rfl ?_
                obtain ⟨t111, hv, h⟩ := h
                refine t_eff hs rfl rfl (by decide) (e_load rfl rfl ct_85 hv) ?_
                clear hs a hv; intro a hs
                refine t_yes hs rfl ?_
                refine t_pure hs rfl rfl (by decide) (p_len rfl rfl sl_85) ?_
                clear hs a; intro a hs
                refine t_yes hs rfl ?_
                refine t_pure hs rfl rfl (by decide) (p_ne rfl rfl rfl) ?_
                clear hs a; intro a hs
                refine t_pure hs rfl rfl (by decide) (p_pick_f rfl rfl rfl) ?_
                clear hs a; intro a hs
                exact J3 (decide ((t94.n : Int) ≠ (t111.n : Int))) _ _ (hs.to ⟨rfl, rfl, rfl, rfl, rfl, rfl, rfl, trivial⟩) h
          clear hK19
          refine wp_seq_k fun K33 hK33 => ?_
          refine wp_region_lit ?_
          refine t_pure hs rfl rfl (by decide) (p_fieldAddr0 rfl rfl ft_81_0) ?_
          clear hs a; intro a hs
          obtain ⟨t40, hv, h⟩ := h
          refine t_eff hs rfl rfl (by decide) (e_load rfl rfl ct_3 hv) ?_
          clear hs a hv; intro a hs
          obtain ⟨t41, he, h⟩ := h
          refine t_pure hs rfl rfl (by decide) (Pure.int he (p_and rfl rfl rfl)) ?_
          clear hs a he; intro a hs
          refine hK33 _ _ ?_
          refine wp_block ?_
          refine wp_seq_k fun K34 hK34 => ?_
          refine wp_region_lit ?_
          refine t_pure hs rfl rfl (by decide) (p_eq rfl rfl rfl) ?_
          clear hs a; intro a hs
          refine t_pure hs rfl rfl (by decide) (p_assign rfl rfl) ?_
          clear hs a; intro a hs
          refine hK34 _ _ ?_
          refine c_cond hs rfl (fun hb => ?_) (fun hb => ?_)
          · replace h := h.1 hb
            clear hb
            refine wp_seq_k fun K35 hK35 => ?_
            obtain ⟨w1, hw1, h⟩ := h
            obtain ⟨S, hS, h⟩ := h
            subst hw1
            refine d_start (S := S) (ds := [7]) #[false, false, false, false, false, false, false, false, false, false] mixed rfl rfl ?_
            refine d_pure hs #[true, false, false, false, false, false, false, false, false, false] (i := 0) rfl rfl rfl (by decide) (by kernel_rfl) (tight_body (P := Try.prog) (fn := Try.f12)) (p_move rfl rfl) ?_
            clear hs a; intro a hs
            refine d_pure hs #[true, true, false, false, false, false, false, false, false, false] (i := 1) rfl rfl rfl (by decide) (by kernel_rfl) (tight_body (P := Try.prog) (fn := Try.f12)) (p_fieldAddr rfl rfl ft_81_4) ?_
            clear hs a; intro a hs
            refine d_pure hs #[true, true, false, false, true, false, false, false, false, false] (i := 4) rfl rfl rfl (by decide) (by kernel_rfl) (tight_body (P := Try.prog) (fn := Try.f12)) (p_move rfl rfl) ?_
            clear hs a; intro a hs
            refine d_pure hs #[true, true, false, false, true, true, false, false, false, false] (i := 5) rfl rfl rfl (by decide) (by kernel_rfl) (tight_body (P := Try.prog) (fn := Try.f12)) (p_fieldAddr rfl rfl ft_81_4) ?_
            clear hs a; intro a hs
            obtain ⟨t61, hv, h⟩ := h
            refine d_read hs #[true, true, true, false, true, true, false, false, false, false] (i := 2) rfl rfl rfl (by decide) (by kernel_rfl) (by kernel_rfl) (tight_body (P := Try.prog) (fn := Try.f12)) hS (fun w h' => e_load rfl rfl ct_44 (hv w h')) ?_
            clear hs a hv; intro a hs
            obtain ⟨t65, hv, h⟩ := h
            refine d_read hs #[true, true, true, false, true, true, true, false, false, false] (i := 6) rfl rfl rfl (by decide) (by kernel_rfl) (by kernel_rfl) (tight_body (P := Try.prog) (fn := Try.f12)) hS (fun w h' => e_load rfl rfl ct_44 (hv w h')) ?_
            clear hs a hv; intro a hs
            refine d_all [3] (by kernel_rfl) (by decide) ?_
            refine AllS.cons ?_ AllS.nil
            refine d_call hs #[true, true, true, true, true, true, true, false, false, false] (i := 3) rfl rfl rfl (by decide) rfl (e_call rfl rfl rfl cb_24) h (fun v w'' hk => by obtain ⟨t62, _, hS, _⟩ := hk; exact fun _ _ => hS) ?_
            clear hs a h
            intro v a w hk hs
            obtain ⟨t62, rfl, h⟩ := hk
            obtain ⟨hS, h⟩ := h
            refine d_all [7] (by kernel_rfl) (by decide) ?_
            refine AllS.cons ?_ AllS.nil
            refine d_call hs #[true, true, true, true, true, true, true, true, false, false] (i := 7) rfl rfl rfl (by decide) rfl (e_call rfl rfl rfl cb_35) h (fun _ _ _ hn => (hn (by decide)).elim) ?_
            clear hs a h
            intro v a w hk hs
            obtain ⟨t66, rfl, h⟩ := hk
            replace hs := hs.to (τ := [(5, (.pointer d5_1)), (7, (.pointer m7_1)), (9, (.pointer (some o9))), (33, (Sl.val script1)), (34, (.int .i64 (script1.n : Int))), (35, (.int .i64 t35_1)), (62, (.pointer t62)), (66, (.pointer t66))]) ⟨rfl, rfl, rfl, rfl, rfl, rfl, rfl, rfl, trivial⟩
            refine d_pure hs #[true, true, true, true, true, true, true, true, true, false] (i := 8) rfl rfl rfl (by decide) (by kernel_rfl) (tight_body (P := Try.prog) (fn := Try.f12)) (p_assign rfl rfl) ?_
            clear hs a; intro a hs
            refine d_pure hs #[true, true, true, true, true, true, true, true, true, true] (i := 9) rfl rfl rfl (by decide) (by kernel_rfl) (tight_body (P := Try.prog) (fn := Try.f12)) (p_assign rfl rfl) ?_
            clear hs a; intro a hs
            refine d_done (by kernel_rfl) ?_ _
            clear hS
            refine hK35 _ _ ?_
            refine wp_seq_k fun K36 hK36 => ?_
            refine wp_region_lit ?_
            refine t_pure hs rfl rfl (by decide) (p_move rfl rfl) ?_
            clear hs a; intro a hs
            refine t_pure hs rfl rfl (by decide) (p_eq_nil rfl rfl rfl Try.underlying45) ?_
            clear hs a; intro a hs
            refine hK36 _ _ ?_
            refine c_cond hs rfl (fun hb => ?_) (fun hb => ?_)
            · replace h := h.1 hb
              clear hb
              refine wp_seq_k fun K37 hK37 => ?_
              refine wp_region_lit ?_
              refine t_pure hs rfl rfl (by decide) (p_assign rfl rfl) ?_
              clear hs a; intro a hs
              refine hK37 _ _ ?_
              refine wp_ret ?_
              refine f_ret (fn := Try.f12) hs (fun a hs => r_one hs rfl (rfl)) ⟨false, rfl, h⟩
            · replace h := h.2 hb
              clear hb
              refine wp_skip ?_
              exact J2 t62 t66 _ _ (hs.to ⟨rfl, rfl, rfl, rfl, rfl, rfl, trivial⟩) h
          · replace h := h.2 hb
            clear hb
            refine wp_seq_k fun K38 hK38 => ?_
            refine wp_region_lit ?_
            refine t_pure hs rfl rfl (by decide) (p_eq rfl rfl rfl) ?_
            clear hs a; intro a hs
            refine t_pure hs rfl rfl (by decide) (p_assign rfl rfl) ?_
            clear hs a; intro a hs
            refine hK38 _ _ ?_
            refine c_cond hs rfl (fun hb => ?_) (fun hb => ?_)
            · replace h := h.1 hb
              clear hb
              refine wp_seq_k fun K39 hK39 => ?_
              refine wp_region_lit ?_
              refine t_pure hs rfl rfl (by decide) (p_move rfl rfl) ?_
              clear hs a; intro a hs
              refine t_pure hs rfl rfl (by decide) (p_fieldAddr rfl rfl ft_81_1) ?_
              clear hs a; intro a hs
              obtain ⟨t73, hv, h⟩ := h
              refine t_eff hs rfl rfl (by decide) (e_load rfl rfl ct_3 hv) ?_
              clear hs a hv; intro a hs
              refine t_call hs rfl rfl (by decide) (e_call rfl rfl rfl cb_30) h ?_
              clear hs a h
              intro v a w hk hs
              obtain ⟨rfl, h⟩ := hk
              refine hK39 _ _ ?_
              refine wp_region_lit ?_
              refine t_pure hs rfl rfl (by decide) (p_move rfl rfl) ?_
              clear hs a; intro a hs
              refine t_pure hs rfl rfl (by decide) (p_fieldAddr rfl rfl ft_81_1) ?_
              clear hs a; intro a hs
              obtain ⟨t77, hv, h⟩ := h
              refine t_eff hs rfl rfl (by decide) (e_load rfl rfl ct_3 hv) ?_
              clear hs a hv; intro a hs
              refine t_call hs rfl rfl (by decide) (e_call rfl rfl rfl cb_41) h ?_
              clear hs a h
              intro v a w hk hs
              obtain ⟨rfl, h⟩ := hk
              exact J2 d5_1 m7_1 _ _ (hs.to ⟨rfl, rfl, rfl, rfl, rfl, rfl, trivial⟩) h
            · replace h := h.2 hb
              clear hb
              refine wp_seq_k fun K40 hK40 => ?_
              obtain ⟨w1, hw1, h⟩ := h
              obtain ⟨S, hS, h⟩ := h
              subst hw1
              refine d_start (S := S) (ds := [13]) #[false, false, false, false, false, false, false, false, false, false, false, false, false, false, false] mixed rfl rfl ?_
              refine d_pure hs #[true, false, false, false, false, false, false, false, false, false, false, false, false, false, false] (i := 0) rfl rfl rfl (by decide) (by kernel_rfl) (tight_body (P := Try.prog) (fn := Try.f12)) (p_move rfl rfl) ?_
              clear hs a; intro a hs
              refine d_pure hs #[true, true, false, false, false, false, false, false, false, false, false, false, false, false, false] (i := 1) rfl rfl rfl (by decide) (by kernel_rfl) (tight_body (P := Try.prog) (fn := Try.f12)) (p_fieldAddr rfl rfl ft_81_2) ?_
              clear hs a; intro a hs
              refine d_pure hs #[true, true, false, false, true, false, false, false, false, false, false, false, false, false, false] (i := 4) rfl rfl rfl (by decide) (by kernel_rfl) (tight_body (P := Try.prog) (fn := Try.f12)) (p_fieldAddr rfl rfl ft_81_3) ?_
              clear hs a; intro a hs
              refine d_pure hs #[true, true, false, false, true, false, false, false, true, false, false, false, false, false, false] (i := 8) rfl rfl rfl (by decide) (by kernel_rfl) (tight_body (P := Try.prog) (fn := Try.f12)) (p_move rfl rfl) ?_
              clear hs a; intro a hs
              refine d_pure hs #[true, true, false, false, true, false, false, false, true, true, false, false, false, false, false] (i := 9) rfl rfl rfl (by decide) (by kernel_rfl) (tight_body (P := Try.prog) (fn := Try.f12)) (p_fieldAddr rfl rfl ft_81_2) ?_
              clear hs a; intro a hs
              refine d_pure hs #[true, true, false, false, true, false, false, false, true, true, false, true, false, false, false] (i := 11) rfl rfl rfl (by decide) (by kernel_rfl) (tight_body (P := Try.prog) (fn := Try.f12)) (p_fieldAddr rfl rfl ft_81_3) ?_
              clear hs a; intro a hs
              obtain ⟨t44, hv, h⟩ := h
              refine d_read hs #[true, true, true, false, true, false, false, false, true, true, false, true, false, false, false] (i := 2) rfl rfl rfl (by decide) (by kernel_rfl) (by kernel_rfl) (tight_body (P := Try.prog) (fn := Try.f12)) hS (fun w h' => e_load rfl rfl ct_9 (hv w h')) ?_
              clear hs a hv; intro a hs
              obtain ⟨t47, hv, h⟩ := h
              refine d_read hs #[true, true, true, false, true, true, false, false, true, true, false, true, false, false, false] (i := 5) rfl rfl rfl (by decide) (by kernel_rfl) (by kernel_rfl) (tight_body (P := Try.prog) (fn := Try.f12)) hS (fun w h' => e_load rfl rfl ct_33 (hv w h')) ?_
              clear hs a hv; intro a hs
              replace hs := hs.to (τ := [(5, (.pointer d5_1)), (7, (.pointer m7_1)), (9, (.pointer (some o9))), (33, (Sl.val script1)), (34, (.int .i64 (script1.n : Int))), (35, (.int .i64 t35_1)), (42, (.pointer d5_1)), (44, (.string t44)), (47, (Sl.val t47)), (50, (.pointer m7_1)), (51, (.pointer (some (o9.add 2)))), (53, (.pointer (some (o9.add 3))))]) ⟨rfl, rfl, rfl, rfl, rfl, rfl, rfl, rfl, rfl, rfl, rfl, rfl, trivial⟩
              obtain ⟨t52, hv, h⟩ := h
              refine d_read hs #[true, true, true, false, true, true, false, false, true, true, true, true, false, false, false] (i := 10) rfl rfl rfl (by decide) (by kernel_rfl) (by kernel_rfl) (tight_body (P := Try.prog) (fn := Try.f12)) hS (fun w h' => e_load rfl rfl ct_9 (hv w h')) ?_
              clear hs a hv; intro a hs
              obtain ⟨t54, hv, h⟩ := h
              refine d_read hs #[true, true, true, false, true, true, false, false, true, true, true, true, true, false, false] (i := 12) rfl rfl rfl (by decide) (by kernel_rfl) (by kernel_rfl) (tight_body (P := Try.prog) (fn := Try.f12)) hS (fun w h' => e_load rfl rfl ct_33 (hv w h')) ?_
              clear hs a hv; intro a hs
              refine d_all [3] (by kernel_rfl) (by decide) ?_
              refine AllS.cons ?_ AllS.nil
              obtain ⟨t45, w1, ha, hw, h⟩ := h
              obtain ⟨hS, h⟩ := h
              refine d_eff hs #[true, true, true, true, true, true, false, false, true, true, true, true, true, false, false] (i := 3) rfl rfl rfl (by decide) rfl (e_buildSlice (z := #[]) (cs := #[]) rfl sl_33 zt_5 (by decide) rfl rz_5_0 (by rfl) ha hw) (fun _ _ => hS) ?_
              clear hs a ha hw; intro a hs
              refine d_all [6] (by kernel_rfl) (by decide) ?_
              refine AllS.cons ?_ AllS.nil
              obtain ⟨t48, w1, hd, h⟩ := h
              obtain ⟨hS, h⟩ := h
              refine d_eff hs #[true, true, true, true, true, true, true, false, true, true, true, true, true, false, false] (i := 6) rfl rfl rfl (by decide) rfl (e_append rfl rfl rfl rfl hd) (fun _ _ => hS) ?_
              clear hs a hd; intro a hs
              refine d_all [7] (by kernel_rfl) (by decide) ?_
              refine AllS.cons ?_ AllS.nil
              refine d_call hs #[true, true, true, true, true, true, true, true, true, true, true, true, true, false, false] (i := 7) rfl rfl rfl (by decide) rfl (e_call rfl rfl rfl cb_38) h (fun v w'' hk => by obtain ⟨t49, _, hS, _⟩ := hk; exact fun _ _ => hS) ?_
              clear hs a h
              intro v a w hk hs
              obtain ⟨t49, rfl, h⟩ := hk
              obtain ⟨hS, h⟩ := h
              refine d_all [13] (by kernel_rfl) (by decide) ?_
              refine AllS.cons ?_ AllS.nil
              refine d_call hs #[true, true, true, true, true, true, true, true, true, true, true, true, true, true, false] (i := 13) rfl rfl rfl (by decide) rfl (e_call rfl rfl rfl cb_42) h (fun _ _ _ hn => (hn (by decide)).elim) ?_
              clear hs a h
              intro v a w hk hs
              obtain ⟨t55, rfl, h⟩ := hk
              refine d_pure hs #[true, true, true, true, true, true, true, true, true, true, true, true, true, true, true] (i := 14) rfl rfl rfl (by decide) (by kernel_rfl) (tight_body (P := Try.prog) (fn := Try.f12)) (p_ne rfl rfl rfl) ?_
              clear hs a; intro a hs
              refine d_done (by kernel_rfl) ?_ _
              clear hS
              refine hK40 _ _ ?_
              refine c_cond hs rfl (fun hb => ?_) (fun hb => ?_)
              · replace h := h.1 hb
                clear hb
                refine wp_seq_k fun K41 hK41 => ?_
                refine wp_region_lit ?_
                refine t_pure hs rfl rfl (by decide) (p_assign rfl rfl) ?_
                clear hs a; intro a hs
                refine hK41 _ _ ?_
                refine wp_ret ?_
                refine f_ret (fn := Try.f12) hs (fun a hs => r_one hs rfl (rfl)) ⟨false, rfl, h⟩
              · replace h := h.2 hb
                clear hb
                refine wp_skip ?_
                exact J2 d5_1 m7_1 _ _ (hs.to ⟨rfl, rfl, rfl, rfl, rfl, rfl, trivial⟩) h
        · replace h := h.2 hb
          clear hb
          refine wp_exit ?_
          refine hK13 _ _ ?_
          refine wp_seq_k fun K42 hK42 => ?_
          refine wp_region_lit ?_
          refine t_pure hs rfl rfl (by decide) (p_assign rfl rfl) ?_
          clear hs a; intro a hs
          refine hK42 _ _ ?_
          refine wp_ret ?_
          refine f_ret (fn := Try.f12) hs (fun a hs => r_one hs rfl (rfl)) ⟨true, rfl, h⟩
end Go.Proofs.Ytgnkminakongkaa
