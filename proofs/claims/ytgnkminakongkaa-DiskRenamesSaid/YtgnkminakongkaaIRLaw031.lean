/- Plain forms of functions, and that their code comes to them (package law03). -/
import Derived.Test.YtgnkminakongkaaCalls
namespace Go.Proofs.Ytgnkminakongkaa
open Go Go.Sep
set_option linter.unusedVariables false
set_option linter.unusedSimpArgs false
set_option maxRecDepth 100000
set_option maxHeartbeats 4000000
def law03_DiskApart.s3 (Q : Bool → K) (X2 : Int → K) (keeps1_3 : Sl) (d5_3 : (Option Addr)) (t37_3 : Sl) (t38_3 : Int) (t39_3 : Int) : K :=
  Ar (IntKind.wrap .i64 (t39_3 + 1)) fun t71 =>
  X2 t71
def law03_DiskApart.s4 (Q : Bool → K) (X2 : Int → K) (keeps1_4 : Sl) (d5_4 : (Option Addr)) (o8_4 : Addr) (t37_4 : Sl) (t38_4 : Int) (t39_4 : Int) (t56_4 : Bool) : K :=
  Ite t56_4
    (Ld (o8_4.add 2) Value.string fun t59 =>
    Ld (o8_4.add 4) Sl.val fun t61 =>
    disk_Disk_Append.call d5_4 t59 t61 fun t62 =>
    law03_DiskApart.s3 Q X2 keeps1_4 d5_4 t37_4 t38_4 t39_4)
    (Ld o8_4 (Value.int .i64) fun t64 =>
    Ar (bitsOf .and .i64 t64 7) fun t65 =>
    Ite (decide (t65 = 0))
      (Ld (o8_4.add 2) Value.string fun t69 =>
      disk_Disk_Sync.call d5_4 t69 fun t70 =>
      law03_DiskApart.s3 Q X2 keeps1_4 d5_4 t37_4 t38_4 t39_4)
      (law03_DiskApart.s3 Q X2 keeps1_4 d5_4 t37_4 t38_4 t39_4))
def law03_DiskApart.s7 (Q : Bool → K) (X2 : Int → K) (X6 : Int → K) (d5_7 : (Option Addr)) (x9_7 : (Option Addr)) (y10_7 : (Option Addr)) (names11_7 : Sl) (t86_7 : Sl) (t87_7 : Int) (t88_7 : Int) (t152_7 : Bool) : K :=
  Ite t152_7
    (Q false)
    (Ar (IntKind.wrap .i64 (t88_7 + 1)) fun t153 =>
    X6 t153)
def law03_DiskApart.s8 (Q : Bool → K) (X2 : Int → K) (X6 : Int → K) (t4_8 : Bool) : K :=
  Q t4_8
def law03_DiskApart.b6 (Q : Bool → K) (X2 : Int → K) (X6 : Int → K) (d5_6 : (Option Addr)) (x9_6 : (Option Addr)) (y10_6 : (Option Addr)) (names11_6 : Sl) (t86_6 : Sl) (t87_6 : Int) (t88_6 : Int) : K :=
  Ite (decide (t88_6 < t87_6))
    (Idx t86_6 t88_6 1 fun t90 =>
    Ld t90 Value.string fun t91 =>
    disk_Disk_Read.call y10_6 t91 fun t95x0 t95x1 =>
    disk_Disk_Read.call d5_6 t91 fun t101x0 t101x1 =>
    New 5 #[(.int .u8 109), (.int .u8 111), (.int .u8 114), (.int .u8 101)] fun t106 =>
    Do Try.prog (convert 33 33 (Sl.val (Sl.mk (some t106) 4 4))) Sl.val fun t107 =>
    disk_Disk_Append.call x9_6 t91 t107 fun t108 =>
    disk_Disk_Sync.call x9_6 t91 fun t111 =>
    disk_Disk_Read.call y10_6 t91 fun t115x0 t115x1 =>
    disk_Disk_Read.call d5_6 t91 fun t121x0 t121x1 =>
    Dr <|
    Rd Try.prog (convert 33 9 (Sl.val t95x0)) Value.string fun t125 =>
    Rd Try.prog (convert 33 9 (Sl.val t115x0)) Value.string fun t127 =>
    Ite (!(t125.toList == t127.toList))
      (law03_DiskApart.s7 Q X2 X6 d5_6 x9_6 y10_6 names11_6 t86_6 t87_6 t88_6 true)
      (Rd Try.prog (convert 33 9 (Sl.val t101x0)) Value.string fun t131 =>
      Rd Try.prog (convert 33 9 (Sl.val t121x0)) Value.string fun t133 =>
      Ite (!(t131.toList == t133.toList))
        (law03_DiskApart.s7 Q X2 X6 d5_6 x9_6 y10_6 names11_6 t86_6 t87_6 t88_6 true)
        (Ite (decide ((t101x0.n : Int) < (t95x0.n : Int)))
          (law03_DiskApart.s7 Q X2 X6 d5_6 x9_6 y10_6 names11_6 t86_6 t87_6 t88_6 true)
          (Slc t101x0 0 (t95x0.n : Int) (t101x0.c : Int) 1 fun t147 =>
          Rd Try.prog (convert 33 9 (Sl.val t147)) Value.string fun t148 =>
          Rd Try.prog (convert 33 9 (Sl.val t95x0)) Value.string fun t150 =>
          law03_DiskApart.s7 Q X2 X6 d5_6 x9_6 y10_6 names11_6 t86_6 t87_6 t88_6 (!(t148.toList == t150.toList))))))
    (disk_Disk_Names.call x9_6 fun t155 =>
    Ite (decide ((t155.n : Int) = (names11_6.n : Int)))
      (disk_Disk_Names.call y10_6 fun t162 =>
      law03_DiskApart.s8 Q X2 X6 (decide ((t162.n : Int) = (names11_6.n : Int))))
      (law03_DiskApart.s8 Q X2 X6 false))
def law03_DiskApart.s5 (Q : Bool → K) (X2 : Int → K) (d5_5 : (Option Addr)) (x9_5 : (Option Addr)) (y10_5 : (Option Addr)) (t83_5 : Bool) : K :=
  Ite t83_5
    (Q false)
    (disk_Disk_Names.call d5_5 fun t85 =>
    LoopK (α := Int) (fun X x => law03_DiskApart.b6 Q X2 X d5_5 x9_5 y10_5 t85 t85 (t85.n : Int) x) 0)
def law03_DiskApart.b2 (Q : Bool → K)  (X2 : Int → K) (keeps1_2 : Sl) (d5_2 : (Option Addr)) (t37_2 : Sl) (t38_2 : Int) (t39_2 : Int) : K :=
  Ite (decide (t39_2 < t38_2))
    (Idx t37_2 t39_2 6 fun t41 =>
    LdN t41 6 fun t42 =>
    New 57 #[(.int .i64 0), (.int .i64 0), (.string ⟨#[]⟩), (.string ⟨#[]⟩), (Sl.val ⟨none, 0, 0⟩), (Sl.val ⟨none, 0, 0⟩)] fun o8 =>
    StN o8 6 t42 <|
    Ld o8 (Value.int .i64) fun t44 =>
    Ar (bitsOf .and .i64 t44 7) fun t45 =>
    Ite (decide (t45 = 4))
      (law03_DiskApart.s3 Q X2 keeps1_2 d5_2 t37_2 t38_2 t39_2)
      (Ld (o8.add 2) Value.string fun t48 =>
      Ite (decide ((0 : Int) < (t48.size : Int)))
        (Ld o8 (Value.int .i64) fun t53 =>
        Ar (bitsOf .and .i64 t53 7) fun t54 =>
        law03_DiskApart.s4 Q X2 keeps1_2 d5_2 o8 t37_2 t38_2 t39_2 (decide ((4 : Int) < t54)))
        (law03_DiskApart.s4 Q X2 keeps1_2 d5_2 o8 t37_2 t38_2 t39_2 false)))
    (disk_Disk_Crash.call d5_2 keeps1_2 fun t74 =>
    disk_Disk_Crash.call d5_2 keeps1_2 fun t77 =>
    Ite ((t74).isNone)
      (law03_DiskApart.s5 Q X2 d5_2 t74 t77 true)
      (law03_DiskApart.s5 Q X2 d5_2 t74 t77 ((t77).isNone)))
def law03_DiskApart.s1 (Q : Bool → K)  (script0_1 : Sl) (keeps1_1 : Sl) (t30_1 : Bool) : K :=
  Ite t30_1
    (Q true)
    (disk_New.call 10000 fun t32x0 t32x1 =>
    Ite ((t32x0).isNone)
      (Q false)
      (LoopK (α := Int) (fun X x => law03_DiskApart.b2 Q X keeps1_1 t32x0 script0_1 (script0_1.n : Int) x) 0))
def law03_DiskApart (script0 : Sl) (keeps1 : Sl) (Q : Bool → K) : K :=
  law03_speaks.call  fun t22 =>
  Ite (!t22)
    (Q false)
    (law03_great.call script0 fun t25 =>
    Ite t25
      (law03_DiskApart.s1 Q script0 keeps1 true)
      (law03_DiskApart.s1 Q script0 keeps1 (decide ((100 : Int) < (keeps1.n : Int)))))
theorem law03_DiskApart_ok (script0 : Sl) (keeps1 : Sl) (Q : Bool → K) (w : World) (h : law03_DiskApart script0 keeps1 Q w) : law03_DiskApart.call script0 keeps1 Q w := by
  unfold law03_DiskApart.call CallF
  refine f_start (args := [(Sl.val script0), (Sl.val keeps1)]) Try.func6 rfl (Nat.le_of_ble_eq_true rfl) ?_
  intro a hs
  unfold law03_DiskApart at h
  refine wp_seq_k fun K1 hK1 => ?_
  refine wp_region_lit ?_
  refine t_pure hs rfl rfl (by decide) (p_assign rfl rfl) ?_
  clear hs a
  intro a hs
  refine hK1 _ _ ?_
  refine wp_seq_k fun K2 hK2 => ?_
  refine wp_seq_k fun K3 hK3 => ?_
  refine wp_region_lit ?_
  refine t_call hs rfl rfl (by decide) (e_call rfl rfl rfl cb_20) h ?_
  clear hs a h
  intro v a w hk hs
  obtain ⟨t22, rfl, h⟩ := hk
  refine t_pure hs rfl rfl (by decide) (p_not rfl rfl) ?_
  clear hs a
  intro a hs
  refine hK3 _ _ ?_
  refine c_cond hs rfl (fun hb => ?_) (fun hb => ?_)
  · replace h := h.1 hb
    clear hb
    refine wp_seq_k fun K4 hK4 => ?_
    refine wp_region_lit ?_
    refine t_pure hs rfl rfl (by decide) (p_assign rfl rfl) ?_
    clear hs a
    intro a hs
    refine hK4 _ _ ?_
    refine wp_ret ?_
    refine f_ret (fn := Try.f6) hs (fun a hs => r_one hs rfl (rfl)) ⟨false, rfl, h⟩
  · replace h := h.2 hb
    clear hb
    refine wp_skip ?_
    refine hK2 _ _ ?_
    refine wp_seq_k fun K5 hK5 => ?_
    refine wp_seq_k fun K6 hK6 => ?_
    have J1 : ∀ (t30_1 : Bool) (a : Act) (w : World), Slots a 168 [(0, (Sl.val script0)), (1, (Sl.val keeps1)), (30, (.bool t30_1))] → law03_DiskApart.s1 Q script0 keeps1 t30_1 w → K6 a w := by
      clear h hs
      intro t30_1 a w hs h
      refine hK6 _ _ ?_
      unfold law03_DiskApart.s1 at h
      refine c_cond hs rfl (fun hb => ?_) (fun hb => ?_)
      · replace h := h.1 hb
        clear hb
        refine wp_seq_k fun K7 hK7 => ?_
        refine wp_region_lit ?_
        refine t_pure hs rfl rfl (by decide) (p_assign rfl rfl) ?_
        clear hs a
        intro a hs
        refine hK7 _ _ ?_
        refine wp_ret ?_
        refine f_ret (fn := Try.f6) hs (fun a hs => r_one hs rfl (rfl)) ⟨true, rfl, h⟩
      · replace h := h.2 hb
        clear hb
        refine wp_skip ?_
        refine hK5 _ _ ?_
        refine wp_seq_k fun K8 hK8 => ?_
        refine wp_region_lit ?_
        refine t_call hs rfl rfl (by decide) (e_call rfl rfl rfl cb_21) h ?_
        clear hs a h
        intro v a w hk hs
        obtain ⟨t32x0, t32x1, rfl, h⟩ := hk
        refine t_pure hs rfl rfl (by decide) (p_move rfl rfl) ?_
        clear hs a
        intro a hs
        refine t_pure hs rfl rfl (by decide) (p_extract rfl rfl rfl) ?_
        clear hs a
        intro a hs
        refine t_pure hs rfl rfl (by decide) (p_extract rfl rfl rfl) ?_
        clear hs a
        intro a hs
        refine t_pure hs rfl rfl (by decide) (p_assign rfl rfl) ?_
        clear hs a
        intro a hs
        refine t_pure hs rfl rfl (by decide) (p_assign rfl rfl) ?_
        clear hs a
        intro a hs
        refine hK8 _ _ ?_
        refine wp_seq_k fun K9 hK9 => ?_
        refine wp_seq_k fun K10 hK10 => ?_
        refine wp_region_lit ?_
        refine t_pure hs rfl rfl (by decide) (p_move rfl rfl) ?_
        clear hs a
        intro a hs
        refine t_pure hs rfl rfl (by decide) (p_eq_nil rfl rfl rfl Try.underlying45) ?_
        clear hs a
        intro a hs
        refine hK10 _ _ ?_
        refine c_cond hs rfl (fun hb => ?_) (fun hb => ?_)
        · replace h := h.1 hb
          clear hb
          refine wp_seq_k fun K11 hK11 => ?_
          refine wp_region_lit ?_
          refine t_pure hs rfl rfl (by decide) (p_assign rfl rfl) ?_
          clear hs a
          intro a hs
          refine hK11 _ _ ?_
          refine wp_ret ?_
          refine f_ret (fn := Try.f6) hs (fun a hs => r_one hs rfl (rfl)) ⟨false, rfl, h⟩
        · replace h := h.2 hb
          clear hb
          refine wp_skip ?_
          refine hK9 _ _ ?_
          refine wp_seq_k fun K12 hK12 => ?_
          refine wp_seq_k fun K13 hK13 => ?_
          refine wp_region_lit ?_
          refine t_pure hs rfl rfl (by decide) (p_move rfl rfl) ?_
          clear hs a
          intro a hs
          refine t_pure hs rfl rfl (by decide) (p_len rfl rfl sl_54) ?_
          clear hs a
          intro a hs
          refine t_pure hs rfl rfl (by decide) (p_move rfl rfl) ?_
          clear hs a
          intro a hs
          refine hK13 _ _ ?_
          refine wp_block ?_
          obtain ⟨I2, μ2, h0, hr⟩ := h
          refine c_loop (α := Int) I2 μ2 (fun x a => Slots a 168 [(1, (Sl.val keeps1)), (5, (.pointer t32x0)), (37, (Sl.val script0)), (38, (.int .i64 (script0.n : Int))), (39, (.int .i64 x))]) 0 h0 (hs.to ⟨rfl, rfl, rfl, rfl, rfl, trivial⟩) ?_
          clear h0 hs a
          intro t39_2 a w hI hs
          have h : law03_DiskApart.b2 Q (fun t39_2n w' => I2 t39_2n w' ∧ μ2 t39_2n w' < μ2 t39_2 w) keeps1 t32x0 script0 (script0.n : Int) t39_2 w := hr t39_2 w hI
          clear hr hI
          generalize hX2 : (fun t39_2n w' => I2 t39_2n w' ∧ μ2 t39_2n w' < μ2 t39_2 w) = X2 at h
          unfold law03_DiskApart.b2 at h
          replace hs : Slots a 168 [(1, (Sl.val keeps1)), (5, (.pointer t32x0)), (37, (Sl.val script0)), (38, (.int .i64 (script0.n : Int))), (39, (.int .i64 t39_2))] := hs
          refine wp_seq_k fun K14 hK14 => ?_
          refine wp_region_lit ?_
          refine t_pure hs rfl rfl (by decide) (p_lt rfl rfl rfl) ?_
          clear hs a
          intro a hs
          refine hK14 _ _ ?_
          refine wp_seq_k fun K15 hK15 => ?_
          refine c_cond hs rfl (fun hb => ?_) (fun hb => ?_)
          · replace h := h.1 hb
            clear hb
            refine wp_skip ?_
            refine hK15 _ _ ?_
            refine wp_seq_k fun K16 hK16 => ?_
            have J3 : ∀ (a : Act) (w : World), Slots a 168 [(1, (Sl.val keeps1)), (5, (.pointer t32x0)), (37, (Sl.val script0)), (38, (.int .i64 (script0.n : Int))), (39, (.int .i64 t39_2))] → law03_DiskApart.s3 Q X2 keeps1 t32x0 script0 (script0.n : Int) t39_2 w → K16 a w := by
              clear h hs
              intro a w hs h
              refine hK16 _ _ ?_
              unfold law03_DiskApart.s3 at h
              refine wp_region_lit ?_
              obtain ⟨t71, he, h⟩ := h
              refine t_pure hs rfl rfl (by decide) (Pure.int he (p_add rfl rfl rfl)) ?_
              clear hs a he
              intro a hs
              refine t_pure hs rfl rfl (by decide) (p_move rfl rfl) ?_
              clear hs a
              intro a hs
              rw [← hX2] at h
              exact ⟨t71, hs.to ⟨rfl, rfl, rfl, rfl, rfl, trivial⟩, h⟩
            clear hK16
            refine wp_block ?_
            refine wp_seq_k fun K17 hK17 => ?_
            refine wp_region_lit ?_
            obtain ⟨qt41, t41, ha, h0, h1, he, h⟩ := h
            refine t_pure hs rfl rfl (by decide) (Pure.adr he (p_idx rfl rfl rfl sl_54 ha h0 h1)) ?_
            clear hs a ha h0 h1 he
            intro a hs
            obtain ⟨t42, hn, hv, h⟩ := h
            refine t_eff hs rfl rfl (by decide) (e_loadN rfl rfl at_57 hn hv) ?_
            clear hs a hn hv
            intro a hs
            obtain ⟨o8, w1, ha, hw, h⟩ := h
            refine t_eff hs rfl rfl (by decide) (e_alloc rfl zt_57 rfl ha hw) ?_
            clear hs a ha hw
            intro a hs
            obtain ⟨w1, hw, hn, hc, hv, h⟩ := h
            refine t_skip hs rfl rfl (e_storeN rfl rfl rfl sz_57 hw hn hc hv) ?_
            clear hs a hw hn hc hv
            intro a hs
            refine hK17 _ _ ?_
            refine wp_seq_k fun K18 hK18 => ?_
            refine wp_seq_k fun K19 hK19 => ?_
            refine wp_region_lit ?_
            refine t_pure hs rfl rfl (by decide) (p_fieldAddr0 rfl rfl ft_57_0) ?_
            clear hs a
            intro a hs
            obtain ⟨t44, hv, h⟩ := h
            refine t_eff hs rfl rfl (by decide) (e_load rfl rfl ct_3 hv) ?_
            clear hs a hv
            intro a hs
            obtain ⟨t45, he, h⟩ := h
            refine t_pure hs rfl rfl (by decide) (Pure.int he (p_and rfl rfl rfl)) ?_
            clear hs a he
            intro a hs
            refine t_pure hs rfl rfl (by decide) (p_eq rfl rfl rfl) ?_
            clear hs a
            intro a hs
            refine hK19 _ _ ?_
            refine c_cond hs rfl (fun hb => ?_) (fun hb => ?_)
            · replace h := h.1 hb
              clear hb
              refine wp_exit ?_
              exact J3 _ _ (hs.to ⟨rfl, rfl, rfl, rfl, rfl, trivial⟩) h
            · replace h := h.2 hb
              clear hb
              refine wp_skip ?_
              refine hK18 _ _ ?_
              refine wp_seq_k fun K20 hK20 => ?_
              have J4 : ∀ (t56_4 : Bool) (a : Act) (w : World), Slots a 168 [(1, (Sl.val keeps1)), (5, (.pointer t32x0)), (8, (.pointer (some o8))), (37, (Sl.val script0)), (38, (.int .i64 (script0.n : Int))), (39, (.int .i64 t39_2)), (56, (.bool t56_4))] → law03_DiskApart.s4 Q X2 keeps1 t32x0 o8 script0 (script0.n : Int) t39_2 t56_4 w → K20 a w := by
                clear h hs
                intro t56_4 a w hs h
                refine hK20 _ _ ?_
                unfold law03_DiskApart.s4 at h
                refine c_cond hs rfl (fun hb => ?_) (fun hb => ?_)
                · replace h := h.1 hb
                  clear hb
                  refine wp_region_lit ?_
                  refine t_pure hs rfl rfl (by decide) (p_move rfl rfl) ?_
                  clear hs a
                  intro a hs
                  refine t_pure hs rfl rfl (by decide) (p_fieldAddr rfl rfl ft_57_2) ?_
                  clear hs a
                  intro a hs
                  obtain ⟨t59, hv, h⟩ := h
                  refine t_eff hs rfl rfl (by decide) (e_load rfl rfl ct_9 hv) ?_
                  clear hs a hv
                  intro a hs
                  refine t_pure hs rfl rfl (by decide) (p_fieldAddr rfl rfl ft_57_4) ?_
                  clear hs a
                  intro a hs
                  obtain ⟨t61, hv, h⟩ := h
                  refine t_eff hs rfl rfl (by decide) (e_load rfl rfl ct_33 hv) ?_
                  clear hs a hv
                  intro a hs
                  refine t_call hs rfl rfl (by decide) (e_call rfl rfl rfl cb_22) h ?_
                  clear hs a h
                  intro v a w hk hs
                  obtain ⟨t62, rfl, h⟩ := hk
                  exact J3 _ _ (hs.to ⟨rfl, rfl, rfl, rfl, rfl, trivial⟩) h
                · replace h := h.2 hb
                  clear hb
                  refine wp_seq_k fun K21 hK21 => ?_
                  refine wp_region_lit ?_
                  refine t_pure hs rfl rfl (by decide) (p_fieldAddr0 rfl rfl ft_57_0) ?_
                  clear hs a
                  intro a hs
                  obtain ⟨t64, hv, h⟩ := h
                  refine t_eff hs rfl rfl (by decide) (e_load rfl rfl ct_3 hv) ?_
                  clear hs a hv
                  intro a hs
                  obtain ⟨t65, he, h⟩ := h
                  refine t_pure hs rfl rfl (by decide) (Pure.int he (p_and rfl rfl rfl)) ?_
                  clear hs a he
                  intro a hs
                  refine t_pure hs rfl rfl (by decide) (p_eq rfl rfl rfl) ?_
                  clear hs a
                  intro a hs
                  refine hK21 _ _ ?_
                  refine c_cond hs rfl (fun hb => ?_) (fun hb => ?_)
                  · replace h := h.1 hb
                    clear hb
                    refine wp_region_lit ?_
                    refine t_pure hs rfl rfl (by decide) (p_move rfl rfl) ?_
                    clear hs a
                    intro a hs
                    refine t_pure hs rfl rfl (by decide) (p_fieldAddr rfl rfl ft_57_2) ?_
                    clear hs a
                    intro a hs
                    obtain ⟨t69, hv, h⟩ := h
                    refine t_eff hs rfl rfl (by decide) (e_load rfl rfl ct_9 hv) ?_
                    clear hs a hv
                    intro a hs
                    refine t_call hs rfl rfl (by decide) (e_call rfl rfl rfl cb_23) h ?_
                    clear hs a h
                    intro v a w hk hs
                    obtain ⟨t70, rfl, h⟩ := hk
                    exact J3 _ _ (hs.to ⟨rfl, rfl, rfl, rfl, rfl, trivial⟩) h
                  · replace h := h.2 hb
                    clear hb
                    refine wp_skip ?_
                    exact J3 _ _ (hs.to ⟨rfl, rfl, rfl, rfl, rfl, trivial⟩) h
              clear hK20
              refine wp_region_lit ?_
              refine t_pure hs rfl rfl (by decide) (p_fieldAddr rfl rfl ft_57_2) ?_
              clear hs a
              intro a hs
              obtain ⟨t48, hv, h⟩ := h
              refine t_eff hs rfl rfl (by decide) (e_load rfl rfl ct_9 hv) ?_
              clear hs a hv
              intro a hs
              refine t_pure hs rfl rfl (by decide) (p_lens rfl rfl st_9) ?_
              clear hs a
              intro a hs
              refine t_pure hs rfl rfl (by decide) (p_gt rfl rfl rfl) ?_
              clear hs a
              intro a hs
              refine t_pure hs rfl rfl (by decide) (p_move rfl rfl) ?_
              clear hs a
              intro a hs
              refine split_bool (decide ((0 : Int) < (t48.size : Int))) (fun hb => ?_) (fun hb => ?_)
              · replace h := h.1 hb
                rw [hb] at hs
                clear hb
                refine t_yes hs rfl ?_
                refine t_pure hs rfl rfl (by decide) (p_fieldAddr0 rfl rfl ft_57_0) ?_
                clear hs a
                intro a hs
                refine t_yes hs rfl ?_
                obtain ⟨t53, hv, h⟩ := h
                refine t_eff hs rfl rfl (by decide) (e_load rfl rfl ct_3 hv) ?_
                clear hs a hv
                intro a hs
                refine t_yes hs rfl ?_
                obtain ⟨t54, he, h⟩ := h
                refine t_pure hs rfl rfl (by decide) (Pure.int he (p_and rfl rfl rfl)) ?_
                clear hs a he
                intro a hs
                replace hs := hs.to (τ := [(1, (Sl.val keeps1)), (5, (.pointer t32x0)), (8, (.pointer (some o8))), (37, (Sl.val script0)), (38, (.int .i64 (script0.n : Int))), (39, (.int .i64 t39_2)), (51, (.bool true)), (54, (.int .i64 t54))]) ⟨rfl, rfl, rfl, rfl, rfl, rfl, rfl, rfl, trivial⟩
                refine t_yes hs rfl ?_
                refine t_pure hs rfl rfl (by decide) (p_gt rfl rfl rfl) ?_
                clear hs a
                intro a hs
                refine t_pure hs rfl rfl (by decide) (p_pick_t rfl rfl rfl) ?_
                clear hs a
                intro a hs
                exact J4 (decide ((4 : Int) < t54)) _ _ (hs.to ⟨rfl, rfl, rfl, rfl, rfl, rfl, rfl, trivial⟩) h
              · replace h := h.2 hb
                rw [hb] at hs
                clear hb
                refine t_no hs rfl rfl (by decide) ?_
                clear hs a
                intro a hs
                refine t_no hs rfl rfl (by decide) ?_
                clear hs a
                intro a hs
                refine t_no hs rfl rfl (by decide) ?_
                clear hs a
                intro a hs
                replace hs := hs.to (τ := [(1, (Sl.val keeps1)), (5, (.pointer t32x0)), (8, (.pointer (some o8))), (37, (Sl.val script0)), (38, (.int .i64 (script0.n : Int))), (39, (.int .i64 t39_2)), (51, (.bool false)), (54, undef)]) ⟨rfl, rfl, rfl, rfl, rfl, rfl, rfl, rfl, trivial⟩
                refine t_no hs rfl rfl (by decide) ?_
                clear hs a
                intro a hs
                refine t_pure hs rfl rfl (by decide) (p_pick_f rfl rfl rfl) ?_
                clear hs a
                intro a hs
                exact J4 false _ _ (hs.to ⟨rfl, rfl, rfl, rfl, rfl, rfl, rfl, trivial⟩) h
          · replace h := h.2 hb
            clear hb
            refine wp_exit ?_
            refine hK12 _ _ ?_
            refine wp_seq_k fun K22 hK22 => ?_
            refine wp_region_lit ?_
            refine t_pure hs rfl rfl (by decide) (p_move rfl rfl) ?_
            clear hs a
            intro a hs
            refine t_pure hs rfl rfl (by decide) (p_move rfl rfl) ?_
            clear hs a
            intro a hs
            refine t_call hs rfl rfl (by decide) (e_call rfl rfl rfl cb_24) h ?_
            clear hs a h
            intro v a w hk hs
            obtain ⟨t74, rfl, h⟩ := hk
            refine t_pure hs rfl rfl (by decide) (p_move rfl rfl) ?_
            clear hs a
            intro a hs
            refine t_pure hs rfl rfl (by decide) (p_move rfl rfl) ?_
            clear hs a
            intro a hs
            refine t_call hs rfl rfl (by decide) (e_call rfl rfl rfl cb_24) h ?_
            clear hs a h
            intro v a w hk hs
            obtain ⟨t77, rfl, h⟩ := hk
            refine t_pure hs rfl rfl (by decide) (p_assign rfl rfl) ?_
            clear hs a
            intro a hs
            refine t_pure hs rfl rfl (by decide) (p_assign rfl rfl) ?_
            clear hs a
            intro a hs
            refine hK22 _ _ ?_
            refine wp_seq_k fun K23 hK23 => ?_
            refine wp_seq_k fun K24 hK24 => ?_
            have J5 : ∀ (t83_5 : Bool) (a : Act) (w : World), Slots a 168 [(5, (.pointer t32x0)), (9, (.pointer t74)), (10, (.pointer t77)), (83, (.bool t83_5))] → law03_DiskApart.s5 Q X2 t32x0 t74 t77 t83_5 w → K24 a w := by
              clear h hs
              intro t83_5 a w hs h
              refine hK24 _ _ ?_
              unfold law03_DiskApart.s5 at h
              refine c_cond hs rfl (fun hb => ?_) (fun hb => ?_)
              · replace h := h.1 hb
                clear hb
                refine wp_seq_k fun K25 hK25 => ?_
                refine wp_region_lit ?_
                refine t_pure hs rfl rfl (by decide) (p_assign rfl rfl) ?_
                clear hs a
                intro a hs
                refine hK25 _ _ ?_
                refine wp_ret ?_
                refine f_ret (fn := Try.f6) hs (fun a hs => r_one hs rfl (rfl)) ⟨false, rfl, h⟩
              · replace h := h.2 hb
                clear hb
                refine wp_skip ?_
                refine hK23 _ _ ?_
                refine wp_seq_k fun K26 hK26 => ?_
                refine wp_region_lit ?_
                refine t_pure hs rfl rfl (by decide) (p_move rfl rfl) ?_
                clear hs a
                intro a hs
                refine t_call hs rfl rfl (by decide) (e_call rfl rfl rfl cb_28) h ?_
                clear hs a h
                intro v a w hk hs
                obtain ⟨t85, rfl, h⟩ := hk
                refine t_pure hs rfl rfl (by decide) (p_assign rfl rfl) ?_
                clear hs a
                intro a hs
                refine hK26 _ _ ?_
                refine wp_seq_k fun K27 hK27 => ?_
                refine wp_seq_k fun K28 hK28 => ?_
                refine wp_region_lit ?_
                refine t_pure hs rfl rfl (by decide) (p_move rfl rfl) ?_
                clear hs a
                intro a hs
                refine t_pure hs rfl rfl (by decide) (p_len rfl rfl sl_59) ?_
                clear hs a
                intro a hs
                refine t_pure hs rfl rfl (by decide) (p_move rfl rfl) ?_
                clear hs a
                intro a hs
                refine hK28 _ _ ?_
                refine wp_block ?_
                obtain ⟨I6, μ6, h0, hr⟩ := h
                refine c_loop (α := Int) I6 μ6 (fun x a => Slots a 168 [(5, (.pointer t32x0)), (9, (.pointer t74)), (10, (.pointer t77)), (11, (Sl.val t85)), (86, (Sl.val t85)), (87, (.int .i64 (t85.n : Int))), (88, (.int .i64 x))]) 0 h0 (hs.to ⟨rfl, rfl, rfl, rfl, rfl, rfl, rfl, trivial⟩) ?_
                clear h0 hs a
                intro t88_6 a w hI hs
                have h : law03_DiskApart.b6 Q X2 (fun t88_6n w' => I6 t88_6n w' ∧ μ6 t88_6n w' < μ6 t88_6 w) t32x0 t74 t77 t85 t85 (t85.n : Int) t88_6 w := hr t88_6 w hI
                clear hr hI
                generalize hX6 : (fun t88_6n w' => I6 t88_6n w' ∧ μ6 t88_6n w' < μ6 t88_6 w) = X6 at h
                unfold law03_DiskApart.b6 at h
                replace hs : Slots a 168 [(5, (.pointer t32x0)), (9, (.pointer t74)), (10, (.pointer t77)), (11, (Sl.val t85)), (86, (Sl.val t85)), (87, (.int .i64 (t85.n : Int))), (88, (.int .i64 t88_6))] := hs
                refine wp_seq_k fun K29 hK29 => ?_
                refine wp_region_lit ?_
                refine t_pure hs rfl rfl (by decide) (p_lt rfl rfl rfl) ?_
                clear hs a
                intro a hs
                refine hK29 _ _ ?_
                refine wp_seq_k fun K30 hK30 => ?_
                refine c_cond hs rfl (fun hb => ?_) (fun hb => ?_)
                · replace h := h.1 hb
                  clear hb
                  refine wp_skip ?_
                  refine hK30 _ _ ?_
                  refine wp_seq_k fun K31 hK31 => ?_
                  refine wp_block ?_
                  refine wp_seq_k fun K32 hK32 => ?_
                  refine wp_region_lit ?_
                  obtain ⟨qt90, t90, ha, h0, h1, he, h⟩ := h
                  refine t_pure hs rfl rfl (by decide) (Pure.adr he (p_idx rfl rfl rfl sl_59 ha h0 h1)) ?_
                  clear hs a ha h0 h1 he
                  intro a hs
                  obtain ⟨t91, hv, h⟩ := h
                  refine t_eff hs rfl rfl (by decide) (e_load rfl rfl ct_9 hv) ?_
                  clear hs a hv
                  intro a hs
                  refine t_pure hs rfl rfl (by decide) (p_assign rfl rfl) ?_
                  clear hs a
                  intro a hs
                  refine hK32 _ _ ?_
                  refine wp_seq_k fun K33 hK33 => ?_
                  refine wp_region_lit ?_
                  refine t_pure hs rfl rfl (by decide) (p_move rfl rfl) ?_
                  clear hs a
                  intro a hs
                  refine t_pure hs rfl rfl (by decide) (p_move rfl rfl) ?_
                  clear hs a
                  intro a hs
                  refine t_call hs rfl rfl (by decide) (e_call rfl rfl rfl cb_25) h ?_
                  clear hs a h
                  intro v a w hk hs
                  obtain ⟨t95x0, t95x1, rfl, h⟩ := hk
                  refine t_pure hs rfl rfl (by decide) (p_move rfl rfl) ?_
                  clear hs a
                  intro a hs
                  refine t_pure hs rfl rfl (by decide) (p_extract rfl rfl rfl) ?_
                  clear hs a
                  intro a hs
                  refine t_pure hs rfl rfl (by decide) (p_extract rfl rfl rfl) ?_
                  clear hs a
                  intro a hs
                  refine t_pure hs rfl rfl (by decide) (p_assign rfl rfl) ?_
                  clear hs a
                  intro a hs
                  refine t_pure hs rfl rfl (by decide) (p_assign rfl rfl) ?_
                  clear hs a
                  intro a hs
                  refine hK33 _ _ ?_
                  refine wp_seq_k fun K34 hK34 => ?_
                  refine wp_region_lit ?_
                  refine t_pure hs rfl rfl (by decide) (p_move rfl rfl) ?_
                  clear hs a
                  intro a hs
                  refine t_pure hs rfl rfl (by decide) (p_move rfl rfl) ?_
                  clear hs a
                  intro a hs
                  refine t_call hs rfl rfl (by decide) (e_call rfl rfl rfl cb_25) h ?_
                  clear hs a h
                  intro v a w hk hs
                  obtain ⟨t101x0, t101x1, rfl, h⟩ := hk
                  refine t_pure hs rfl rfl (by decide) (p_move rfl rfl) ?_
                  clear hs a
                  intro a hs
                  refine t_pure hs rfl rfl (by decide) (p_extract rfl rfl rfl) ?_
                  clear hs a
                  intro a hs
                  refine t_pure hs rfl rfl (by decide) (p_extract rfl rfl rfl) ?_
                  clear hs a
                  intro a hs
                  refine t_pure hs rfl rfl (by decide) (p_assign rfl rfl) ?_
                  clear hs a
                  intro a hs
                  refine t_pure hs rfl rfl (by decide) (p_assign rfl rfl) ?_
                  clear hs a
                  intro a hs
                  refine hK34 _ _ ?_
                  refine wp_seq_k fun K35 hK35 => ?_
                  refine wp_region_lit ?_
                  refine t_pure hs rfl rfl (by decide) (p_move rfl rfl) ?_
                  clear hs a
                  intro a hs
                  refine t_pure hs rfl rfl (by decide) (p_move rfl rfl) ?_
                  clear hs a
                  intro a hs
                  obtain ⟨t106, w1, ha, hw, h⟩ := h
                  refine t_eff hs rfl rfl (by decide) (e_buildSlice (z := #[(.int .u8 0), (.int .u8 0), (.int .u8 0), (.int .u8 0)]) (cs := #[(.int .u8 109), (.int .u8 111), (.int .u8 114), (.int .u8 101)]) rfl sl_33 zt_5 (by decide) rfl rz_5_4 (by rfl) ha hw) ?_
                  clear hs a ha hw
                  intro a hs
                  obtain ⟨t107, w1, hd, h⟩ := h
                  refine t_eff hs rfl rfl (by decide) (e_convert rfl rfl hd) ?_
                  clear hs a hd
                  intro a hs
                  refine t_call hs rfl rfl (by decide) (e_call rfl rfl rfl cb_22) h ?_
                  clear hs a h
                  intro v a w hk hs
                  obtain ⟨t108, rfl, h⟩ := hk
                  refine hK35 _ _ ?_
                  refine wp_seq_k fun K36 hK36 => ?_
                  refine wp_region_lit ?_
                  refine t_pure hs rfl rfl (by decide) (p_move rfl rfl) ?_
                  clear hs a
                  intro a hs
                  refine t_pure hs rfl rfl (by decide) (p_move rfl rfl) ?_
                  clear hs a
                  intro a hs
                  refine t_call hs rfl rfl (by decide) (e_call rfl rfl rfl cb_23) h ?_
                  clear hs a h
                  intro v a w hk hs
                  obtain ⟨t111, rfl, h⟩ := hk
                  refine hK36 _ _ ?_
                  refine wp_seq_k fun K37 hK37 => ?_
                  refine wp_region_lit ?_
                  refine t_pure hs rfl rfl (by decide) (p_move rfl rfl) ?_
                  clear hs a
                  intro a hs
                  refine t_pure hs rfl rfl (by decide) (p_move rfl rfl) ?_
                  clear hs a
                  intro a hs
                  refine t_call hs rfl rfl (by decide) (e_call rfl rfl rfl cb_25) h ?_
                  clear hs a h
                  intro v a w hk hs
                  obtain ⟨t115x0, t115x1, rfl, h⟩ := hk
                  refine t_pure hs rfl rfl (by decide) (p_move rfl rfl) ?_
                  clear hs a
                  intro a hs
                  refine t_pure hs rfl rfl (by decide) (p_extract rfl rfl rfl) ?_
                  clear hs a
                  intro a hs
                  refine t_pure hs rfl rfl (by decide) (p_extract rfl rfl rfl) ?_
                  clear hs a
                  intro a hs
                  refine t_pure hs rfl rfl (by decide) (p_assign rfl rfl) ?_
                  clear hs a
                  intro a hs
                  refine t_pure hs rfl rfl (by decide) (p_assign rfl rfl) ?_
                  clear hs a
                  intro a hs
                  refine hK37 _ _ ?_
                  refine wp_seq_k fun K38 hK38 => ?_
                  refine wp_region_lit ?_
                  refine t_pure hs rfl rfl (by decide) (p_move rfl rfl) ?_
                  clear hs a
                  intro a hs
                  refine t_pure hs rfl rfl (by decide) (p_move rfl rfl) ?_
                  clear hs a
                  intro a hs
                  refine t_call hs rfl rfl (by decide) (e_call rfl rfl rfl cb_25) h ?_
                  clear hs a h
                  intro v a w hk hs
                  obtain ⟨t121x0, t121x1, rfl, h⟩ := hk
                  refine t_pure hs rfl rfl (by decide) (p_move rfl rfl) ?_
                  clear hs a
                  intro a hs
                  refine t_pure hs rfl rfl (by decide) (p_extract rfl rfl rfl) ?_
                  clear hs a
                  intro a hs
                  refine t_pure hs rfl rfl (by decide) (p_extract rfl rfl rfl) ?_
                  clear hs a
                  intro a hs
                  refine t_pure hs rfl rfl (by decide) (p_assign rfl rfl) ?_
                  clear hs a
                  intro a hs
                  refine t_pure hs rfl rfl (by decide) (p_assign rfl rfl) ?_
                  clear hs a
                  intro a hs
                  refine hK38 _ _ ?_
                  refine wp_seq_k fun K39 hK39 => ?_
                  have J7 : ∀ (t152_7 : Bool) (a : Act) (w : World), Slots a 168 [(5, (.pointer t32x0)), (9, (.pointer t74)), (10, (.pointer t77)), (11, (Sl.val t85)), (86, (Sl.val t85)), (87, (.int .i64 (t85.n : Int))), (88, (.int .i64 t88_6)), (152, (.bool t152_7))] → law03_DiskApart.s7 Q X2 X6 t32x0 t74 t77 t85 t85 (t85.n : Int) t88_6 t152_7 w → K39 a w := by
                    clear h hs
                    intro t152_7 a w hs h
                    refine hK39 _ _ ?_
                    unfold law03_DiskApart.s7 at h
                    refine c_cond hs rfl (fun hb => ?_) (fun hb => ?_)
                    · replace h := h.1 hb
                      clear hb
                      refine wp_seq_k fun K40 hK40 => ?_
                      refine wp_region_lit ?_
                      refine t_pure hs rfl rfl (by decide) (p_assign rfl rfl) ?_
                      clear hs a
                      intro a hs
                      refine hK40 _ _ ?_
                      refine wp_ret ?_
                      refine f_ret (fn := Try.f6) hs (fun a hs => r_one hs rfl (rfl)) ⟨false, rfl, h⟩
                    · replace h := h.2 hb
                      clear hb
                      refine wp_skip ?_
                      refine hK31 _ _ ?_
                      refine wp_region_lit ?_
                      obtain ⟨t153, he, h⟩ := h
                      refine t_pure hs rfl rfl (by decide) (Pure.int he (p_add rfl rfl rfl)) ?_
                      clear hs a he
                      intro a hs
                      refine t_pure hs rfl rfl (by decide) (p_move rfl rfl) ?_
                      clear hs a
                      intro a hs
                      rw [← hX6] at h
                      exact ⟨t153, hs.to ⟨rfl, rfl, rfl, rfl, rfl, rfl, rfl, trivial⟩, h⟩
                  clear hK39
                  obtain ⟨w1, hw1, h⟩ := h
                  refine s_start mixed (by kernel_rfl) hw1 ?_
                  clear hw1
                  refine s_pure hs rfl rfl (by decide) (p_move rfl rfl) ?_
                  clear hs a
                  intro a hs
                  obtain ⟨t125, hd, h⟩ := h
                  refine s_eff hs rfl rfl (by decide) (e_convert rfl rfl hd) ?_
                  clear hs a hd
                  intro a hs
                  refine s_pure hs rfl rfl (by decide) (p_move rfl rfl) ?_
                  clear hs a
                  intro a hs
                  obtain ⟨t127, hd, h⟩ := h
                  refine s_eff hs rfl rfl (by decide) (e_convert rfl rfl hd) ?_
                  clear hs a hd
                  intro a hs
                  refine s_pure hs rfl rfl (by decide) (p_nes rfl rfl rfl) ?_
                  clear hs a
                  intro a hs
                  refine s_pure hs rfl rfl (by decide) (p_move rfl rfl) ?_
                  clear hs a
                  intro a hs
                  refine split_bool (!(t125.toList == t127.toList)) (fun hb => ?_) (fun hb => ?_)
                  · replace h := h.1 hb
                    rw [hb] at hs
                    clear hb
                    refine s_no hs rfl rfl (by decide) ?_
                    clear hs a
                    intro a hs
                    refine s_no hs rfl rfl (by decide) ?_
                    clear hs a
                    intro a hs
                    replace hs := hs.to (τ := [(5, (.pointer t32x0)), (9, (.pointer t74)), (10, (.pointer t77)), (11, (Sl.val t85)), (14, (Sl.val t95x0)), (16, (Sl.val t101x0)), (20, (Sl.val t121x0)), (86, (Sl.val t85)), (87, (.int .i64 (t85.n : Int))), (88, (.int .i64 t88_6)), (129, (.bool true)), (131, undef)]) ⟨rfl, rfl, rfl, rfl, rfl, rfl, rfl, rfl, rfl, rfl, rfl, rfl, trivial⟩
                    refine s_no hs rfl rfl (by decide) ?_
                    clear hs a
                    intro a hs
                    refine s_no hs rfl rfl (by decide) ?_
                    clear hs a
                    intro a hs
                    refine s_no hs rfl rfl (by decide) ?_
                    clear hs a
                    intro a hs
                    refine s_pure hs rfl rfl (by decide) (p_pick_t rfl rfl rfl) ?_
                    clear hs a
                    intro a hs
                    refine s_pure hs rfl rfl (by decide) (p_move rfl rfl) ?_
                    clear hs a
                    intro a hs
                    refine s_no hs rfl rfl (by decide) ?_
                    clear hs a
                    intro a hs
                    refine s_no hs rfl rfl (by decide) ?_
                    clear hs a
                    intro a hs
                    refine s_no hs rfl rfl (by decide) ?_
                    clear hs a
                    intro a hs
                    replace hs := hs.to (τ := [(5, (.pointer t32x0)), (9, (.pointer t74)), (10, (.pointer t77)), (11, (Sl.val t85)), (14, (Sl.val t95x0)), (16, (Sl.val t101x0)), (86, (Sl.val t85)), (87, (.int .i64 (t85.n : Int))), (88, (.int .i64 t88_6)), (136, (.bool true)), (138, undef), (139, undef)]) ⟨rfl, rfl, rfl, rfl, rfl, rfl, rfl, rfl, rfl, rfl, rfl, rfl, trivial⟩
                    refine s_no hs rfl rfl (by decide) ?_
                    clear hs a
                    intro a hs
                    refine s_no hs rfl rfl (by decide) ?_
                    clear hs a
                    intro a hs
                    refine s_pure hs rfl rfl (by decide) (p_pick_t rfl rfl rfl) ?_
                    clear hs a
                    intro a hs
                    refine s_pure hs rfl rfl (by decide) (p_move rfl rfl) ?_
                    clear hs a
                    intro a hs
                    refine s_no hs rfl rfl (by decide) ?_
                    clear hs a
                    intro a hs
                    refine s_no hs rfl rfl (by decide) ?_
                    clear hs a
                    intro a hs
                    refine s_no hs rfl rfl (by decide) ?_
                    clear hs a
                    intro a hs
                    refine s_no hs rfl rfl (by decide) ?_
                    clear hs a
                    intro a hs
                    replace hs := hs.to (τ := [(5, (.pointer t32x0)), (9, (.pointer t74)), (10, (.pointer t77)), (11, (Sl.val t85)), (14, (Sl.val t95x0)), (86, (Sl.val t85)), (87, (.int .i64 (t85.n : Int))), (88, (.int .i64 t88_6)), (143, (.bool true)), (147, undef)]) ⟨rfl, rfl, rfl, rfl, rfl, rfl, rfl, rfl, rfl, rfl, trivial⟩
                    refine s_no hs rfl rfl (by decide) ?_
                    clear hs a
                    intro a hs
                    refine s_no hs rfl rfl (by decide) ?_
                    clear hs a
                    intro a hs
                    refine s_no hs rfl rfl (by decide) ?_
                    clear hs a
                    intro a hs
                    refine s_no hs rfl rfl (by decide) ?_
                    clear hs a
                    intro a hs
                    refine s_pure hs rfl rfl (by decide) (p_pick_t rfl rfl rfl) ?_
                    clear hs a
                    intro a hs
                    exact J7 true _ _ (hs.to ⟨rfl, rfl, rfl, rfl, rfl, rfl, rfl, rfl, trivial⟩) h
                  · replace h := h.2 hb
                    rw [hb] at hs
                    clear hb
                    refine s_yes hs rfl ?_
                    refine s_pure hs rfl rfl (by decide) (p_move rfl rfl) ?_
                    clear hs a
                    intro a hs
                    refine s_yes hs rfl ?_
                    obtain ⟨t131, hd, h⟩ := h
                    refine s_eff hs rfl rfl (by decide) (e_convert rfl rfl hd) ?_
                    clear hs a hd
                    intro a hs
                    replace hs := hs.to (τ := [(5, (.pointer t32x0)), (9, (.pointer t74)), (10, (.pointer t77)), (11, (Sl.val t85)), (14, (Sl.val t95x0)), (16, (Sl.val t101x0)), (20, (Sl.val t121x0)), (86, (Sl.val t85)), (87, (.int .i64 (t85.n : Int))), (88, (.int .i64 t88_6)), (129, (.bool false)), (131, (.string t131))]) ⟨rfl, rfl, rfl, rfl, rfl, rfl, rfl, rfl, rfl, rfl, rfl, rfl, trivial⟩
                    refine s_yes hs rfl ?_
                    refine s_pure hs rfl rfl (by decide) (p_move rfl rfl) ?_
                    clear hs a
                    intro a hs
                    refine s_yes hs rfl ?_
                    obtain ⟨t133, hd, h⟩ := h
                    refine s_eff hs rfl rfl (by decide) (e_convert rfl rfl hd) ?_
                    clear hs a hd
                    intro a hs
                    refine s_yes hs rfl ?_
                    refine s_pure hs rfl rfl (by decide) (p_nes rfl rfl rfl) ?_
                    clear hs a
                    intro a hs
                    refine s_pure hs rfl rfl (by decide) (p_pick_f rfl rfl rfl) ?_
                    clear hs a
                    intro a hs
                    refine s_pure hs rfl rfl (by decide) (p_move rfl rfl) ?_
                    clear hs a
                    intro a hs
                    refine split_bool (!(t131.toList == t133.toList)) (fun hb => ?_) (fun hb => ?_)
                    · replace h := h.1 hb
                      rw [hb] at hs
                      clear hb
                      refine s_no hs rfl rfl (by decide) ?_
                      clear hs a
                      intro a hs
                      refine s_no hs rfl rfl (by decide) ?_
                      clear hs a
                      intro a hs
                      refine s_no hs rfl rfl (by decide) ?_
                      clear hs a
                      intro a hs
                      replace hs := hs.to (τ := [(5, (.pointer t32x0)), (9, (.pointer t74)), (10, (.pointer t77)), (11, (Sl.val t85)), (14, (Sl.val t95x0)), (16, (Sl.val t101x0)), (86, (Sl.val t85)), (87, (.int .i64 (t85.n : Int))), (88, (.int .i64 t88_6)), (136, (.bool true)), (138, undef), (139, undef)]) ⟨rfl, rfl, rfl, rfl, rfl, rfl, rfl, rfl, rfl, rfl, rfl, rfl, trivial⟩
                      refine s_no hs rfl rfl (by decide) ?_
                      clear hs a
                      intro a hs
                      refine s_no hs rfl rfl (by decide) ?_
                      clear hs a
                      intro a hs
                      refine s_pure hs rfl rfl (by decide) (p_pick_t rfl rfl rfl) ?_
                      clear hs a
                      intro a hs
                      refine s_pure hs rfl rfl (by decide) (p_move rfl rfl) ?_
                      clear hs a
                      intro a hs
                      refine s_no hs rfl rfl (by decide) ?_
                      clear hs a
                      intro a hs
                      refine s_no hs rfl rfl (by decide) ?_
                      clear hs a
                      intro a hs
                      refine s_no hs rfl rfl (by decide) ?_
                      clear hs a
                      intro a hs
                      refine s_no hs rfl rfl (by decide) ?_
                      clear hs a
                      intro a hs
                      replace hs := hs.to (τ := [(5, (.pointer t32x0)), (9, (.pointer t74)), (10, (.pointer t77)), (11, (Sl.val t85)), (14, (Sl.val t95x0)), (86, (Sl.val t85)), (87, (.int .i64 (t85.n : Int))), (88, (.int .i64 t88_6)), (143, (.bool true)), (147, undef)]) ⟨rfl, rfl, rfl, rfl, rfl, rfl, rfl, rfl, rfl, rfl, trivial⟩
                      refine s_no hs rfl rfl (by decide) ?_
                      clear hs a
                      intro a hs
                      refine s_no hs rfl rfl (by decide) ?_
                      clear hs a
                      intro a hs
                      refine s_no hs rfl rfl (by decide) ?_
                      clear hs a
                      intro a hs
                      refine s_no hs rfl rfl (by decide) ?_
                      clear hs a
                      intro a hs
                      refine s_pure hs rfl rfl (by decide) (p_pick_t rfl rfl rfl) ?_
                      clear hs a
                      intro a hs
                      exact J7 true _ _ (hs.to ⟨rfl, rfl, rfl, rfl, rfl, rfl, rfl, rfl, trivial⟩) h
                    · replace h := h.2 hb
                      rw [hb] at hs
                      clear hb
                      refine s_yes hs rfl ?_
                      refine s_pure hs rfl rfl (by decide) (p_move rfl rfl) ?_
                      clear hs a
                      intro a hs
                      refine s_yes hs rfl ?_
                      refine s_pure hs rfl rfl (by decide) (p_len rfl rfl sl_33) ?_
                      clear hs a
                      intro a hs
                      refine s_yes hs rfl ?_
                      refine s_pure hs rfl rfl (by decide) (p_move rfl rfl) ?_
                      clear hs a
                      intro a hs
                      replace hs := hs.to (τ := [(5, (.pointer t32x0)), (9, (.pointer t74)), (10, (.pointer t77)), (11, (Sl.val t85)), (14, (Sl.val t95x0)), (16, (Sl.val t101x0)), (86, (Sl.val t85)), (87, (.int .i64 (t85.n : Int))), (88, (.int .i64 t88_6)), (136, (.bool false)), (138, (.int .i64 (t95x0.n : Int))), (139, (Sl.val t101x0))]) ⟨rfl, rfl, rfl, rfl, rfl, rfl, rfl, rfl, rfl, rfl, rfl, rfl, trivial⟩
                      refine s_yes hs rfl ?_
                      refine s_pure hs rfl rfl (by decide) (p_len rfl rfl sl_33) ?_
                      clear hs a
                      intro a hs
                      refine s_yes hs rfl ?_
                      refine s_pure hs rfl rfl (by decide) (p_gt rfl rfl rfl) ?_
                      clear hs a
                      intro a hs
                      refine s_pure hs rfl rfl (by decide) (p_pick_f rfl rfl rfl) ?_
                      clear hs a
                      intro a hs
                      refine s_pure hs rfl rfl (by decide) (p_move rfl rfl) ?_
                      clear hs a
                      intro a hs
                      refine split_bool (decide ((t101x0.n : Int) < (t95x0.n : Int))) (fun hb => ?_) (fun hb => ?_)
                      · replace h := h.1 hb
                        rw [hb] at hs
                        clear hb
                        refine s_no hs rfl rfl (by decide) ?_
                        clear hs a
                        intro a hs
                        refine s_no hs rfl rfl (by decide) ?_
                        clear hs a
                        intro a hs
                        refine s_no hs rfl rfl (by decide) ?_
                        clear hs a
                        intro a hs
                        refine s_no hs rfl rfl (by decide) ?_
                        clear hs a
                        intro a hs
                        replace hs := hs.to (τ := [(5, (.pointer t32x0)), (9, (.pointer t74)), (10, (.pointer t77)), (11, (Sl.val t85)), (14, (Sl.val t95x0)), (86, (Sl.val t85)), (87, (.int .i64 (t85.n : Int))), (88, (.int .i64 t88_6)), (143, (.bool true)), (147, undef)]) ⟨rfl, rfl, rfl, rfl, rfl, rfl, rfl, rfl, rfl, rfl, trivial⟩
                        refine s_no hs rfl rfl (by decide) ?_
                        clear hs a
                        intro a hs
                        refine s_no hs rfl rfl (by decide) ?_
                        clear hs a
                        intro a hs
                        refine s_no hs rfl rfl (by decide) ?_
                        clear hs a
                        intro a hs
                        refine s_no hs rfl rfl (by decide) ?_
                        clear hs a
                        intro a hs
                        refine s_pure hs rfl rfl (by decide) (p_pick_t rfl rfl rfl) ?_
                        clear hs a
                        intro a hs
                        exact J7 true _ _ (hs.to ⟨rfl, rfl, rfl, rfl, rfl, rfl, rfl, rfl, trivial⟩) h
                      · replace h := h.2 hb
                        rw [hb] at hs
                        clear hb
                        refine s_yes hs rfl ?_
                        refine s_pure hs rfl rfl (by decide) (p_move rfl rfl) ?_
                        clear hs a
                        intro a hs
                        refine s_yes hs rfl ?_
                        refine s_pure hs rfl rfl (by decide) (p_move rfl rfl) ?_
                        clear hs a
                        intro a hs
                        refine s_yes hs rfl ?_
                        refine s_pure hs rfl rfl (by decide) (p_len rfl rfl sl_33) ?_
                        clear hs a
                        intro a hs
                        refine s_yes hs rfl ?_
                        obtain ⟨t147, h0, h1, h2, h3, he, h⟩ := h
                        refine s_pure hs rfl rfl (by decide) (Pure.sl he (p_slc rfl rfl sl_33 rfl ⟨_, rfl⟩ rfl (by decide) h0 h1 h2 h3)) ?_
                        clear hs a h0 h1 h2 h3 he
                        intro a hs
                        replace hs := hs.to (τ := [(5, (.pointer t32x0)), (9, (.pointer t74)), (10, (.pointer t77)), (11, (Sl.val t85)), (14, (Sl.val t95x0)), (86, (Sl.val t85)), (87, (.int .i64 (t85.n : Int))), (88, (.int .i64 t88_6)), (143, (.bool false)), (147, (Sl.val t147))]) ⟨rfl, rfl, rfl, rfl, rfl, rfl, rfl, rfl, rfl, rfl, trivial⟩
                        refine s_yes hs rfl ?_
                        obtain ⟨t148, hd, h⟩ := h
                        refine s_eff hs rfl rfl (by decide) (e_convert rfl rfl hd) ?_
                        clear hs a hd
                        intro a hs
                        refine s_yes hs rfl ?_
                        refine s_pure hs rfl rfl (by decide) (p_move rfl rfl) ?_
                        clear hs a
                        intro a hs
                        refine s_yes hs rfl ?_
                        obtain ⟨t150, hd, h⟩ := h
                        refine s_eff hs rfl rfl (by decide) (e_convert rfl rfl hd) ?_
                        clear hs a hd
                        intro a hs
                        refine s_yes hs rfl ?_
                        refine s_pure hs rfl rfl (by decide) (p_nes rfl rfl rfl) ?_
                        clear hs a
                        intro a hs
                        refine s_pure hs rfl rfl (by decide) (p_pick_f rfl rfl rfl) ?_
                        clear hs a
                        intro a hs
                        exact J7 (!(t148.toList == t150.toList)) _ _ (hs.to ⟨rfl, rfl, rfl, rfl, rfl, rfl, rfl, rfl, trivial⟩) h
                · replace h := h.2 hb
                  clear hb
                  refine wp_exit ?_
                  refine hK27 _ _ ?_
                  refine wp_seq_k fun K41 hK41 => ?_
                  have J8 : ∀ (t4_8 : Bool) (a : Act) (w : World), Slots a 168 [(4, (.bool t4_8))] → law03_DiskApart.s8 Q X2 X6 t4_8 w → K41 a w := by
                    clear h hs
                    intro t4_8 a w hs h
                    refine hK41 _ _ ?_
                    unfold law03_DiskApart.s8 at h
                    refine wp_ret ?_
                    refine f_ret (fn := Try.f6) hs (fun a hs => r_one hs rfl (rfl)) ⟨t4_8, rfl, h⟩
                  clear hK41
                  refine wp_region_lit ?_
                  refine t_pure hs rfl rfl (by decide) (p_move rfl rfl) ?_
                  clear hs a
                  intro a hs
                  refine t_call hs rfl rfl (by decide) (e_call rfl rfl rfl cb_28) h ?_
                  clear hs a h
                  intro v a w hk hs
                  obtain ⟨t155, rfl, h⟩ := hk
                  refine t_pure hs rfl rfl (by decide) (p_len rfl rfl sl_59) ?_
                  clear hs a
                  intro a hs
                  refine t_pure hs rfl rfl (by decide) (p_move rfl rfl) ?_
                  clear hs a
                  intro a hs
                  refine t_pure hs rfl rfl (by decide) (p_len rfl rfl sl_59) ?_
                  clear hs a
                  intro a hs
                  refine t_pure hs rfl rfl (by decide) (p_eq rfl rfl rfl) ?_
                  clear hs a
                  intro a hs
                  refine t_pure hs rfl rfl (by decide) (p_move rfl rfl) ?_
                  clear hs a
                  intro a hs
                  refine split_bool (decide ((t155.n : Int) = (t85.n : Int))) (fun hb => ?_) (fun hb => ?_)
                  · replace h := h.1 hb
                    rw [hb] at hs
                    clear hb
                    refine t_yes hs rfl ?_
                    refine t_pure hs rfl rfl (by decide) (p_move rfl rfl) ?_
                    clear hs a
                    intro a hs
                    replace hs := hs.to (τ := [(11, (Sl.val t85)), (160, (.bool true)), (161, (.pointer t77))]) ⟨rfl, rfl, rfl, trivial⟩
                    refine t_yes hs rfl ?_
                    refine t_call hs rfl rfl (by decide) (e_call rfl rfl rfl cb_28) h ?_
                    clear hs a h
                    intro v a w hk hs
                    obtain ⟨t162, rfl, h⟩ := hk
                    refine t_yes hs rfl ?_
                    refine t_pure hs rfl rfl (by decide) (p_len rfl rfl sl_59) ?_
                    clear hs a
                    intro a hs
                    refine t_yes hs rfl ?_
                    refine t_pure hs rfl rfl (by decide) (p_move rfl rfl) ?_
                    clear hs a
                    intro a hs
                    refine t_yes hs rfl ?_
                    refine t_pure hs rfl rfl (by decide) (p_len rfl rfl sl_59) ?_
                    clear hs a
                    intro a hs
                    refine t_yes hs rfl ?_
                    refine t_pure hs rfl rfl (by decide) (p_eq rfl rfl rfl) ?_
                    clear hs a
                    intro a hs
                    refine t_pure hs rfl rfl (by decide) (p_pick_t rfl rfl rfl) ?_
                    clear hs a
                    intro a hs
                    refine t_pure hs rfl rfl (by decide) (p_assign rfl rfl) ?_
                    clear hs a
                    intro a hs
                    exact J8 (decide ((t162.n : Int) = (t85.n : Int))) _ _ (hs.to ⟨rfl, trivial⟩) h
                  · replace h := h.2 hb
                    rw [hb] at hs
                    clear hb
                    refine t_no hs rfl rfl (by decide) ?_
                    clear hs a
                    intro a hs
                    replace hs := hs.to (τ := [(11, (Sl.val t85)), (160, (.bool false)), (161, undef)]) ⟨rfl, rfl, rfl, trivial⟩
                    refine t_no hs rfl rfl (by decide) ?_
                    clear hs a
                    intro a hs
                    refine t_no hs rfl rfl (by decide) ?_
                    clear hs a
                    intro a hs
                    refine t_no hs rfl rfl (by decide) ?_
                    clear hs a
                    intro a hs
                    refine t_no hs rfl rfl (by decide) ?_
                    clear hs a
                    intro a hs
                    refine t_no hs rfl rfl (by decide) ?_
                    clear hs a
                    intro a hs
                    refine t_pure hs rfl rfl (by decide) (p_pick_f rfl rfl rfl) ?_
                    clear hs a
                    intro a hs
                    refine t_pure hs rfl rfl (by decide) (p_assign rfl rfl) ?_
                    clear hs a
                    intro a hs
                    exact J8 false _ _ (hs.to ⟨rfl, trivial⟩) h
            clear hK24
            refine wp_region_lit ?_
            refine t_pure hs rfl rfl (by decide) (p_move rfl rfl) ?_
            clear hs a
            intro a hs
            refine t_pure hs rfl rfl (by decide) (p_eq_nil rfl rfl rfl Try.underlying45) ?_
            clear hs a
            intro a hs
            refine t_pure hs rfl rfl (by decide) (p_move rfl rfl) ?_
            clear hs a
            intro a hs
            refine split_bool ((t74).isNone) (fun hb => ?_) (fun hb => ?_)
            · replace h := h.1 hb
              rw [hb] at hs
              clear hb
              refine t_no hs rfl rfl (by decide) ?_
              clear hs a
              intro a hs
              refine t_no hs rfl rfl (by decide) ?_
              clear hs a
              intro a hs
              refine t_pure hs rfl rfl (by decide) (p_pick_t rfl rfl rfl) ?_
              clear hs a
              intro a hs
              exact J5 true _ _ (hs.to ⟨rfl, rfl, rfl, rfl, trivial⟩) h
            · replace h := h.2 hb
              rw [hb] at hs
              clear hb
              refine t_yes hs rfl ?_
              refine t_pure hs rfl rfl (by decide) (p_move rfl rfl) ?_
              clear hs a
              intro a hs
              refine t_yes hs rfl ?_
              refine t_pure hs rfl rfl (by decide) (p_eq_nil rfl rfl rfl Try.underlying45) ?_
              clear hs a
              intro a hs
              refine t_pure hs rfl rfl (by decide) (p_pick_f rfl rfl rfl) ?_
              clear hs a
              intro a hs
              exact J5 ((t77).isNone) _ _ (hs.to ⟨rfl, rfl, rfl, rfl, trivial⟩) h
    clear hK6
    refine wp_region_lit ?_
    refine t_pure hs rfl rfl (by decide) (p_move rfl rfl) ?_
    clear hs a
    intro a hs
    refine t_call hs rfl rfl (by decide) (e_call rfl rfl rfl cb_26) h ?_
    clear hs a h
    intro v a w hk hs
    obtain ⟨t25, rfl, h⟩ := hk
    refine t_pure hs rfl rfl (by decide) (p_move rfl rfl) ?_
    clear hs a
    intro a hs
    refine split_bool t25 (fun hb => ?_) (fun hb => ?_)
    · replace h := h.1 hb
      rw [hb] at hs
      clear hb
      refine t_no hs rfl rfl (by decide) ?_
      clear hs a
      intro a hs
      refine t_no hs rfl rfl (by decide) ?_
      clear hs a
      intro a hs
      refine t_no hs rfl rfl (by decide) ?_
      clear hs a
      intro a hs
      refine t_pure hs rfl rfl (by decide) (p_pick_t rfl rfl rfl) ?_
      clear hs a
      intro a hs
      exact J1 true _ _ (hs.to ⟨rfl, rfl, rfl, trivial⟩) h
    · replace h := h.2 hb
      rw [hb] at hs
      clear hb
      refine t_yes hs rfl ?_
      refine t_pure hs rfl rfl (by decide) (p_move rfl rfl) ?_
      clear hs a
      intro a hs
      refine t_yes hs rfl ?_
      refine t_pure hs rfl rfl (by decide) (p_len rfl rfl sl_44) ?_
      clear hs a
      intro a hs
      refine t_yes hs rfl ?_
      refine t_pure hs rfl rfl (by decide) (p_gt rfl rfl rfl) ?_
      clear hs a
      intro a hs
      refine t_pure hs rfl rfl (by decide) (p_pick_f rfl rfl rfl) ?_
      clear hs a
      intro a hs
      exact J1 (decide ((100 : Int) < (keeps1.n : Int))) _ _ (hs.to ⟨rfl, rfl, rfl, trivial⟩) h
def law03_DiskTwice.s3 (Q : Bool → K) (X2 : Int → K) (first1_3 : Sl) (second2_3 : Sl) (d7_3 : (Option Addr)) (t39_3 : Sl) (t40_3 : Int) (t41_3 : Int) : K :=
  Ar (IntKind.wrap .i64 (t41_3 + 1)) fun t59 =>
  X2 t59
def law03_DiskTwice.s6 (Q : Bool → K) (X2 : Int → K) (X5 : Int → K) (x11_6 : (Option Addr)) (y12_6 : (Option Addr)) (t78_6 : Sl) (t79_6 : Int) (t80_6 : Int) (t108_6 : Bool) : K :=
  Ite t108_6
    (Q false)
    (Ar (IntKind.wrap .i64 (t80_6 + 1)) fun t109 =>
    X5 t109)
def law03_DiskTwice.b5 (Q : Bool → K) (X2 : Int → K) (X5 : Int → K) (x11_5 : (Option Addr)) (y12_5 : (Option Addr)) (t78_5 : Sl) (t79_5 : Int) (t80_5 : Int) : K :=
  Ite (decide (t80_5 < t79_5))
    (Idx t78_5 t80_5 1 fun t82 =>
    Ld t82 Value.string fun t83 =>
    disk_Disk_Read.call x11_5 t83 fun t87x0 t87x1 =>
    disk_Disk_Read.call y12_5 t83 fun t93x0 t93x1 =>
    Ite (decide (t87x1 ≠ 0))
      (law03_DiskTwice.s6 Q X2 X5 x11_5 y12_5 t78_5 t79_5 t80_5 true)
      (Ite (decide (t93x1 ≠ 0))
        (law03_DiskTwice.s6 Q X2 X5 x11_5 y12_5 t78_5 t79_5 t80_5 true)
        (Rd Try.prog (convert 33 9 (Sl.val t87x0)) Value.string fun t104 =>
        Rd Try.prog (convert 33 9 (Sl.val t93x0)) Value.string fun t106 =>
        law03_DiskTwice.s6 Q X2 X5 x11_5 y12_5 t78_5 t79_5 t80_5 (!(t104.toList == t106.toList)))))
    (Q true)
def law03_DiskTwice.s4 (Q : Bool → K) (X2 : Int → K) (x11_4 : (Option Addr)) (y12_4 : (Option Addr)) (t76_4 : Bool) : K :=
  Ite t76_4
    (Q false)
    (disk_Disk_Names.call x11_4 fun t78 =>
    LoopK (α := Int) (fun X x => law03_DiskTwice.b5 Q X2 X x11_4 y12_4 t78 (t78.n : Int) x) 0)
def law03_DiskTwice.b2 (Q : Bool → K)  (X2 : Int → K) (first1_2 : Sl) (second2_2 : Sl) (d7_2 : (Option Addr)) (t39_2 : Sl) (t40_2 : Int) (t41_2 : Int) : K :=
  Ite (decide (t41_2 < t40_2))
    (Idx t39_2 t41_2 6 fun t43 =>
    LdN t43 6 fun t44 =>
    New 57 #[(.int .i64 0), (.int .i64 0), (.string ⟨#[]⟩), (.string ⟨#[]⟩), (Sl.val ⟨none, 0, 0⟩), (Sl.val ⟨none, 0, 0⟩)] fun o10 =>
    StN o10 6 t44 <|
    Ld o10 (Value.int .i64) fun t46 =>
    Ar (bitsOf .and .i64 t46 1) fun t47 =>
    Ite (decide (t47 = 0))
      (Ld (o10.add 2) Value.string fun t51 =>
      Ld (o10.add 4) Sl.val fun t53 =>
      disk_Disk_Append.call d7_2 t51 t53 fun t54 =>
      law03_DiskTwice.s3 Q X2 first1_2 second2_2 d7_2 t39_2 t40_2 t41_2)
      (Ld (o10.add 2) Value.string fun t57 =>
      disk_Disk_Sync.call d7_2 t57 fun t58 =>
      law03_DiskTwice.s3 Q X2 first1_2 second2_2 d7_2 t39_2 t40_2 t41_2))
    (disk_Disk_Crash.call d7_2 first1_2 fun t62 =>
    Ite ((t62).isNone)
      (Q false)
      (disk_Disk_Crash.call t62 second2_2 fun t67 =>
      Ite ((t67).isNone)
        (law03_DiskTwice.s4 Q X2 t62 t67 true)
        (disk_Disk_Used.call t62 fun t72 =>
        disk_Disk_Used.call t67 fun t74 =>
        law03_DiskTwice.s4 Q X2 t62 t67 (decide (t72 ≠ t74)))))
def law03_DiskTwice.s1 (Q : Bool → K)  (script0_1 : Sl) (first1_1 : Sl) (second2_1 : Sl) (t32_1 : Bool) : K :=
  Ite t32_1
    (Q true)
    (disk_New.call 10000 fun t34x0 t34x1 =>
    Ite ((t34x0).isNone)
      (Q false)
      (LoopK (α := Int) (fun X x => law03_DiskTwice.b2 Q X first1_1 second2_1 t34x0 script0_1 (script0_1.n : Int) x) 0))
def law03_DiskTwice (script0 : Sl) (first1 : Sl) (second2 : Sl) (Q : Bool → K) : K :=
  law03_speaks.call  fun t19 =>
  Ite (!t19)
    (Q false)
    (law03_great.call script0 fun t22 =>
    Ite t22
      (law03_DiskTwice.s1 Q script0 first1 second2 true)
      (Ite (decide ((100 : Int) < (first1.n : Int)))
        (law03_DiskTwice.s1 Q script0 first1 second2 true)
        (law03_DiskTwice.s1 Q script0 first1 second2 (decide ((100 : Int) < (second2.n : Int))))))
theorem law03_DiskTwice_ok (script0 : Sl) (first1 : Sl) (second2 : Sl) (Q : Bool → K) (w : World) (h : law03_DiskTwice script0 first1 second2 Q w) : law03_DiskTwice.call script0 first1 second2 Q w := by
  unfold law03_DiskTwice.call CallF
  refine f_start (args := [(Sl.val script0), (Sl.val first1), (Sl.val second2)]) Try.func7 rfl (Nat.le_of_ble_eq_true rfl) ?_
  intro a hs
  unfold law03_DiskTwice at h
  refine wp_seq_k fun K1 hK1 => ?_
  refine wp_region_lit ?_
  refine t_pure hs rfl rfl (by decide) (p_assign rfl rfl) ?_
  clear hs a
  intro a hs
  refine hK1 _ _ ?_
  refine wp_seq_k fun K2 hK2 => ?_
  refine wp_seq_k fun K3 hK3 => ?_
  refine wp_region_lit ?_
  refine t_call hs rfl rfl (by decide) (e_call rfl rfl rfl cb_20) h ?_
  clear hs a h
  intro v a w hk hs
  obtain ⟨t19, rfl, h⟩ := hk
  refine t_pure hs rfl rfl (by decide) (p_not rfl rfl) ?_
  clear hs a
  intro a hs
  refine hK3 _ _ ?_
  refine c_cond hs rfl (fun hb => ?_) (fun hb => ?_)
  · replace h := h.1 hb
    clear hb
    refine wp_seq_k fun K4 hK4 => ?_
    refine wp_region_lit ?_
    refine t_pure hs rfl rfl (by decide) (p_assign rfl rfl) ?_
    clear hs a
    intro a hs
    refine hK4 _ _ ?_
    refine wp_ret ?_
    refine f_ret (fn := Try.f7) hs (fun a hs => r_one hs rfl (rfl)) ⟨false, rfl, h⟩
  · replace h := h.2 hb
    clear hb
    refine wp_skip ?_
    refine hK2 _ _ ?_
    refine wp_seq_k fun K5 hK5 => ?_
    refine wp_seq_k fun K6 hK6 => ?_
    have J1 : ∀ (t32_1 : Bool) (a : Act) (w : World), Slots a 110 [(0, (Sl.val script0)), (1, (Sl.val first1)), (2, (Sl.val second2)), (32, (.bool t32_1))] → law03_DiskTwice.s1 Q script0 first1 second2 t32_1 w → K6 a w := by
      clear h hs
      intro t32_1 a w hs h
      refine hK6 _ _ ?_
      unfold law03_DiskTwice.s1 at h
      refine c_cond hs rfl (fun hb => ?_) (fun hb => ?_)
      · replace h := h.1 hb
        clear hb
        refine wp_seq_k fun K7 hK7 => ?_
        refine wp_region_lit ?_
        refine t_pure hs rfl rfl (by decide) (p_assign rfl rfl) ?_
        clear hs a
        intro a hs
        refine hK7 _ _ ?_
        refine wp_ret ?_
        refine f_ret (fn := Try.f7) hs (fun a hs => r_one hs rfl (rfl)) ⟨true, rfl, h⟩
      · replace h := h.2 hb
        clear hb
        refine wp_skip ?_
        refine hK5 _ _ ?_
        refine wp_seq_k fun K8 hK8 => ?_
        refine wp_region_lit ?_
        refine t_call hs rfl rfl (by decide) (e_call rfl rfl rfl cb_21) h ?_
        clear hs a h
        intro v a w hk hs
        obtain ⟨t34x0, t34x1, rfl, h⟩ := hk
        refine t_pure hs rfl rfl (by decide) (p_move rfl rfl) ?_
        clear hs a
        intro a hs
        refine t_pure hs rfl rfl (by decide) (p_extract rfl rfl rfl) ?_
        clear hs a
        intro a hs
        refine t_pure hs rfl rfl (by decide) (p_extract rfl rfl rfl) ?_
        clear hs a
        intro a hs
        refine t_pure hs rfl rfl (by decide) (p_assign rfl rfl) ?_
        clear hs a
        intro a hs
        refine t_pure hs rfl rfl (by decide) (p_assign rfl rfl) ?_
        clear hs a
        intro a hs
        refine hK8 _ _ ?_
        refine wp_seq_k fun K9 hK9 => ?_
        refine wp_seq_k fun K10 hK10 => ?_
        refine wp_region_lit ?_
        refine t_pure hs rfl rfl (by decide) (p_move rfl rfl) ?_
        clear hs a
        intro a hs
        refine t_pure hs rfl rfl (by decide) (p_eq_nil rfl rfl rfl Try.underlying45) ?_
        clear hs a
        intro a hs
        refine hK10 _ _ ?_
        refine c_cond hs rfl (fun hb => ?_) (fun hb => ?_)
        · replace h := h.1 hb
          clear hb
          refine wp_seq_k fun K11 hK11 => ?_
          refine wp_region_lit ?_
          refine t_pure hs rfl rfl (by decide) (p_assign rfl rfl) ?_
          clear hs a
          intro a hs
          refine hK11 _ _ ?_
          refine wp_ret ?_
          refine f_ret (fn := Try.f7) hs (fun a hs => r_one hs rfl (rfl)) ⟨false, rfl, h⟩
        · replace h := h.2 hb
          clear hb
          refine wp_skip ?_
          refine hK9 _ _ ?_
          refine wp_seq_k fun K12 hK12 => ?_
          refine wp_seq_k fun K13 hK13 => ?_
          refine wp_region_lit ?_
          refine t_pure hs rfl rfl (by decide) (p_move rfl rfl) ?_
          clear hs a
          intro a hs
          refine t_pure hs rfl rfl (by decide) (p_len rfl rfl sl_54) ?_
          clear hs a
          intro a hs
          refine t_pure hs rfl rfl (by decide) (p_move rfl rfl) ?_
          clear hs a
          intro a hs
          refine hK13 _ _ ?_
          refine wp_block ?_
          obtain ⟨I2, μ2, h0, hr⟩ := h
          refine c_loop (α := Int) I2 μ2 (fun x a => Slots a 110 [(1, (Sl.val first1)), (2, (Sl.val second2)), (7, (.pointer t34x0)), (39, (Sl.val script0)), (40, (.int .i64 (script0.n : Int))), (41, (.int .i64 x))]) 0 h0 (hs.to ⟨rfl, rfl, rfl, rfl, rfl, rfl, trivial⟩) ?_
          clear h0 hs a
          intro t41_2 a w hI hs
          have h : law03_DiskTwice.b2 Q (fun t41_2n w' => I2 t41_2n w' ∧ μ2 t41_2n w' < μ2 t41_2 w) first1 second2 t34x0 script0 (script0.n : Int) t41_2 w := hr t41_2 w hI
          clear hr hI
          generalize hX2 : (fun t41_2n w' => I2 t41_2n w' ∧ μ2 t41_2n w' < μ2 t41_2 w) = X2 at h
          unfold law03_DiskTwice.b2 at h
          replace hs : Slots a 110 [(1, (Sl.val first1)), (2, (Sl.val second2)), (7, (.pointer t34x0)), (39, (Sl.val script0)), (40, (.int .i64 (script0.n : Int))), (41, (.int .i64 t41_2))] := hs
          refine wp_seq_k fun K14 hK14 => ?_
          refine wp_region_lit ?_
          refine t_pure hs rfl rfl (by decide) (p_lt rfl rfl rfl) ?_
          clear hs a
          intro a hs
          refine hK14 _ _ ?_
          refine wp_seq_k fun K15 hK15 => ?_
          refine c_cond hs rfl (fun hb => ?_) (fun hb => ?_)
          · replace h := h.1 hb
            clear hb
            refine wp_skip ?_
            refine hK15 _ _ ?_
            refine wp_seq_k fun K16 hK16 => ?_
            have J3 : ∀ (a : Act) (w : World), Slots a 110 [(1, (Sl.val first1)), (2, (Sl.val second2)), (7, (.pointer t34x0)), (39, (Sl.val script0)), (40, (.int .i64 (script0.n : Int))), (41, (.int .i64 t41_2))] → law03_DiskTwice.s3 Q X2 first1 second2 t34x0 script0 (script0.n : Int) t41_2 w → K16 a w := by
              clear h hs
              intro a w hs h
              refine hK16 _ _ ?_
              unfold law03_DiskTwice.s3 at h
              refine wp_region_lit ?_
              obtain ⟨t59, he, h⟩ := h
              refine t_pure hs rfl rfl (by decide) (Pure.int he (p_add rfl rfl rfl)) ?_
              clear hs a he
              intro a hs
              refine t_pure hs rfl rfl (by decide) (p_move rfl rfl) ?_
              clear hs a
              intro a hs
              rw [← hX2] at h
              exact ⟨t59, hs.to ⟨rfl, rfl, rfl, rfl, rfl, rfl, trivial⟩, h⟩
            clear hK16
            refine wp_block ?_
            refine wp_seq_k fun K17 hK17 => ?_
            refine wp_region_lit ?_
            obtain ⟨qt43, t43, ha, h0, h1, he, h⟩ := h
            refine t_pure hs rfl rfl (by decide) (Pure.adr he (p_idx rfl rfl rfl sl_54 ha h0 h1)) ?_
            clear hs a ha h0 h1 he
            intro a hs
            obtain ⟨t44, hn, hv, h⟩ := h
            refine t_eff hs rfl rfl (by decide) (e_loadN rfl rfl at_57 hn hv) ?_
            clear hs a hn hv
            intro a hs
            obtain ⟨o10, w1, ha, hw, h⟩ := h
            refine t_eff hs rfl rfl (by decide) (e_alloc rfl zt_57 rfl ha hw) ?_
            clear hs a ha hw
            intro a hs
            obtain ⟨w1, hw, hn, hc, hv, h⟩ := h
            refine t_skip hs rfl rfl (e_storeN rfl rfl rfl sz_57 hw hn hc hv) ?_
            clear hs a hw hn hc hv
            intro a hs
            refine hK17 _ _ ?_
            refine wp_seq_k fun K18 hK18 => ?_
            refine wp_region_lit ?_
            refine t_pure hs rfl rfl (by decide) (p_fieldAddr0 rfl rfl ft_57_0) ?_
            clear hs a
            intro a hs
            obtain ⟨t46, hv, h⟩ := h
            refine t_eff hs rfl rfl (by decide) (e_load rfl rfl ct_3 hv) ?_
            clear hs a hv
            intro a hs
            obtain ⟨t47, he, h⟩ := h
            refine t_pure hs rfl rfl (by decide) (Pure.int he (p_and rfl rfl rfl)) ?_
            clear hs a he
            intro a hs
            refine t_pure hs rfl rfl (by decide) (p_eq rfl rfl rfl) ?_
            clear hs a
            intro a hs
            refine hK18 _ _ ?_
            refine c_cond hs rfl (fun hb => ?_) (fun hb => ?_)
            · replace h := h.1 hb
              clear hb
              refine wp_region_lit ?_
              refine t_pure hs rfl rfl (by decide) (p_move rfl rfl) ?_
              clear hs a
              intro a hs
              refine t_pure hs rfl rfl (by decide) (p_fieldAddr rfl rfl ft_57_2) ?_
              clear hs a
              intro a hs
              obtain ⟨t51, hv, h⟩ := h
              refine t_eff hs rfl rfl (by decide) (e_load rfl rfl ct_9 hv) ?_
              clear hs a hv
              intro a hs
              refine t_pure hs rfl rfl (by decide) (p_fieldAddr rfl rfl ft_57_4) ?_
              clear hs a
              intro a hs
              obtain ⟨t53, hv, h⟩ := h
              refine t_eff hs rfl rfl (by decide) (e_load rfl rfl ct_33 hv) ?_
              clear hs a hv
              intro a hs
              refine t_call hs rfl rfl (by decide) (e_call rfl rfl rfl cb_22) h ?_
              clear hs a h
              intro v a w hk hs
              obtain ⟨t54, rfl, h⟩ := hk
              exact J3 _ _ (hs.to ⟨rfl, rfl, rfl, rfl, rfl, rfl, trivial⟩) h
            · replace h := h.2 hb
              clear hb
              refine wp_region_lit ?_
              refine t_pure hs rfl rfl (by decide) (p_move rfl rfl) ?_
              clear hs a
              intro a hs
              refine t_pure hs rfl rfl (by decide) (p_fieldAddr rfl rfl ft_57_2) ?_
              clear hs a
              intro a hs
              obtain ⟨t57, hv, h⟩ := h
              refine t_eff hs rfl rfl (by decide) (e_load rfl rfl ct_9 hv) ?_
              clear hs a hv
              intro a hs
              refine t_call hs rfl rfl (by decide) (e_call rfl rfl rfl cb_23) h ?_
              clear hs a h
              intro v a w hk hs
              obtain ⟨t58, rfl, h⟩ := hk
              exact J3 _ _ (hs.to ⟨rfl, rfl, rfl, rfl, rfl, rfl, trivial⟩) h
          · replace h := h.2 hb
            clear hb
            refine wp_exit ?_
            refine hK12 _ _ ?_
            refine wp_seq_k fun K19 hK19 => ?_
            refine wp_region_lit ?_
            refine t_pure hs rfl rfl (by decide) (p_move rfl rfl) ?_
            clear hs a
            intro a hs
            refine t_pure hs rfl rfl (by decide) (p_move rfl rfl) ?_
            clear hs a
            intro a hs
            refine t_call hs rfl rfl (by decide) (e_call rfl rfl rfl cb_24) h ?_
            clear hs a h
            intro v a w hk hs
            obtain ⟨t62, rfl, h⟩ := hk
            refine t_pure hs rfl rfl (by decide) (p_assign rfl rfl) ?_
            clear hs a
            intro a hs
            refine hK19 _ _ ?_
            refine wp_seq_k fun K20 hK20 => ?_
            refine wp_seq_k fun K21 hK21 => ?_
            refine wp_region_lit ?_
            refine t_pure hs rfl rfl (by decide) (p_move rfl rfl) ?_
            clear hs a
            intro a hs
            refine t_pure hs rfl rfl (by decide) (p_eq_nil rfl rfl rfl Try.underlying45) ?_
            clear hs a
            intro a hs
            refine hK21 _ _ ?_
            refine c_cond hs rfl (fun hb => ?_) (fun hb => ?_)
            · replace h := h.1 hb
              clear hb
              refine wp_seq_k fun K22 hK22 => ?_
              refine wp_region_lit ?_
              refine t_pure hs rfl rfl (by decide) (p_assign rfl rfl) ?_
              clear hs a
              intro a hs
              refine hK22 _ _ ?_
              refine wp_ret ?_
              refine f_ret (fn := Try.f7) hs (fun a hs => r_one hs rfl (rfl)) ⟨false, rfl, h⟩
            · replace h := h.2 hb
              clear hb
              refine wp_skip ?_
              refine hK20 _ _ ?_
              refine wp_seq_k fun K23 hK23 => ?_
              refine wp_region_lit ?_
              refine t_pure hs rfl rfl (by decide) (p_move rfl rfl) ?_
              clear hs a
              intro a hs
              refine t_pure hs rfl rfl (by decide) (p_move rfl rfl) ?_
              clear hs a
              intro a hs
              refine t_call hs rfl rfl (by decide) (e_call rfl rfl rfl cb_24) h ?_
              clear hs a h
              intro v a w hk hs
              obtain ⟨t67, rfl, h⟩ := hk
              refine t_pure hs rfl rfl (by decide) (p_assign rfl rfl) ?_
              clear hs a
              intro a hs
              refine hK23 _ _ ?_
              refine wp_seq_k fun K24 hK24 => ?_
              refine wp_seq_k fun K25 hK25 => ?_
              have J4 : ∀ (t76_4 : Bool) (a : Act) (w : World), Slots a 110 [(11, (.pointer t62)), (12, (.pointer t67)), (76, (.bool t76_4))] → law03_DiskTwice.s4 Q X2 t62 t67 t76_4 w → K25 a w := by
                clear h hs
                intro t76_4 a w hs h
                refine hK25 _ _ ?_
                unfold law03_DiskTwice.s4 at h
                refine c_cond hs rfl (fun hb => ?_) (fun hb => ?_)
                · replace h := h.1 hb
                  clear hb
                  refine wp_seq_k fun K26 hK26 => ?_
                  refine wp_region_lit ?_
                  refine t_pure hs rfl rfl (by decide) (p_assign rfl rfl) ?_
                  clear hs a
                  intro a hs
                  refine hK26 _ _ ?_
                  refine wp_ret ?_
                  refine f_ret (fn := Try.f7) hs (fun a hs => r_one hs rfl (rfl)) ⟨false, rfl, h⟩
                · replace h := h.2 hb
                  clear hb
                  refine wp_skip ?_
                  refine hK24 _ _ ?_
                  refine wp_seq_k fun K27 hK27 => ?_
                  refine wp_seq_k fun K28 hK28 => ?_
                  refine wp_region_lit ?_
                  refine t_pure hs rfl rfl (by decide) (p_move rfl rfl) ?_
                  clear hs a
                  intro a hs
                  refine t_call hs rfl rfl (by decide) (e_call rfl rfl rfl cb_28) h ?_
                  clear hs a h
                  intro v a w hk hs
                  obtain ⟨t78, rfl, h⟩ := hk
                  refine t_pure hs rfl rfl (by decide) (p_len rfl rfl sl_59) ?_
                  clear hs a
                  intro a hs
                  refine t_pure hs rfl rfl (by decide) (p_move rfl rfl) ?_
                  clear hs a
                  intro a hs
                  refine hK28 _ _ ?_
                  refine wp_block ?_
                  obtain ⟨I5, μ5, h0, hr⟩ := h
                  refine c_loop (α := Int) I5 μ5 (fun x a => Slots a 110 [(11, (.pointer t62)), (12, (.pointer t67)), (78, (Sl.val t78)), (79, (.int .i64 (t78.n : Int))), (80, (.int .i64 x))]) 0 h0 (hs.to ⟨rfl, rfl, rfl, rfl, rfl, trivial⟩) ?_
                  clear h0 hs a
                  intro t80_5 a w hI hs
                  have h : law03_DiskTwice.b5 Q X2 (fun t80_5n w' => I5 t80_5n w' ∧ μ5 t80_5n w' < μ5 t80_5 w) t62 t67 t78 (t78.n : Int) t80_5 w := hr t80_5 w hI
                  clear hr hI
                  generalize hX5 : (fun t80_5n w' => I5 t80_5n w' ∧ μ5 t80_5n w' < μ5 t80_5 w) = X5 at h
                  unfold law03_DiskTwice.b5 at h
                  replace hs : Slots a 110 [(11, (.pointer t62)), (12, (.pointer t67)), (78, (Sl.val t78)), (79, (.int .i64 (t78.n : Int))), (80, (.int .i64 t80_5))] := hs
                  refine wp_seq_k fun K29 hK29 => ?_
                  refine wp_region_lit ?_
                  refine t_pure hs rfl rfl (by decide) (p_lt rfl rfl rfl) ?_
                  clear hs a
                  intro a hs
                  refine hK29 _ _ ?_
                  refine wp_seq_k fun K30 hK30 => ?_
                  refine c_cond hs rfl (fun hb => ?_) (fun hb => ?_)
                  · replace h := h.1 hb
                    clear hb
                    refine wp_skip ?_
                    refine hK30 _ _ ?_
                    refine wp_seq_k fun K31 hK31 => ?_
                    refine wp_block ?_
                    refine wp_seq_k fun K32 hK32 => ?_
                    refine wp_region_lit ?_
                    obtain ⟨qt82, t82, ha, h0, h1, he, h⟩ := h
                    refine t_pure hs rfl rfl (by decide) (Pure.adr he (p_idx rfl rfl rfl sl_59 ha h0 h1)) ?_
                    clear hs a ha h0 h1 he
                    intro a hs
                    obtain ⟨t83, hv, h⟩ := h
                    refine t_eff hs rfl rfl (by decide) (e_load rfl rfl ct_9 hv) ?_
                    clear hs a hv
                    intro a hs
                    refine t_pure hs rfl rfl (by decide) (p_assign rfl rfl) ?_
                    clear hs a
                    intro a hs
                    refine hK32 _ _ ?_
                    refine wp_seq_k fun K33 hK33 => ?_
                    refine wp_region_lit ?_
                    refine t_pure hs rfl rfl (by decide) (p_move rfl rfl) ?_
                    clear hs a
                    intro a hs
                    refine t_pure hs rfl rfl (by decide) (p_move rfl rfl) ?_
                    clear hs a
                    intro a hs
                    refine t_call hs rfl rfl (by decide) (e_call rfl rfl rfl cb_25) h ?_
                    clear hs a h
                    intro v a w hk hs
                    obtain ⟨t87x0, t87x1, rfl, h⟩ := hk
                    refine t_pure hs rfl rfl (by decide) (p_move rfl rfl) ?_
                    clear hs a
                    intro a hs
                    refine t_pure hs rfl rfl (by decide) (p_extract rfl rfl rfl) ?_
                    clear hs a
                    intro a hs
                    refine t_pure hs rfl rfl (by decide) (p_extract rfl rfl rfl) ?_
                    clear hs a
                    intro a hs
                    refine t_pure hs rfl rfl (by decide) (p_assign rfl rfl) ?_
                    clear hs a
                    intro a hs
                    refine t_pure hs rfl rfl (by decide) (p_assign rfl rfl) ?_
                    clear hs a
                    intro a hs
                    refine hK33 _ _ ?_
                    refine wp_seq_k fun K34 hK34 => ?_
                    refine wp_region_lit ?_
                    refine t_pure hs rfl rfl (by decide) (p_move rfl rfl) ?_
                    clear hs a
                    intro a hs
                    refine t_pure hs rfl rfl (by decide) (p_move rfl rfl) ?_
                    clear hs a
                    intro a hs
                    refine t_call hs rfl rfl (by decide) (e_call rfl rfl rfl cb_25) h ?_
                    clear hs a h
                    intro v a w hk hs
                    obtain ⟨t93x0, t93x1, rfl, h⟩ := hk
                    refine t_pure hs rfl rfl (by decide) (p_move rfl rfl) ?_
                    clear hs a
                    intro a hs
                    refine t_pure hs rfl rfl (by decide) (p_extract rfl rfl rfl) ?_
                    clear hs a
                    intro a hs
                    refine t_pure hs rfl rfl (by decide) (p_extract rfl rfl rfl) ?_
                    clear hs a
                    intro a hs
                    refine t_pure hs rfl rfl (by decide) (p_assign rfl rfl) ?_
                    clear hs a
                    intro a hs
                    refine t_pure hs rfl rfl (by decide) (p_assign rfl rfl) ?_
                    clear hs a
                    intro a hs
                    refine hK34 _ _ ?_
                    refine wp_seq_k fun K35 hK35 => ?_
                    have J6 : ∀ (t108_6 : Bool) (a : Act) (w : World), Slots a 110 [(11, (.pointer t62)), (12, (.pointer t67)), (78, (Sl.val t78)), (79, (.int .i64 (t78.n : Int))), (80, (.int .i64 t80_5)), (108, (.bool t108_6))] → law03_DiskTwice.s6 Q X2 X5 t62 t67 t78 (t78.n : Int) t80_5 t108_6 w → K35 a w := by
                      clear h hs
                      intro t108_6 a w hs h
                      refine hK35 _ _ ?_
                      unfold law03_DiskTwice.s6 at h
                      refine c_cond hs rfl (fun hb => ?_) (fun hb => ?_)
                      · replace h := h.1 hb
                        clear hb
                        refine wp_seq_k fun K36 hK36 => ?_
                        refine wp_region_lit ?_
                        refine t_pure hs rfl rfl (by decide) (p_assign rfl rfl) ?_
                        clear hs a
                        intro a hs
                        refine hK36 _ _ ?_
                        refine wp_ret ?_
                        refine f_ret (fn := Try.f7) hs (fun a hs => r_one hs rfl (rfl)) ⟨false, rfl, h⟩
                      · replace h := h.2 hb
                        clear hb
                        refine wp_skip ?_
                        refine hK31 _ _ ?_
                        refine wp_region_lit ?_
                        obtain ⟨t109, he, h⟩ := h
                        refine t_pure hs rfl rfl (by decide) (Pure.int he (p_add rfl rfl rfl)) ?_
                        clear hs a he
                        intro a hs
                        refine t_pure hs rfl rfl (by decide) (p_move rfl rfl) ?_
                        clear hs a
                        intro a hs
                        rw [← hX5] at h
                        exact ⟨t109, hs.to ⟨rfl, rfl, rfl, rfl, rfl, trivial⟩, h⟩
                    clear hK35
                    refine wp_region_lit ?_
                    refine t_pure hs rfl rfl (by decide) (p_move rfl rfl) ?_
                    clear hs a
                    intro a hs
                    refine t_pure hs rfl rfl (by decide) (p_ne rfl rfl rfl) ?_
                    clear hs a
                    intro a hs
                    refine t_pure hs rfl rfl (by decide) (p_move rfl rfl) ?_
                    clear hs a
                    intro a hs
                    refine split_bool (decide (t87x1 ≠ 0)) (fun hb => ?_) (fun hb => ?_)
                    · replace h := h.1 hb
                      rw [hb] at hs
                      clear hb
                      refine t_no hs rfl rfl (by decide) ?_
                      clear hs a
                      intro a hs
                      refine t_no hs rfl rfl (by decide) ?_
                      clear hs a
                      intro a hs
                      refine t_pure hs rfl rfl (by decide) (p_pick_t rfl rfl rfl) ?_
                      clear hs a
                      intro a hs
                      refine t_pure hs rfl rfl (by decide) (p_move rfl rfl) ?_
                      clear hs a
                      intro a hs
                      refine t_no hs rfl rfl (by decide) ?_
                      clear hs a
                      intro a hs
                      replace hs := hs.to (τ := [(11, (.pointer t62)), (12, (.pointer t67)), (17, (Sl.val t93x0)), (78, (Sl.val t78)), (79, (.int .i64 (t78.n : Int))), (80, (.int .i64 t80_5)), (102, (.bool true)), (103, undef)]) ⟨rfl, rfl, rfl, rfl, rfl, rfl, rfl, rfl, trivial⟩
                      refine t_no hs rfl rfl (by decide) ?_
                      clear hs a
                      intro a hs
                      refine t_no hs rfl rfl (by decide) ?_
                      clear hs a
                      intro a hs
                      refine t_no hs rfl rfl (by decide) ?_
                      clear hs a
                      intro a hs
                      refine t_no hs rfl rfl (by decide) ?_
                      clear hs a
                      intro a hs
                      refine t_pure hs rfl rfl (by decide) (p_pick_t rfl rfl rfl) ?_
                      clear hs a
                      intro a hs
                      exact J6 true _ _ (hs.to ⟨rfl, rfl, rfl, rfl, rfl, rfl, trivial⟩) h
                    · replace h := h.2 hb
                      rw [hb] at hs
                      clear hb
                      refine t_yes hs rfl ?_
                      refine t_pure hs rfl rfl (by decide) (p_move rfl rfl) ?_
                      clear hs a
                      intro a hs
                      refine t_yes hs rfl ?_
                      refine t_pure hs rfl rfl (by decide) (p_ne rfl rfl rfl) ?_
                      clear hs a
                      intro a hs
                      refine t_pure hs rfl rfl (by decide) (p_pick_f rfl rfl rfl) ?_
                      clear hs a
                      intro a hs
                      refine t_pure hs rfl rfl (by decide) (p_move rfl rfl) ?_
                      clear hs a
                      intro a hs
                      refine split_bool (decide (t93x1 ≠ 0)) (fun hb => ?_) (fun hb => ?_)
                      · replace h := h.1 hb
                        rw [hb] at hs
                        clear hb
                        refine t_no hs rfl rfl (by decide) ?_
                        clear hs a
                        intro a hs
                        replace hs := hs.to (τ := [(11, (.pointer t62)), (12, (.pointer t67)), (17, (Sl.val t93x0)), (78, (Sl.val t78)), (79, (.int .i64 (t78.n : Int))), (80, (.int .i64 t80_5)), (102, (.bool true)), (103, undef)]) ⟨rfl, rfl, rfl, rfl, rfl, rfl, rfl, rfl, trivial⟩
                        refine t_no hs rfl rfl (by decide) ?_
                        clear hs a
                        intro a hs
                        refine t_no hs rfl rfl (by decide) ?_
                        clear hs a
                        intro a hs
                        refine t_no hs rfl rfl (by decide) ?_
                        clear hs a
                        intro a hs
                        refine t_no hs rfl rfl (by decide) ?_
                        clear hs a
                        intro a hs
                        refine t_pure hs rfl rfl (by decide) (p_pick_t rfl rfl rfl) ?_
                        clear hs a
                        intro a hs
                        exact J6 true _ _ (hs.to ⟨rfl, rfl, rfl, rfl, rfl, rfl, trivial⟩) h
                      · replace h := h.2 hb
                        rw [hb] at hs
                        clear hb
                        refine t_yes hs rfl ?_
                        refine t_pure hs rfl rfl (by decide) (p_move rfl rfl) ?_
                        clear hs a
                        intro a hs
                        replace hs := hs.to (τ := [(11, (.pointer t62)), (12, (.pointer t67)), (17, (Sl.val t93x0)), (78, (Sl.val t78)), (79, (.int .i64 (t78.n : Int))), (80, (.int .i64 t80_5)), (102, (.bool false)), (103, (Sl.val t87x0))]) ⟨rfl, rfl, rfl, rfl, rfl, rfl, rfl, rfl, trivial⟩
                        refine t_yes hs rfl ?_
                        obtain ⟨t104, hd, h⟩ := h
                        refine t_eff hs rfl rfl (by decide) (e_convert rfl rfl hd) ?_
                        clear hs a hd
                        intro a hs
                        refine t_yes hs rfl ?_
                        refine t_pure hs rfl rfl (by decide) (p_move rfl rfl) ?_
                        clear hs a
                        intro a hs
                        refine t_yes hs rfl ?_
                        obtain ⟨t106, hd, h⟩ := h
                        refine t_eff hs rfl rfl (by decide) (e_convert rfl rfl hd) ?_
                        clear hs a hd
                        intro a hs
                        refine t_yes hs rfl ?_
                        refine t_pure hs rfl rfl (by decide) (p_nes rfl rfl rfl) ?_
                        clear hs a
                        intro a hs
                        refine t_pure hs rfl rfl (by decide) (p_pick_f rfl rfl rfl) ?_
                        clear hs a
                        intro a hs
                        exact J6 (!(t104.toList == t106.toList)) _ _ (hs.to ⟨rfl, rfl, rfl, rfl, rfl, rfl, trivial⟩) h
                  · replace h := h.2 hb
                    clear hb
                    refine wp_exit ?_
                    refine hK27 _ _ ?_
                    refine wp_seq_k fun K37 hK37 => ?_
                    refine wp_region_lit ?_
                    refine t_pure hs rfl rfl (by decide) (p_assign rfl rfl) ?_
                    clear hs a
                    intro a hs
                    refine hK37 _ _ ?_
                    refine wp_ret ?_
                    refine f_ret (fn := Try.f7) hs (fun a hs => r_one hs rfl (rfl)) ⟨true, rfl, h⟩
              clear hK25
              refine wp_region_lit ?_
              refine t_pure hs rfl rfl (by decide) (p_move rfl rfl) ?_
              clear hs a
              intro a hs
              refine t_pure hs rfl rfl (by decide) (p_eq_nil rfl rfl rfl Try.underlying45) ?_
              clear hs a
              intro a hs
              refine t_pure hs rfl rfl (by decide) (p_move rfl rfl) ?_
              clear hs a
              intro a hs
              refine split_bool ((t67).isNone) (fun hb => ?_) (fun hb => ?_)
              · replace h := h.1 hb
                rw [hb] at hs
                clear hb
                refine t_no hs rfl rfl (by decide) ?_
                clear hs a
                intro a hs
                refine t_no hs rfl rfl (by decide) ?_
                clear hs a
                intro a hs
                refine t_no hs rfl rfl (by decide) ?_
                clear hs a
                intro a hs
                refine t_no hs rfl rfl (by decide) ?_
                clear hs a
                intro a hs
                refine t_no hs rfl rfl (by decide) ?_
                clear hs a
                intro a hs
                replace hs := hs.to (τ := [(11, (.pointer t62)), (12, (.pointer t67)), (70, (.bool true)), (75, undef)]) ⟨rfl, rfl, rfl, rfl, trivial⟩
                refine t_pure hs rfl rfl (by decide) (p_pick_t rfl rfl rfl) ?_
                clear hs a
                intro a hs
                exact J4 true _ _ (hs.to ⟨rfl, rfl, rfl, trivial⟩) h
              · replace h := h.2 hb
                rw [hb] at hs
                clear hb
                refine t_yes hs rfl ?_
                refine t_pure hs rfl rfl (by decide) (p_move rfl rfl) ?_
                clear hs a
                intro a hs
                refine t_yes hs rfl ?_
                refine t_call hs rfl rfl (by decide) (e_call rfl rfl rfl cb_27) h ?_
                clear hs a h
                intro v a w hk hs
                obtain ⟨t72, rfl, h⟩ := hk
                refine t_yes hs rfl ?_
                refine t_pure hs rfl rfl (by decide) (p_move rfl rfl) ?_
                clear hs a
                intro a hs
                refine t_yes hs rfl ?_
                refine t_call hs rfl rfl (by decide) (e_call rfl rfl rfl cb_27) h ?_
                clear hs a h
                intro v a w hk hs
                obtain ⟨t74, rfl, h⟩ := hk
                refine t_yes hs rfl ?_
                refine t_pure hs rfl rfl (by decide) (p_ne rfl rfl rfl) ?_
                clear hs a
                intro a hs
                replace hs := hs.to (τ := [(11, (.pointer t62)), (12, (.pointer t67)), (70, (.bool false)), (75, (.bool (decide (t72 ≠ t74))))]) ⟨rfl, rfl, rfl, rfl, trivial⟩
                refine t_pure hs rfl rfl (by decide) (p_pick_f rfl rfl rfl) ?_
                clear hs a
                intro a hs
                exact J4 (decide (t72 ≠ t74)) _ _ (hs.to ⟨rfl, rfl, rfl, trivial⟩) h
    clear hK6
    refine wp_region_lit ?_
    refine t_pure hs rfl rfl (by decide) (p_move rfl rfl) ?_
    clear hs a
    intro a hs
    refine t_call hs rfl rfl (by decide) (e_call rfl rfl rfl cb_26) h ?_
    clear hs a h
    intro v a w hk hs
    obtain ⟨t22, rfl, h⟩ := hk
    refine t_pure hs rfl rfl (by decide) (p_move rfl rfl) ?_
    clear hs a
    intro a hs
    refine split_bool t22 (fun hb => ?_) (fun hb => ?_)
    · replace h := h.1 hb
      rw [hb] at hs
      clear hb
      refine t_no hs rfl rfl (by decide) ?_
      clear hs a
      intro a hs
      refine t_no hs rfl rfl (by decide) ?_
      clear hs a
      intro a hs
      refine t_no hs rfl rfl (by decide) ?_
      clear hs a
      intro a hs
      refine t_pure hs rfl rfl (by decide) (p_pick_t rfl rfl rfl) ?_
      clear hs a
      intro a hs
      refine t_pure hs rfl rfl (by decide) (p_move rfl rfl) ?_
      clear hs a
      intro a hs
      replace hs := hs.to (τ := [(0, (Sl.val script0)), (1, (Sl.val first1)), (2, (Sl.val second2)), (28, (.bool true))]) ⟨rfl, rfl, rfl, rfl, trivial⟩
      refine t_no hs rfl rfl (by decide) ?_
      clear hs a
      intro a hs
      refine t_no hs rfl rfl (by decide) ?_
      clear hs a
      intro a hs
      refine t_no hs rfl rfl (by decide) ?_
      clear hs a
      intro a hs
      refine t_pure hs rfl rfl (by decide) (p_pick_t rfl rfl rfl) ?_
      clear hs a
      intro a hs
      exact J1 true _ _ (hs.to ⟨rfl, rfl, rfl, rfl, trivial⟩) h
    · replace h := h.2 hb
      rw [hb] at hs
      clear hb
      refine t_yes hs rfl ?_
      refine t_pure hs rfl rfl (by decide) (p_move rfl rfl) ?_
      clear hs a
      intro a hs
      refine t_yes hs rfl ?_
      refine t_pure hs rfl rfl (by decide) (p_len rfl rfl sl_44) ?_
      clear hs a
      intro a hs
      refine t_yes hs rfl ?_
      refine t_pure hs rfl rfl (by decide) (p_gt rfl rfl rfl) ?_
      clear hs a
      intro a hs
      refine t_pure hs rfl rfl (by decide) (p_pick_f rfl rfl rfl) ?_
      clear hs a
      intro a hs
      refine t_pure hs rfl rfl (by decide) (p_move rfl rfl) ?_
      clear hs a
      intro a hs
      replace hs := hs.to (τ := [(0, (Sl.val script0)), (1, (Sl.val first1)), (2, (Sl.val second2)), (28, (.bool (decide ((100 : Int) < (first1.n : Int)))))]) ⟨rfl, rfl, rfl, rfl, trivial⟩
      refine split_bool (decide ((100 : Int) < (first1.n : Int))) (fun hb => ?_) (fun hb => ?_)
      · replace h := h.1 hb
        rw [hb] at hs
        clear hb
        refine t_no hs rfl rfl (by decide) ?_
        clear hs a
        intro a hs
        refine t_no hs rfl rfl (by decide) ?_
        clear hs a
        intro a hs
        refine t_no hs rfl rfl (by decide) ?_
        clear hs a
        intro a hs
        refine t_pure hs rfl rfl (by decide) (p_pick_t rfl rfl rfl) ?_
        clear hs a
        intro a hs
        exact J1 true _ _ (hs.to ⟨rfl, rfl, rfl, rfl, trivial⟩) h
      · replace h := h.2 hb
        rw [hb] at hs
        clear hb
        refine t_yes hs rfl ?_
        refine t_pure hs rfl rfl (by decide) (p_move rfl rfl) ?_
        clear hs a
        intro a hs
        refine t_yes hs rfl ?_
        refine t_pure hs rfl rfl (by decide) (p_len rfl rfl sl_44) ?_
        clear hs a
        intro a hs
        refine t_yes hs rfl ?_
        refine t_pure hs rfl rfl (by decide) (p_gt rfl rfl rfl) ?_
        clear hs a
        intro a hs
        refine t_pure hs rfl rfl (by decide) (p_pick_f rfl rfl rfl) ?_
        clear hs a
        intro a hs
        exact J1 (decide ((100 : Int) < (second2.n : Int))) _ _ (hs.to ⟨rfl, rfl, rfl, rfl, trivial⟩) h
def law03_DiskRenames.s1 (Q : Bool → K)  (t6_1 : Bool) : K :=
  Q t6_1
def law03_DiskRenames (files0 : (Array Value)) (calls1 : Int) (keeps2 : Sl) (Q : Bool → K) : K :=
  New 64 files0 fun files3 =>
  law03_speaks.call  fun t7 =>
  Ite t7
    (IdxA files3 2 0 1 fun t9 =>
    Ld t9 Sl.val fun t10 =>
    IdxA files3 2 1 1 fun t11 =>
    Ld t11 Sl.val fun t12 =>
    law03_renames.call t10 t12 calls1 keeps2 fun t15 =>
    law03_DiskRenames.s1 Q t15)
    (law03_DiskRenames.s1 Q false)
theorem law03_DiskRenames_ok (files0 : (Array Value)) (calls1 : Int) (keeps2 : Sl) (Q : Bool → K) (w : World) (h : law03_DiskRenames files0 calls1 keeps2 Q w) : law03_DiskRenames.call files0 calls1 keeps2 Q w := by
  unfold law03_DiskRenames.call CallF
  refine f_start (args := [(.agg files0), (.int .i64 calls1), (Sl.val keeps2)]) Try.func8 rfl (Nat.le_of_ble_eq_true rfl) ?_
  intro a hs
  unfold law03_DiskRenames at h
  refine wp_seq_k fun K1 hK1 => ?_
  refine wp_region_lit ?_
  obtain ⟨files3, w1, ha, hw, h⟩ := h
  refine t_eff hs rfl rfl (by decide) (e_box rfl rfl rfl ha hw) ?_
  clear hs a ha hw
  intro a hs
  refine t_pure hs rfl rfl (by decide) (p_assign rfl rfl) ?_
  clear hs a
  intro a hs
  refine hK1 _ _ ?_
  refine wp_seq_k fun K2 hK2 => ?_
  have J1 : ∀ (t6_1 : Bool) (a : Act) (w : World), Slots a 17 [(6, (.bool t6_1))] → law03_DiskRenames.s1 Q t6_1 w → K2 a w := by
    clear h hs
    intro t6_1 a w hs h
    refine hK2 _ _ ?_
    unfold law03_DiskRenames.s1 at h
    refine wp_ret ?_
    refine f_ret (fn := Try.f8) hs (fun a hs => r_one hs rfl (rfl)) ⟨t6_1, rfl, h⟩
  clear hK2
  refine wp_region_lit ?_
  refine t_call hs rfl rfl (by decide) (e_call rfl rfl rfl cb_20) h ?_
  clear hs a h
  intro v a w hk hs
  obtain ⟨t7, rfl, h⟩ := hk
  refine t_pure hs rfl rfl (by decide) (p_move rfl rfl) ?_
  clear hs a
  intro a hs
  refine split_bool t7 (fun hb => ?_) (fun hb => ?_)
  · replace h := h.1 hb
    rw [hb] at hs
    clear hb
    refine t_yes hs rfl ?_
    obtain ⟨t9, h0, h1, he, h⟩ := h
    refine t_pure hs rfl rfl (by decide) (Pure.adr he (p_idxA rfl rfl rfl ar_64 h0 h1)) ?_
    clear hs a h0 h1 he
    intro a hs
    refine t_yes hs rfl ?_
    obtain ⟨t10, hv, h⟩ := h
    refine t_eff hs rfl rfl (by decide) (e_load rfl rfl ct_33 hv) ?_
    clear hs a hv
    intro a hs
    refine t_yes hs rfl ?_
    obtain ⟨t11, h0, h1, he, h⟩ := h
    refine t_pure hs rfl rfl (by decide) (Pure.adr he (p_idxA rfl rfl rfl ar_64 h0 h1)) ?_
    clear hs a h0 h1 he
    intro a hs
    refine t_yes hs rfl ?_
    obtain ⟨t12, hv, h⟩ := h
    refine t_eff hs rfl rfl (by decide) (e_load rfl rfl ct_33 hv) ?_
    clear hs a hv
    intro a hs
    refine t_yes hs rfl ?_
    refine t_pure hs rfl rfl (by decide) (p_move rfl rfl) ?_
    clear hs a
    intro a hs
    refine t_yes hs rfl ?_
    refine t_pure hs rfl rfl (by decide) (p_move rfl rfl) ?_
    clear hs a
    intro a hs
    replace hs := hs.to (τ := [(8, (.bool true)), (10, (Sl.val t10)), (12, (Sl.val t12)), (13, (.int .i64 calls1)), (14, (Sl.val keeps2))]) ⟨rfl, rfl, rfl, rfl, rfl, trivial⟩
    refine t_yes hs rfl ?_
    refine t_call hs rfl rfl (by decide) (e_call rfl rfl rfl cb_29) h ?_
    clear hs a h
    intro v a w hk hs
    obtain ⟨t15, rfl, h⟩ := hk
    refine t_pure hs rfl rfl (by decide) (p_pick_t rfl rfl rfl) ?_
    clear hs a
    intro a hs
    refine t_pure hs rfl rfl (by decide) (p_assign rfl rfl) ?_
    clear hs a
    intro a hs
    exact J1 t15 _ _ (hs.to ⟨rfl, trivial⟩) h
  · replace h := h.2 hb
    rw [hb] at hs
    clear hb
    refine t_no hs rfl rfl (by decide) ?_
    clear hs a
    intro a hs
    refine t_no hs rfl rfl (by decide) ?_
    clear hs a
    intro a hs
    refine t_no hs rfl rfl (by decide) ?_
    clear hs a
    intro a hs
    refine t_no hs rfl rfl (by decide) ?_
    clear hs a
    intro a hs
    refine t_no hs rfl rfl (by decide) ?_
    clear hs a
    intro a hs
    refine t_no hs rfl rfl (by decide) ?_
    clear hs a
    intro a hs
    replace hs := hs.to (τ := [(8, (.bool false)), (10, undef), (12, undef), (13, undef), (14, undef)]) ⟨rfl, rfl, rfl, rfl, rfl, trivial⟩
    refine t_no hs rfl rfl (by decide) ?_
    clear hs a
    intro a hs
    refine t_pure hs rfl rfl (by decide) (p_pick_f rfl rfl rfl) ?_
    clear hs a
    intro a hs
    refine t_pure hs rfl rfl (by decide) (p_assign rfl rfl) ?_
    clear hs a
    intro a hs
    exact J1 false _ _ (hs.to ⟨rfl, trivial⟩) h
end Go.Proofs.Ytgnkminakongkaa
