/- Plain forms of functions, and that their code comes to them (package law04_WalBeside). -/
import Derived.Test.YtdpepgjbambinaaCalls
namespace Go.Proofs.Ytdpepgjbambinaa
open Go Go.Sep
set_option linter.unusedVariables false
set_option linter.unusedSimpArgs false
set_option maxRecDepth 100000
set_option maxHeartbeats 4000000
def law04_WalBeside.s5 (Q : Bool → K) (X3 : Int → K) (a0_5 : Sl) (b1_5 : Sl) (d5_5 : (Option Addr)) (x7_5 : (Option Addr)) (y9_5 : (Option Addr)) (i11_5 : Int) (t112_5 : Bool) : K :=
  Ite t112_5
    (Q false)
    (Ar (IntKind.wrap .i64 (i11_5 + 1)) fun t68 =>
    X3 t68)
def law04_WalBeside.s6 (Q : Bool → K) (X3 : Int → K) (t4_6 : Bool) : K :=
  Q t4_6
def law04_WalBeside.s4 (Q : Bool → K) (X3 : Int → K) (a0_4 : Sl) (b1_4 : Sl) (d5_4 : (Option Addr)) (x7_4 : (Option Addr)) (y9_4 : (Option Addr)) (i11_4 : Int) (t66_4 : Bool) : K :=
  Ite t66_4
    (Ite (decide (i11_4 < (a0_4.n : Int)))
      (Idx a0_4 i11_4 1 fun t76 =>
      Ld t76 Sl.val fun t77 =>
      Ite (decide ((t77.n : Int) ≤ 1000))
        (Idx a0_4 i11_4 1 fun t85 =>
        Ld t85 Sl.val fun t86 =>
        wal_Log_Append.call x7_4 t86 fun t87 =>
        Ite (decide (t87 ≠ 0))
          (law04_WalBeside.s5 Q X3 a0_4 b1_4 d5_4 x7_4 y9_4 i11_4 true)
          (Ite (decide (i11_4 < (b1_4.n : Int)))
            (Idx b1_4 i11_4 1 fun t98 =>
            Ld t98 Sl.val fun t99 =>
            Ite (decide ((t99.n : Int) ≤ 1000))
              (Idx b1_4 i11_4 1 fun t107 =>
              Ld t107 Sl.val fun t108 =>
              wal_Log_Append.call y9_4 t108 fun t109 =>
              law04_WalBeside.s5 Q X3 a0_4 b1_4 d5_4 x7_4 y9_4 i11_4 (decide (t109 ≠ 0)))
              (law04_WalBeside.s5 Q X3 a0_4 b1_4 d5_4 x7_4 y9_4 i11_4 false))
            (law04_WalBeside.s5 Q X3 a0_4 b1_4 d5_4 x7_4 y9_4 i11_4 false)))
        (Ite (decide (i11_4 < (b1_4.n : Int)))
          (Idx b1_4 i11_4 1 fun t98 =>
          Ld t98 Sl.val fun t99 =>
          Ite (decide ((t99.n : Int) ≤ 1000))
            (Idx b1_4 i11_4 1 fun t107 =>
            Ld t107 Sl.val fun t108 =>
            wal_Log_Append.call y9_4 t108 fun t109 =>
            law04_WalBeside.s5 Q X3 a0_4 b1_4 d5_4 x7_4 y9_4 i11_4 (decide (t109 ≠ 0)))
            (law04_WalBeside.s5 Q X3 a0_4 b1_4 d5_4 x7_4 y9_4 i11_4 false))
          (law04_WalBeside.s5 Q X3 a0_4 b1_4 d5_4 x7_4 y9_4 i11_4 false)))
      (Ite (decide (i11_4 < (b1_4.n : Int)))
        (Idx b1_4 i11_4 1 fun t98 =>
        Ld t98 Sl.val fun t99 =>
        Ite (decide ((t99.n : Int) ≤ 1000))
          (Idx b1_4 i11_4 1 fun t107 =>
          Ld t107 Sl.val fun t108 =>
          wal_Log_Append.call y9_4 t108 fun t109 =>
          law04_WalBeside.s5 Q X3 a0_4 b1_4 d5_4 x7_4 y9_4 i11_4 (decide (t109 ≠ 0)))
          (law04_WalBeside.s5 Q X3 a0_4 b1_4 d5_4 x7_4 y9_4 i11_4 false))
        (law04_WalBeside.s5 Q X3 a0_4 b1_4 d5_4 x7_4 y9_4 i11_4 false)))
    (wal_Log_Sync.call x7_4 fun t114 =>
    wal_Log_Sync.call y9_4 fun t116 =>
    disk_Disk_Crash.call d5_4 (Sl.mk none 0 0) fun t118 =>
    Ite ((t118).isNone)
      (Q false)
      (wal_Open.call t118 ⟨#[120]⟩ 65536 fun t123x0 t123x1 =>
      wal_Open.call t118 ⟨#[121]⟩ 65536 fun t128x0 t128x1 =>
      disk_Disk_Read.call t118 ⟨#[111, 116, 104, 101, 114]⟩ fun t133x0 t133x1 =>
      Ite (!(t123x0).isNone)
        (Ite (!(t128x0).isNone)
          (wal_Log_Records.call t123x0 fun t144 =>
          wal_Log_Records.call x7_4 fun t146 =>
          ref04_Same.call t144 t146 fun t147 =>
          Ite t147
            (wal_Log_Records.call t128x0 fun t151 =>
            wal_Log_Records.call y9_4 fun t153 =>
            ref04_Same.call t151 t153 fun t154 =>
            Ite t154
              (Rd Try.prog (convert 22 9 (Sl.val t133x0)) Value.string fun t158 =>
              Ite (t158.toList == (⟨#[102, 105, 108, 101]⟩ : ByteArray).toList)
                (law04_WalBeside.s6 Q X3 (decide (t133x1 = 0)))
                (law04_WalBeside.s6 Q X3 false))
              (law04_WalBeside.s6 Q X3 false))
            (law04_WalBeside.s6 Q X3 false))
          (law04_WalBeside.s6 Q X3 false))
        (law04_WalBeside.s6 Q X3 false)))
def law04_WalBeside.b3 (Q : Bool → K)  (X3 : Int → K) (a0_3 : Sl) (b1_3 : Sl) (d5_3 : (Option Addr)) (x7_3 : (Option Addr)) (y9_3 : (Option Addr)) (i11_3 : Int) : K :=
  Ite (decide (i11_3 < (a0_3.n : Int)))
    (law04_WalBeside.s4 Q X3 a0_3 b1_3 d5_3 x7_3 y9_3 i11_3 true)
    (law04_WalBeside.s4 Q X3 a0_3 b1_3 d5_3 x7_3 y9_3 i11_3 (decide (i11_3 < (b1_3.n : Int))))
def law04_WalBeside.s2 (Q : Bool → K)  (a0_2 : Sl) (b1_2 : Sl) (d5_2 : (Option Addr)) (x7_2 : (Option Addr)) (y9_2 : (Option Addr)) (t56_2 : Bool) : K :=
  Ite t56_2
    (Q false)
    (LoopK (α := Int) (fun X x => law04_WalBeside.b3 Q X a0_2 b1_2 d5_2 x7_2 y9_2 x) 0)
def law04_WalBeside.s1 (Q : Bool → K)  (a0_1 : Sl) (b1_1 : Sl) (t28_1 : Bool) : K :=
  Ite t28_1
    (Q true)
    (disk_New.call 1048576 fun t30x0 t30x1 =>
    Ite ((t30x0).isNone)
      (Q false)
      (New 5 #[(.int .u8 102), (.int .u8 105), (.int .u8 108), (.int .u8 101)] fun t36 =>
      Do Try.prog (convert 22 22 (Sl.val (Sl.mk (some t36) 4 4))) Sl.val fun t37 =>
      disk_Disk_Append.call t30x0 ⟨#[111, 116, 104, 101, 114]⟩ t37 fun t38 =>
      disk_Disk_Sync.call t30x0 ⟨#[111, 116, 104, 101, 114]⟩ fun t40 =>
      wal_Open.call t30x0 ⟨#[120]⟩ 65536 fun t43x0 t43x1 =>
      wal_Open.call t30x0 ⟨#[121]⟩ 65536 fun t48x0 t48x1 =>
      Ite ((t43x0).isNone)
        (law04_WalBeside.s2 Q a0_1 b1_1 t30x0 t43x0 t48x0 true)
        (law04_WalBeside.s2 Q a0_1 b1_1 t30x0 t43x0 t48x0 ((t48x0).isNone))))
def law04_WalBeside (a0 : Sl) (b1 : Sl) (Q : Bool → K) : K :=
  law04_speaks.call  fun t19 =>
  Ite (!t19)
    (Q false)
    (Ite (decide ((20 : Int) < (a0.n : Int)))
      (law04_WalBeside.s1 Q a0 b1 true)
      (law04_WalBeside.s1 Q a0 b1 (decide ((20 : Int) < (b1.n : Int)))))
theorem law04_WalBeside_ok (a0 : Sl) (b1 : Sl) (Q : Bool → K) (w : World) (h : law04_WalBeside a0 b1 Q w) : law04_WalBeside.call a0 b1 Q w := by
  unfold law04_WalBeside.call CallF
  refine f_start (args := [(Sl.val a0), (Sl.val b1)]) Try.func6 rfl (Nat.le_of_ble_eq_true rfl) ?_
  intro a hs
  unfold law04_WalBeside at h
  refine wp_seq_k fun K1 hK1 => ?_
  refine wp_region_lit ?_
  refine t_pure hs rfl rfl (by decide) (p_assign rfl rfl) ?_
  clear hs a; intro a hs
  refine hK1 _ _ ?_
  refine wp_seq_k fun K2 hK2 => ?_
  refine wp_seq_k fun K3 hK3 => ?_
  refine wp_region_lit ?_
  refine t_call hs rfl rfl (by decide) (e_call rfl rfl rfl cb_26) h ?_
  clear hs a h
  intro v a w hk hs
  obtain ⟨t19, rfl, h⟩ := hk
  refine t_pure hs rfl rfl (by decide) (p_not rfl rfl) ?_
  clear hs a; intro a hs
  refine hK3 _ _ ?_
  refine c_cond hs rfl (fun hb => ?_) (fun hb => ?_)
  · replace h := h.1 hb
    clear hb
    refine wp_seq_k fun K4 hK4 => ?_
    refine wp_region_lit ?_
    refine t_pure hs rfl rfl (by decide) (p_assign rfl rfl) ?_
    clear hs a; intro a hs
    refine hK4 _ _ ?_
    refine wp_ret ?_
    refine f_ret (fn := Try.f6) hs (fun a hs => r_one hs rfl (rfl)) ⟨false, rfl, h⟩
  · replace h := h.2 hb
    clear hb
    refine wp_skip ?_
    refine hK2 _ _ ?_
    refine wp_seq_k fun K5 hK5 => ?_
    refine wp_seq_k fun K6 hK6 => ?_
    have J1 : ∀ (t28_1 : Bool) (a : Act) (w : World), Slots a 165 [(0, (Sl.val a0)), (1, (Sl.val b1)), (28, (.bool t28_1))] → law04_WalBeside.s1 Q a0 b1 t28_1 w → K6 a w := by
      clear h hs
      intro t28_1 a w hs h
      refine hK6 _ _ ?_
      unfold law04_WalBeside.s1 at h
      refine c_cond hs rfl (fun hb => ?_) (fun hb => ?_)
      · replace h := h.1 hb
        clear hb
        refine wp_seq_k fun K7 hK7 => ?_
        refine wp_region_lit ?_
        refine t_pure hs rfl rfl (by decide) (p_assign rfl rfl) ?_
        clear hs a; intro a hs
        refine hK7 _ _ ?_
        refine wp_ret ?_
        refine f_ret (fn := Try.f6) hs (fun a hs => r_one hs rfl (rfl)) ⟨true, rfl, h⟩
      · replace h := h.2 hb
        clear hb
        refine wp_skip ?_
        refine hK5 _ _ ?_
        refine wp_seq_k fun K8 hK8 => ?_
        refine wp_region_lit ?_
        refine t_call hs rfl rfl (by decide) (e_call rfl rfl rfl cb_27) h ?_
        clear hs a h
        intro v a w hk hs
        obtain ⟨t30x0, t30x1, rfl, h⟩ := hk
        refine t_pure hs rfl rfl (by decide) (p_move rfl rfl) ?_
        clear hs a; intro a hs
        refine t_pure hs rfl rfl (by decide) (p_extract rfl rfl rfl) ?_
        clear hs a; intro a hs
        refine t_pure hs rfl rfl (by decide) (p_extract rfl rfl rfl) ?_
        clear hs a; intro a hs
        refine t_pure hs rfl rfl (by decide) (p_assign rfl rfl) ?_
        clear hs a; intro a hs
        refine t_pure hs rfl rfl (by decide) (p_assign rfl rfl) ?_
        clear hs a; intro a hs
        refine hK8 _ _ ?_
        refine wp_seq_k fun K9 hK9 => ?_
        refine wp_seq_k fun K10 hK10 => ?_
        refine wp_region_lit ?_
        refine t_pure hs rfl rfl (by decide) (p_move rfl rfl) ?_
        clear hs a; intro a hs
        refine t_pure hs rfl rfl (by decide) (p_eq_nil rfl rfl rfl Try.underlying57) ?_
        clear hs a; intro a hs
        refine hK10 _ _ ?_
        refine c_cond hs rfl (fun hb => ?_) (fun hb => ?_)
        · replace h := h.1 hb
          clear hb
          refine wp_seq_k fun K11 hK11 => ?_
          refine wp_region_lit ?_
          refine t_pure hs rfl rfl (by decide) (p_assign rfl rfl) ?_
          clear hs a; intro a hs
          refine hK11 _ _ ?_
          refine wp_ret ?_
          refine f_ret (fn := Try.f6) hs (fun a hs => r_one hs rfl (rfl)) ⟨false, rfl, h⟩
        · replace h := h.2 hb
          clear hb
          refine wp_skip ?_
          refine hK9 _ _ ?_
          refine wp_seq_k fun K12 hK12 => ?_
          refine wp_region_lit ?_
          refine t_pure hs rfl rfl (by decide) (p_move rfl rfl) ?_
          clear hs a; intro a hs
          obtain ⟨t36, w1, ha, hw, h⟩ := h
          refine t_eff hs rfl rfl (by decide) (e_buildSlice (z := #[(.int .u8 0), (.int .u8 0), (.int .u8 0), (.int .u8 0)]) (cs := #[(.int .u8 102), (.int .u8 105), (.int .u8 108), (.int .u8 101)]) rfl sl_22 zt_5 (by decide) rfl rz_5_4 (by rfl) ha hw) ?_
          clear hs a ha hw; intro a hs
          obtain ⟨t37, w1, hd, h⟩ := h
          refine t_eff hs rfl rfl (by decide) (e_convert rfl rfl hd) ?_
          clear hs a hd; intro a hs
          refine t_call hs rfl rfl (by decide) (e_call rfl rfl rfl cb_34) h ?_
          clear hs a h
          intro v a w hk hs
          obtain ⟨t38, rfl, h⟩ := hk
          refine hK12 _ _ ?_
          refine wp_seq_k fun K13 hK13 => ?_
          refine wp_region_lit ?_
          refine t_pure hs rfl rfl (by decide) (p_move rfl rfl) ?_
          clear hs a; intro a hs
          refine t_call hs rfl rfl (by decide) (e_call rfl rfl rfl cb_35) h ?_
          clear hs a h
          intro v a w hk hs
          obtain ⟨t40, rfl, h⟩ := hk
          refine hK13 _ _ ?_
          refine wp_seq_k fun K14 hK14 => ?_
          refine wp_region_lit ?_
          refine t_pure hs rfl rfl (by decide) (p_move rfl rfl) ?_
          clear hs a; intro a hs
          refine t_call hs rfl rfl (by decide) (e_call rfl rfl rfl cb_28) h ?_
          clear hs a h
          intro v a w hk hs
          obtain ⟨t43x0, t43x1, rfl, h⟩ := hk
          refine t_pure hs rfl rfl (by decide) (p_move rfl rfl) ?_
          clear hs a; intro a hs
          refine t_pure hs rfl rfl (by decide) (p_extract rfl rfl rfl) ?_
          clear hs a; intro a hs
          refine t_pure hs rfl rfl (by decide) (p_extract rfl rfl rfl) ?_
          clear hs a; intro a hs
          refine t_pure hs rfl rfl (by decide) (p_assign rfl rfl) ?_
          clear hs a; intro a hs
          refine t_pure hs rfl rfl (by decide) (p_assign rfl rfl) ?_
          clear hs a; intro a hs
          refine hK14 _ _ ?_
          refine wp_seq_k fun K15 hK15 => ?_
          refine wp_region_lit ?_
          refine t_pure hs rfl rfl (by decide) (p_move rfl rfl) ?_
          clear hs a; intro a hs
          refine t_call hs rfl rfl (by decide) (e_call rfl rfl rfl cb_28) h ?_
          clear hs a h
          intro v a w hk hs
          obtain ⟨t48x0, t48x1, rfl, h⟩ := hk
          refine t_pure hs rfl rfl (by decide) (p_move rfl rfl) ?_
          clear hs a; intro a hs
          refine t_pure hs rfl rfl (by decide) (p_extract rfl rfl rfl) ?_
          clear hs a; intro a hs
          refine t_pure hs rfl rfl (by decide) (p_extract rfl rfl rfl) ?_
          clear hs a; intro a hs
          refine t_pure hs rfl rfl (by decide) (p_assign rfl rfl) ?_
          clear hs a; intro a hs
          refine t_pure hs rfl rfl (by decide) (p_assign rfl rfl) ?_
          clear hs a; intro a hs
          refine hK15 _ _ ?_
          refine wp_seq_k fun K16 hK16 => ?_
          refine wp_seq_k fun K17 hK17 => ?_
          have J2 : ∀ (t56_2 : Bool) (a : Act) (w : World), Slots a 165 [(0, (Sl.val a0)), (1, (Sl.val b1)), (5, (.pointer t30x0)), (7, (.pointer t43x0)), (9, (.pointer t48x0)), (56, (.bool t56_2))] → law04_WalBeside.s2 Q a0 b1 t30x0 t43x0 t48x0 t56_2 w → K17 a w := by
            clear h hs
            intro t56_2 a w hs h
            refine hK17 _ _ ?_
            unfold law04_WalBeside.s2 at h
            refine c_cond hs rfl (fun hb => ?_) (fun hb => ?_)
            · replace h := h.1 hb
              clear hb
              refine wp_seq_k fun K18 hK18 => ?_
              refine wp_region_lit ?_
              refine t_pure hs rfl rfl (by decide) (p_assign rfl rfl) ?_
              clear hs a; intro a hs
              refine hK18 _ _ ?_
              refine wp_ret ?_
              refine f_ret (fn := Try.f6) hs (fun a hs => r_one hs rfl (rfl)) ⟨false, rfl, h⟩
            · replace h := h.2 hb
              clear hb
              refine wp_skip ?_
              refine hK16 _ _ ?_
              refine wp_seq_k fun K19 hK19 => ?_
              refine wp_seq_k fun K20 hK20 => ?_
              refine wp_region_lit ?_
              refine t_pure hs rfl rfl (by decide) (p_assign rfl rfl) ?_
              clear hs a; intro a hs
              refine hK20 _ _ ?_
              refine wp_block ?_
              obtain ⟨I3, μ3, h0, hr⟩ := h
              refine c_loop (α := Int) I3 μ3 (fun x a => Slots a 165 [(0, (Sl.val a0)), (1, (Sl.val b1)), (5, (.pointer t30x0)), (7, (.pointer t43x0)), (9, (.pointer t48x0)), (11, (.int .i64 x))]) 0 h0 (hs.to ⟨rfl, rfl, rfl, rfl, rfl, rfl, trivial⟩) ?_
              clear h0 hs a
              intro i11_3 a w hI hs
              have h : law04_WalBeside.b3 Q (fun i11_3n w' => I3 i11_3n w' ∧ μ3 i11_3n w' < μ3 i11_3 w) a0 b1 t30x0 t43x0 t48x0 i11_3 w := hr i11_3 w hI
              clear hr hI
              generalize hX3 : (fun i11_3n w' => I3 i11_3n w' ∧ μ3 i11_3n w' < μ3 i11_3 w) = X3 at h
              unfold law04_WalBeside.b3 at h
              replace hs : Slots a 165 [(0, (Sl.val a0)), (1, (Sl.val b1)), (5, (.pointer t30x0)), (7, (.pointer t43x0)), (9, (.pointer t48x0)), (11, (.int .i64 i11_3))] := hs
              refine wp_seq_k fun K21 hK21 => ?_
              refine wp_seq_k fun K22 hK22 => ?_
              have J4 : ∀ (t66_4 : Bool) (a : Act) (w : World), Slots a 165 [(0, (Sl.val a0)), (1, (Sl.val b1)), (5, (.pointer t30x0)), (7, (.pointer t43x0)), (9, (.pointer t48x0)), (11, (.int .i64 i11_3)), (66, (.bool t66_4))] → law04_WalBeside.s4 Q X3 a0 b1 t30x0 t43x0 t48x0 i11_3 t66_4 w → K22 a w := by
                clear h hs
                intro t66_4 a w hs h
                refine hK22 _ _ ?_
                unfold law04_WalBeside.s4 at h
                refine c_cond hs rfl (fun hb => ?_) (fun hb => ?_)
                · replace h := h.1 hb
                  clear hb
                  refine wp_skip ?_
                  refine hK21 _ _ ?_
                  refine wp_seq_k fun K23 hK23 => ?_
                  refine wp_block ?_
                  refine wp_seq_k fun K24 hK24 => ?_
                  have J5 : ∀ (t112_5 : Bool) (a : Act) (w : World), Slots a 165 [(0, (Sl.val a0)), (1, (Sl.val b1)), (5, (.pointer t30x0)), (7, (.pointer t43x0)), (9, (.pointer t48x0)), (11, (.int .i64 i11_3)), (112, (.bool t112_5))] → law04_WalBeside.s5 Q X3 a0 b1 t30x0 t43x0 t48x0 i11_3 t112_5 w → K24 a w := by
                    clear h hs
                    intro t112_5 a w hs h
                    refine hK24 _ _ ?_
                    unfold law04_WalBeside.s5 at h
                    refine c_cond hs rfl (fun hb => ?_) (fun hb => ?_)
                    · replace h := h.1 hb
                      clear hb
                      refine wp_seq_k fun K25 hK25 => ?_
                      refine wp_region_lit ?_
                      refine t_pure hs rfl rfl (by decide) (p_assign rfl rfl) ?_
                      clear hs a; intro a hs
                      refine hK25 _ _ ?_
                      refine wp_ret ?_
                      refine f_ret (fn := Try.f6) hs (fun a hs => r_one hs rfl (rfl)) ⟨false, rfl, h⟩
                    · replace h := h.2 hb
                      clear hb
                      refine wp_skip ?_
                      refine hK23 _ _ ?_
                      refine wp_region_lit ?_
                      refine t_pure hs rfl rfl (by decide) (p_move rfl rfl) ?_
                      clear hs a; intro a hs
                      obtain ⟨t68, he, h⟩ := h
                      refine t_pure hs rfl rfl (by decide) (Pure.int he (p_add rfl rfl rfl)) ?_
                      clear hs a he; intro a hs
                      refine t_pure hs rfl rfl (by decide) (p_assign rfl rfl) ?_
                      clear hs a; intro a hs
                      rw [← hX3] at h
                      exact ⟨t68, hs.to ⟨rfl, rfl, rfl, rfl, rfl, rfl, trivial⟩, h⟩
                  clear hK24
                  refine wp_region_lit ?_
                  refine t_pure hs rfl rfl (by decide) (p_move rfl rfl) ?_
                  clear hs a; intro a hs
                  refine t_pure hs rfl rfl (by decide) (p_move rfl rfl) ?_
                  clear hs a; intro a hs
                  refine t_pure hs rfl rfl (by decide) (p_len rfl rfl sl_54) ?_
                  clear hs a; intro a hs
                  refine t_pure hs rfl rfl (by decide) (p_lt rfl rfl rfl) ?_
                  clear hs a; intro a hs
                  refine t_pure hs rfl rfl (by decide) (p_move rfl rfl) ?_
                  clear hs a; intro a hs
                  refine split_bool (decide (i11_3 < (a0.n : Int))) (fun hb => ?_) (fun hb => ?_)
                  · replace h := h.1 hb
                    rw [hb] at hs
                    clear hb
                    refine t_yes hs rfl ?_
                    refine t_pure hs rfl rfl (by decide) (p_move rfl rfl) ?_
                    clear hs a; intro a hs
                    refine t_yes hs rfl ?_
                    refine t_pure hs rfl rfl (by decide) (p_move rfl rfl) ?_
                    clear hs a; intro a hs
                    refine t_yes hs rfl ?_
                    obtain ⟨qt76, t76, ha, h0, h1, he, h⟩ := h
                    refine t_pure hs rfl rfl (by decide) (Pure.adr he (p_idx rfl rfl rfl sl_54 ha h0 h1)) ?_
                    clear hs a ha h0 h1 he; intro a hs
                    replace hs := hs.to (τ := [(0, (Sl.val a0)), (1, (Sl.val b1)), (5, (.pointer t30x0)), (7, (.pointer t43x0)), (9, (.pointer t48x0)), (11, (.int .i64 i11_3)), (73, (.bool true)), (76, (.pointer (some t76)))]) ⟨rfl, rfl, rfl, rfl, rfl, rfl, rfl, rfl, trivial⟩
                    refine t_yes hs rfl ?_
                    obtain ⟨t77, hv, h⟩ := h
                    refine t_eff hs rfl rfl (by decide) (e_load rfl rfl ct_22 hv) ?_
                    clear hs a hv; intro a hs
                    refine t_yes hs rfl ?_
                    refine t_pure hs rfl rfl (by decide) (p_len rfl rfl sl_22) ?_
                    clear hs a; intro a hs
                    refine t_yes hs rfl ?_
                    refine t_pure hs rfl rfl (by decide) (p_le rfl rfl rfl) ?_
                    clear hs a; intro a hs
                    refine t_pure hs rfl rfl (by decide) (p_pick_t rfl rfl rfl) ?_
                    clear hs a; intro a hs
                    refine t_pure hs rfl rfl (by decide) (p_move rfl rfl) ?_
                    clear hs a; intro a hs
                    refine split_bool (decide ((t77.n : Int) ≤ 1000)) (fun hb => ?_) (fun hb => ?_)
                    · replace h := h.1 hb
                      rw [hb] at hs
                      clear hb
                      refine t_yes hs rfl ?_
                      refine t_pure hs rfl rfl (by decide) (p_move rfl rfl) ?_
                      clear hs a; intro a hs
                      refine t_yes hs rfl ?_
                      refine t_pure hs rfl rfl (by decide) (p_move rfl rfl) ?_
                      clear hs a; intro a hs
                      refine t_yes hs rfl ?_
                      refine t_pure hs rfl rfl (by decide) (p_move rfl rfl) ?_
                      clear hs a; intro a hs
                      replace hs := hs.to (τ := [(0, (Sl.val a0)), (1, (Sl.val b1)), (5, (.pointer t30x0)), (7, (.pointer t43x0)), (9, (.pointer t48x0)), (11, (.int .i64 i11_3)), (81, (.bool true)), (82, (.pointer t43x0)), (83, (Sl.val a0)), (84, (.int .i64 i11_3))]) ⟨rfl, rfl, rfl, rfl, rfl, rfl, rfl, rfl, rfl, rfl, trivial⟩
                      refine t_yes hs rfl ?_
                      obtain ⟨qt85, t85, ha, h0, h1, he, h⟩ := h
                      refine t_pure hs rfl rfl (by decide) (Pure.adr he (p_idx rfl rfl rfl sl_54 ha h0 h1)) ?_
                      clear hs a ha h0 h1 he; intro a hs
                      refine t_yes hs rfl ?_
                      obtain ⟨t86, hv, h⟩ := h
                      refine t_eff hs rfl rfl (by decide) (e_load rfl rfl ct_22 hv) ?_
                      clear hs a hv; intro a hs
                      refine t_yes hs rfl ?_
                      refine t_call hs rfl rfl (by decide) (e_call rfl rfl rfl cb_31) h ?_
                      clear hs a h
                      intro v a w hk hs
                      obtain ⟨t87, rfl, h⟩ := hk
                      refine t_yes hs rfl ?_
                      refine t_pure hs rfl rfl (by decide) (p_ne rfl rfl rfl) ?_
                      clear hs a; intro a hs
                      refine t_pure hs rfl rfl (by decide) (p_pick_t rfl rfl rfl) ?_
                      clear hs a; intro a hs
                      refine t_pure hs rfl rfl (by decide) (p_move rfl rfl) ?_
                      clear hs a; intro a hs
                      refine split_bool (decide (t87 ≠ 0)) (fun hb => ?_) (fun hb => ?_)
                      · replace h := h.1 hb
                        rw [hb] at hs
                        clear hb
                        refine t_no hs rfl rfl (by decide) ?_
                        clear hs a; intro a hs
                        refine t_no hs rfl rfl (by decide) ?_
                        clear hs a; intro a hs
                        replace hs := hs.to (τ := [(0, (Sl.val a0)), (1, (Sl.val b1)), (5, (.pointer t30x0)), (7, (.pointer t43x0)), (9, (.pointer t48x0)), (11, (.int .i64 i11_3)), (90, (.bool true)), (91, undef), (92, undef)]) ⟨rfl, rfl, rfl, rfl, rfl, rfl, rfl, rfl, rfl, trivial⟩
                        refine t_no hs rfl rfl (by decide) ?_
                        clear hs a; intro a hs
                        refine t_no hs rfl rfl (by decide) ?_
                        clear hs a; intro a hs
                        refine t_no hs rfl rfl (by decide) ?_
                        clear hs a; intro a hs
                        refine t_no hs rfl rfl (by decide) ?_
                        clear hs a; intro a hs
                        refine t_no hs rfl rfl (by decide) ?_
                        clear hs a; intro a hs
                        refine t_no hs rfl rfl (by decide) ?_
                        clear hs a; intro a hs
                        refine t_no hs rfl rfl (by decide) ?_
                        clear hs a; intro a hs
                        refine t_no hs rfl rfl (by decide) ?_
                        clear hs a; intro a hs
                        replace hs := hs.to (τ := [(0, (Sl.val a0)), (1, (Sl.val b1)), (5, (.pointer t30x0)), (7, (.pointer t43x0)), (9, (.pointer t48x0)), (11, (.int .i64 i11_3)), (90, (.bool true)), (95, undef), (100, undef)]) ⟨rfl, rfl, rfl, rfl, rfl, rfl, rfl, rfl, rfl, trivial⟩
                        refine t_no hs rfl rfl (by decide) ?_
                        clear hs a; intro a hs
                        refine t_no hs rfl rfl (by decide) ?_
                        clear hs a; intro a hs
                        refine t_no hs rfl rfl (by decide) ?_
                        clear hs a; intro a hs
                        refine t_no hs rfl rfl (by decide) ?_
                        clear hs a; intro a hs
                        refine t_no hs rfl rfl (by decide) ?_
                        clear hs a; intro a hs
                        refine t_no hs rfl rfl (by decide) ?_
                        clear hs a; intro a hs
                        refine t_no hs rfl rfl (by decide) ?_
                        clear hs a; intro a hs
                        refine t_no hs rfl rfl (by decide) ?_
                        clear hs a; intro a hs
                        replace hs := hs.to (τ := [(0, (Sl.val a0)), (1, (Sl.val b1)), (5, (.pointer t30x0)), (7, (.pointer t43x0)), (9, (.pointer t48x0)), (11, (.int .i64 i11_3)), (90, (.bool true)), (103, undef), (104, undef), (108, undef)]) ⟨rfl, rfl, rfl, rfl, rfl, rfl, rfl, rfl, rfl, rfl, trivial⟩
                        refine t_no hs rfl rfl (by decide) ?_
                        clear hs a; intro a hs
                        refine t_no hs rfl rfl (by decide) ?_
                        clear hs a; intro a hs
                        refine t_no hs rfl rfl (by decide) ?_
                        clear hs a; intro a hs
                        refine t_pure hs rfl rfl (by decide) (p_pick_t rfl rfl rfl) ?_
                        clear hs a; intro a hs
                        exact J5 true _ _ (hs.to ⟨rfl, rfl, rfl, rfl, rfl, rfl, rfl, trivial⟩) h
                      · replace h := h.2 hb
                        rw [hb] at hs
                        clear hb
                        refine t_yes hs rfl ?_
                        refine t_pure hs rfl rfl (by decide) (p_move rfl rfl) ?_
                        clear hs a; intro a hs
                        refine t_yes hs rfl ?_
                        refine t_pure hs rfl rfl (by decide) (p_move rfl rfl) ?_
                        clear hs a; intro a hs
                        replace hs := hs.to (τ := [(0, (Sl.val a0)), (1, (Sl.val b1)), (5, (.pointer t30x0)), (7, (.pointer t43x0)), (9, (.pointer t48x0)), (11, (.int .i64 i11_3)), (90, (.bool false)), (91, (.int .i64 i11_3)), (92, (Sl.val b1))]) ⟨rfl, rfl, rfl, rfl, rfl, rfl, rfl, rfl, rfl, trivial⟩
                        refine t_yes hs rfl ?_
                        refine t_pure hs rfl rfl (by decide) (p_len rfl rfl sl_54) ?_
                        clear hs a; intro a hs
                        refine t_yes hs rfl ?_
                        refine t_pure hs rfl rfl (by decide) (p_lt rfl rfl rfl) ?_
                        clear hs a; intro a hs
                        refine t_yes hs rfl ?_
                        refine t_pure hs rfl rfl (by decide) (p_move rfl rfl) ?_
                        clear hs a; intro a hs
                        refine split_bool (decide (i11_3 < (b1.n : Int))) (fun hb => ?_) (fun hb => ?_)
                        · replace h := h.1 hb
                          rw [hb] at hs
                          clear hb
                          refine t_yes hs rfl ?_
                          refine t_pure hs rfl rfl (by decide) (p_move rfl rfl) ?_
                          clear hs a; intro a hs
                          refine t_yes hs rfl ?_
                          refine t_pure hs rfl rfl (by decide) (p_move rfl rfl) ?_
                          clear hs a; intro a hs
                          refine t_yes hs rfl ?_
                          obtain ⟨qt98, t98, ha, h0, h1, he, h⟩ := h
                          refine t_pure hs rfl rfl (by decide) (Pure.adr he (p_idx rfl rfl rfl sl_54 ha h0 h1)) ?_
                          clear hs a ha h0 h1 he; intro a hs
                          refine t_yes hs rfl ?_
                          obtain ⟨t99, hv, h⟩ := h
                          refine t_eff hs rfl rfl (by decide) (e_load rfl rfl ct_22 hv) ?_
                          clear hs a hv; intro a hs
                          refine t_yes hs rfl ?_
                          refine t_pure hs rfl rfl (by decide) (p_len rfl rfl sl_22) ?_
                          clear hs a; intro a hs
                          replace hs := hs.to (τ := [(0, (Sl.val a0)), (1, (Sl.val b1)), (5, (.pointer t30x0)), (7, (.pointer t43x0)), (9, (.pointer t48x0)), (11, (.int .i64 i11_3)), (90, (.bool false)), (95, (.bool true)), (100, (.int .i64 (t99.n : Int)))]) ⟨rfl, rfl, rfl, rfl, rfl, rfl, rfl, rfl, rfl, trivial⟩
                          refine t_yes hs rfl ?_
                          refine t_pure hs rfl rfl (by decide) (p_le rfl rfl rfl) ?_
                          clear hs a; intro a hs
                          refine t_yes hs rfl ?_
                          refine t_pure hs rfl rfl (by decide) (p_pick_t rfl rfl rfl) ?_
                          clear hs a; intro a hs
                          refine t_yes hs rfl ?_
                          refine t_pure hs rfl rfl (by decide) (p_move rfl rfl) ?_
                          clear hs a; intro a hs
                          refine split_bool (decide ((t99.n : Int) ≤ 1000)) (fun hb => ?_) (fun hb => ?_)
                          · replace h := h.1 hb
                            rw [hb] at hs
                            clear hb
                            refine t_yes hs rfl ?_
                            refine t_pure hs rfl rfl (by decide) (p_move rfl rfl) ?_
                            clear hs a; intro a hs
                            refine t_yes hs rfl ?_
                            refine t_pure hs rfl rfl (by decide) (p_move rfl rfl) ?_
                            clear hs a; intro a hs
                            refine t_yes hs rfl ?_
                            refine t_pure hs rfl rfl (by decide) (p_move rfl rfl) ?_
                            clear hs a; intro a hs
                            refine t_yes hs rfl ?_
                            obtain ⟨qt107, t107, ha, h0, h1, he, h⟩ := h
                            refine t_pure hs rfl rfl (by decide) (Pure.adr he (p_idx rfl rfl rfl sl_54 ha h0 h1)) ?_
                            clear hs a ha h0 h1 he; intro a hs
                            refine t_yes hs rfl ?_
                            obtain ⟨t108, hv, h⟩ := h
                            refine t_eff hs rfl rfl (by decide) (e_load rfl rfl ct_22 hv) ?_
                            clear hs a hv; intro a hs
                            replace hs := hs.to (τ := [(0, (Sl.val a0)), (1, (Sl.val b1)), (5, (.pointer t30x0)), (7, (.pointer t43x0)), (9, (.pointer t48x0)), (11, (.int .i64 i11_3)), (90, (.bool false)), (103, (.bool true)), (104, (.pointer t48x0)), (108, (Sl.val t108))]) ⟨rfl, rfl, rfl, rfl, rfl, rfl, rfl, rfl, rfl, rfl, trivial⟩
                            refine t_yes hs rfl ?_
                            refine t_call hs rfl rfl (by decide) (e_call rfl rfl rfl cb_31) h ?_
                            clear hs a h
                            intro v a w hk hs
                            obtain ⟨t109, rfl, h⟩ := hk
                            refine t_yes hs rfl ?_
                            refine t_pure hs rfl rfl (by decide) (p_ne rfl rfl rfl) ?_
                            clear hs a; intro a hs
                            refine t_yes hs rfl ?_
                            refine t_pure hs rfl rfl (by decide) (p_pick_t rfl rfl rfl) ?_
                            clear hs a; intro a hs
                            refine t_pure hs rfl rfl (by decide) (p_pick_f rfl rfl rfl) ?_
                            clear hs a; intro a hs
                            exact J5 (decide (t109 ≠ 0)) _ _ (hs.to ⟨rfl, rfl, rfl, rfl, rfl, rfl, rfl, trivial⟩) h
                          · replace h := h.2 hb
                            rw [hb] at hs
                            clear hb
                            refine t_no hs rfl rfl (by decide) ?_
                            clear hs a; intro a hs
                            refine t_no hs rfl rfl (by decide) ?_
                            clear hs a; intro a hs
                            refine t_no hs rfl rfl (by decide) ?_
                            clear hs a; intro a hs
                            refine t_no hs rfl rfl (by decide) ?_
                            clear hs a; intro a hs
                            refine t_no hs rfl rfl (by decide) ?_
                            clear hs a; intro a hs
                            replace hs := hs.to (τ := [(0, (Sl.val a0)), (1, (Sl.val b1)), (5, (.pointer t30x0)), (7, (.pointer t43x0)), (9, (.pointer t48x0)), (11, (.int .i64 i11_3)), (90, (.bool false)), (103, (.bool false)), (104, undef), (108, undef)]) ⟨rfl, rfl, rfl, rfl, rfl, rfl, rfl, rfl, rfl, rfl, trivial⟩
                            refine t_no hs rfl rfl (by decide) ?_
                            clear hs a; intro a hs
                            refine t_no hs rfl rfl (by decide) ?_
                            clear hs a; intro a hs
                            refine t_yes hs rfl ?_
                            refine t_pure hs rfl rfl (by decide) (p_pick_f rfl rfl rfl) ?_
                            clear hs a; intro a hs
                            refine t_pure hs rfl rfl (by decide) (p_pick_f rfl rfl rfl) ?_
                            clear hs a; intro a hs
                            exact J5 false _ _ (hs.to ⟨rfl, rfl, rfl, rfl, rfl, rfl, rfl, trivial⟩) h
                        · replace h := h.2 hb
                          rw [hb] at hs
                          clear hb
                          refine t_no hs rfl rfl (by decide) ?_
                          clear hs a; intro a hs
                          refine t_no hs rfl rfl (by decide) ?_
                          clear hs a; intro a hs
                          refine t_no hs rfl rfl (by decide) ?_
                          clear hs a; intro a hs
                          refine t_no hs rfl rfl (by decide) ?_
                          clear hs a; intro a hs
                          refine t_no hs rfl rfl (by decide) ?_
                          clear hs a; intro a hs
                          replace hs := hs.to (τ := [(0, (Sl.val a0)), (1, (Sl.val b1)), (5, (.pointer t30x0)), (7, (.pointer t43x0)), (9, (.pointer t48x0)), (11, (.int .i64 i11_3)), (90, (.bool false)), (95, (.bool false)), (100, undef)]) ⟨rfl, rfl, rfl, rfl, rfl, rfl, rfl, rfl, rfl, trivial⟩
                          refine t_no hs rfl rfl (by decide) ?_
                          clear hs a; intro a hs
                          refine t_yes hs rfl ?_
                          refine t_pure hs rfl rfl (by decide) (p_pick_f rfl rfl rfl) ?_
                          clear hs a; intro a hs
                          refine t_yes hs rfl ?_
                          refine t_pure hs rfl rfl (by decide) (p_move rfl rfl) ?_
                          clear hs a; intro a hs
                          refine t_no hs rfl rfl (by decide) ?_
                          clear hs a; intro a hs
                          refine t_no hs rfl rfl (by decide) ?_
                          clear hs a; intro a hs
                          refine t_no hs rfl rfl (by decide) ?_
                          clear hs a; intro a hs
                          refine t_no hs rfl rfl (by decide) ?_
                          clear hs a; intro a hs
                          refine t_no hs rfl rfl (by decide) ?_
                          clear hs a; intro a hs
                          replace hs := hs.to (τ := [(0, (Sl.val a0)), (1, (Sl.val b1)), (5, (.pointer t30x0)), (7, (.pointer t43x0)), (9, (.pointer t48x0)), (11, (.int .i64 i11_3)), (90, (.bool false)), (103, (.bool false)), (104, undef), (108, undef)]) ⟨rfl, rfl, rfl, rfl, rfl, rfl, rfl, rfl, rfl, rfl, trivial⟩
                          refine t_no hs rfl rfl (by decide) ?_
                          clear hs a; intro a hs
                          refine t_no hs rfl rfl (by decide) ?_
                          clear hs a; intro a hs
                          refine t_yes hs rfl ?_
                          refine t_pure hs rfl rfl (by decide) (p_pick_f rfl rfl rfl) ?_
                          clear hs a; intro a hs
                          refine t_pure hs rfl rfl (by decide) (p_pick_f rfl rfl rfl) ?_
                          clear hs a; intro a hs
                          exact J5 false _ _ (hs.to ⟨rfl, rfl, rfl, rfl, rfl, rfl, rfl, trivial⟩) h
                    · replace h := h.2 hb
                      rw [hb] at hs
                      clear hb
                      refine t_no hs rfl rfl (by decide) ?_
                      clear hs a; intro a hs
                      refine t_no hs rfl rfl (by decide) ?_
                      clear hs a; intro a hs
                      refine t_no hs rfl rfl (by decide) ?_
                      clear hs a; intro a hs
                      replace hs := hs.to (τ := [(0, (Sl.val a0)), (1, (Sl.val b1)), (5, (.pointer t30x0)), (7, (.pointer t43x0)), (9, (.pointer t48x0)), (11, (.int .i64 i11_3)), (81, (.bool false)), (82, undef), (83, undef), (84, undef)]) ⟨rfl, rfl, rfl, rfl, rfl, rfl, rfl, rfl, rfl, rfl, trivial⟩
                      refine t_no hs rfl rfl (by decide) ?_
                      clear hs a; intro a hs
                      refine t_no hs rfl rfl (by decide) ?_
                      clear hs a; intro a hs
                      refine t_no hs rfl rfl (by decide) ?_
                      clear hs a; intro a hs
                      refine t_no hs rfl rfl (by decide) ?_
                      clear hs a; intro a hs
                      refine t_pure hs rfl rfl (by decide) (p_pick_f rfl rfl rfl) ?_
                      clear hs a; intro a hs
                      refine t_pure hs rfl rfl (by decide) (p_move rfl rfl) ?_
                      clear hs a; intro a hs
                      refine t_yes hs rfl ?_
                      refine t_pure hs rfl rfl (by decide) (p_move rfl rfl) ?_
                      clear hs a; intro a hs
                      refine t_yes hs rfl ?_
                      refine t_pure hs rfl rfl (by decide) (p_move rfl rfl) ?_
                      clear hs a; intro a hs
                      replace hs := hs.to (τ := [(0, (Sl.val a0)), (1, (Sl.val b1)), (5, (.pointer t30x0)), (7, (.pointer t43x0)), (9, (.pointer t48x0)), (11, (.int .i64 i11_3)), (90, (.bool false)), (91, (.int .i64 i11_3)), (92, (Sl.val b1))]) ⟨rfl, rfl, rfl, rfl, rfl, rfl, rfl, rfl, rfl, trivial⟩
                      refine t_yes hs rfl ?_
                      refine t_pure hs rfl rfl (by decide) (p_len rfl rfl sl_54) ?_
                      clear hs a; intro a hs
                      refine t_yes hs rfl ?_
                      refine t_pure hs rfl rfl (by decide) (p_lt rfl rfl rfl) ?_
                      clear hs a; intro a hs
                      refine t_yes hs rfl ?_
                      refine t_pure hs rfl rfl (by decide) (p_move rfl rfl) ?_
                      clear hs a; intro a hs
                      refine split_bool (decide (i11_3 < (b1.n : Int))) (fun hb => ?_) (fun hb => ?_)
                      · replace h := h.1 hb
                        rw [hb] at hs
                        clear hb
                        refine t_yes hs rfl ?_
                        refine t_pure hs rfl rfl (by decide) (p_move rfl rfl) ?_
                        clear hs a; intro a hs
                        refine t_yes hs rfl ?_
                        refine t_pure hs rfl rfl (by decide) (p_move rfl rfl) ?_
                        clear hs a; intro a hs
                        refine t_yes hs rfl ?_
                        obtain ⟨qt98, t98, ha, h0, h1, he, h⟩ := h
                        refine t_pure hs rfl rfl (by decide) (Pure.adr he (p_idx rfl rfl rfl sl_54 ha h0 h1)) ?_
                        clear hs a ha h0 h1 he; intro a hs
                        refine t_yes hs rfl ?_
                        obtain ⟨t99, hv, h⟩ := h
                        refine t_eff hs rfl rfl (by decide) (e_load rfl rfl ct_22 hv) ?_
                        clear hs a hv; intro a hs
                        refine t_yes hs rfl ?_
                        refine t_pure hs rfl rfl (by decide) (p_len rfl rfl sl_22) ?_
                        clear hs a; intro a hs
                        replace hs := hs.to (τ := [(0, (Sl.val a0)), (1, (Sl.val b1)), (5, (.pointer t30x0)), (7, (.pointer t43x0)), (9, (.pointer t48x0)), (11, (.int .i64 i11_3)), (90, (.bool false)), (95, (.bool true)), (100, (.int .i64 (t99.n : Int)))]) ⟨rfl, rfl, rfl, rfl, rfl, rfl, rfl, rfl, rfl, trivial⟩
                        refine t_yes hs rfl ?_
                        refine t_pure hs rfl rfl (by decide) (p_le rfl rfl rfl) ?_
                        clear hs a; intro a hs
                        refine t_yes hs rfl ?_
                        refine t_pure hs rfl rfl (by decide) (p_pick_t rfl rfl rfl) ?_
                        clear hs a; intro a hs
                        refine t_yes hs rfl ?_
                        refine t_pure hs rfl rfl (by decide) (p_move rfl rfl) ?_
                        clear hs a; intro a hs
                        refine split_bool (decide ((t99.n : Int) ≤ 1000)) (fun hb => ?_) (fun hb => ?_)
                        · replace h := h.1 hb
                          rw [hb] at hs
                          clear hb
                          refine t_yes hs rfl ?_
                          refine t_pure hs rfl rfl (by decide) (p_move rfl rfl) ?_
                          clear hs a; intro a hs
                          refine t_yes hs rfl ?_
                          refine t_pure hs rfl rfl (by decide) (p_move rfl rfl) ?_
                          clear hs a; intro a hs
                          refine t_yes hs rfl ?_
                          refine t_pure hs rfl rfl (by decide) (p_move rfl rfl) ?_
                          clear hs a; intro a hs
                          refine t_yes hs rfl ?_
                          obtain ⟨qt107, t107, ha, h0, h1, he, h⟩ := h
                          refine t_pure hs rfl rfl (by decide) (Pure.adr he (p_idx rfl rfl rfl sl_54 ha h0 h1)) ?_
                          clear hs a ha h0 h1 he; intro a hs
                          refine t_yes hs rfl ?_
                          obtain ⟨t108, hv, h⟩ := h
                          refine t_eff hs rfl rfl (by decide) (e_load rfl rfl ct_22 hv) ?_
                          clear hs a hv; intro a hs
                          replace hs := hs.to (τ := [(0, (Sl.val a0)), (1, (Sl.val b1)), (5, (.pointer t30x0)), (7, (.pointer t43x0)), (9, (.pointer t48x0)), (11, (.int .i64 i11_3)), (90, (.bool false)), (103, (.bool true)), (104, (.pointer t48x0)), (108, (Sl.val t108))]) ⟨rfl, rfl, rfl, rfl, rfl, rfl, rfl, rfl, rfl, rfl, trivial⟩
                          refine t_yes hs rfl ?_
                          refine t_call hs rfl rfl (by decide) (e_call rfl rfl rfl cb_31) h ?_
                          clear hs a h
                          intro v a w hk hs
                          obtain ⟨t109, rfl, h⟩ := hk
                          refine t_yes hs rfl ?_
                          refine t_pure hs rfl rfl (by decide) (p_ne rfl rfl rfl) ?_
                          clear hs a; intro a hs
                          refine t_yes hs rfl ?_
                          refine t_pure hs rfl rfl (by decide) (p_pick_t rfl rfl rfl) ?_
                          clear hs a; intro a hs
                          refine t_pure hs rfl rfl (by decide) (p_pick_f rfl rfl rfl) ?_
                          clear hs a; intro a hs
                          exact J5 (decide (t109 ≠ 0)) _ _ (hs.to ⟨rfl, rfl, rfl, rfl, rfl, rfl, rfl, trivial⟩) h
                        · replace h := h.2 hb
                          rw [hb] at hs
                          clear hb
                          refine t_no hs rfl rfl (by decide) ?_
                          clear hs a; intro a hs
                          refine t_no hs rfl rfl (by decide) ?_
                          clear hs a; intro a hs
                          refine t_no hs rfl rfl (by decide) ?_
                          clear hs a; intro a hs
                          refine t_no hs rfl rfl (by decide) ?_
                          clear hs a; intro a hs
                          refine t_no hs rfl rfl (by decide) ?_
                          clear hs a; intro a hs
                          replace hs := hs.to (τ := [(0, (Sl.val a0)), (1, (Sl.val b1)), (5, (.pointer t30x0)), (7, (.pointer t43x0)), (9, (.pointer t48x0)), (11, (.int .i64 i11_3)), (90, (.bool false)), (103, (.bool false)), (104, undef), (108, undef)]) ⟨rfl, rfl, rfl, rfl, rfl, rfl, rfl, rfl, rfl, rfl, trivial⟩
                          refine t_no hs rfl rfl (by decide) ?_
                          clear hs a; intro a hs
                          refine t_no hs rfl rfl (by decide) ?_
                          clear hs a; intro a hs
                          refine t_yes hs rfl ?_
                          refine t_pure hs rfl rfl (by decide) (p_pick_f rfl rfl rfl) ?_
                          clear hs a; intro a hs
                          refine t_pure hs rfl rfl (by decide) (p_pick_f rfl rfl rfl) ?_
                          clear hs a; intro a hs
                          exact J5 false _ _ (hs.to ⟨rfl, rfl, rfl, rfl, rfl, rfl, rfl, trivial⟩) h
                      · replace h := h.2 hb
                        rw [hb] at hs
                        clear hb
                        refine t_no hs rfl rfl (by decide) ?_
                        clear hs a; intro a hs
                        refine t_no hs rfl rfl (by decide) ?_
                        clear hs a; intro a hs
                        refine t_no hs rfl rfl (by decide) ?_
                        clear hs a; intro a hs
                        refine t_no hs rfl rfl (by decide) ?_
                        clear hs a; intro a hs
                        refine t_no hs rfl rfl (by decide) ?_
                        clear hs a; intro a hs
                        replace hs := hs.to (τ := [(0, (Sl.val a0)), (1, (Sl.val b1)), (5, (.pointer t30x0)), (7, (.pointer t43x0)), (9, (.pointer t48x0)), (11, (.int .i64 i11_3)), (90, (.bool false)), (95, (.bool false)), (100, undef)]) ⟨rfl, rfl, rfl, rfl, rfl, rfl, rfl, rfl, rfl, trivial⟩
                        refine t_no hs rfl rfl (by decide) ?_
                        clear hs a; intro a hs
                        refine t_yes hs rfl ?_
                        refine t_pure hs rfl rfl (by decide) (p_pick_f rfl rfl rfl) ?_
                        clear hs a; intro a hs
                        refine t_yes hs rfl ?_
                        refine t_pure hs rfl rfl (by decide) (p_move rfl rfl) ?_
                        clear hs a; intro a hs
                        refine t_no hs rfl rfl (by decide) ?_
                        clear hs a; intro a hs
                        refine t_no hs rfl rfl (by decide) ?_
                        clear hs a; intro a hs
                        refine t_no hs rfl rfl (by decide) ?_
                        clear hs a; intro a hs
                        refine t_no hs rfl rfl (by decide) ?_
                        clear hs a; intro a hs
                        refine t_no hs rfl rfl (by decide) ?_
                        clear hs a; intro a hs
                        replace hs := hs.to (τ := [(0, (Sl.val a0)), (1, (Sl.val b1)), (5, (.pointer t30x0)), (7, (.pointer t43x0)), (9, (.pointer t48x0)), (11, (.int .i64 i11_3)), (90, (.bool false)), (103, (.bool false)), (104, undef), (108, undef)]) ⟨rfl, rfl, rfl, rfl, rfl, rfl, rfl, rfl, rfl, rfl, trivial⟩
                        refine t_no hs rfl rfl (by decide) ?_
                        clear hs a; intro a hs
                        refine t_no hs rfl rfl (by decide) ?_
                        clear hs a; intro a hs
                        refine t_yes hs rfl ?_
                        refine t_pure hs rfl rfl (by decide) (p_pick_f rfl rfl rfl) ?_
                        clear hs a; intro a hs
                        refine t_pure hs rfl rfl (by decide) (p_pick_f rfl rfl rfl) ?_
                        clear hs a; intro a hs
                        exact J5 false _ _ (hs.to ⟨rfl, rfl, rfl, rfl, rfl, rfl, rfl, trivial⟩) h
                  · replace h := h.2 hb
                    rw [hb] at hs
                    clear hb
                    refine t_no hs rfl rfl (by decide) ?_
                    clear hs a; intro a hs
                    refine t_no hs rfl rfl (by decide) ?_
                    clear hs a; intro a hs
                    refine t_no hs rfl rfl (by decide) ?_
                    clear hs a; intro a hs
                    replace hs := hs.to (τ := [(0, (Sl.val a0)), (1, (Sl.val b1)), (5, (.pointer t30x0)), (7, (.pointer t43x0)), (9, (.pointer t48x0)), (11, (.int .i64 i11_3)), (73, (.bool false)), (76, undef)]) ⟨rfl, rfl, rfl, rfl, rfl, rfl, rfl, rfl, trivial⟩
                    refine t_no hs rfl rfl (by decide) ?_
                    clear hs a; intro a hs
                    refine t_no hs rfl rfl (by decide) ?_
                    clear hs a; intro a hs
                    refine t_no hs rfl rfl (by decide) ?_
                    clear hs a; intro a hs
                    refine t_pure hs rfl rfl (by decide) (p_pick_f rfl rfl rfl) ?_
                    clear hs a; intro a hs
                    refine t_pure hs rfl rfl (by decide) (p_move rfl rfl) ?_
                    clear hs a; intro a hs
                    refine t_no hs rfl rfl (by decide) ?_
                    clear hs a; intro a hs
                    refine t_no hs rfl rfl (by decide) ?_
                    clear hs a; intro a hs
                    refine t_no hs rfl rfl (by decide) ?_
                    clear hs a; intro a hs
                    replace hs := hs.to (τ := [(0, (Sl.val a0)), (1, (Sl.val b1)), (5, (.pointer t30x0)), (7, (.pointer t43x0)), (9, (.pointer t48x0)), (11, (.int .i64 i11_3)), (81, (.bool false)), (82, undef), (83, undef), (84, undef)]) ⟨rfl, rfl, rfl, rfl, rfl, rfl, rfl, rfl, rfl, rfl, trivial⟩
                    refine t_no hs rfl rfl (by decide) ?_
                    clear hs a; intro a hs
                    refine t_no hs rfl rfl (by decide) ?_
                    clear hs a; intro a hs
                    refine t_no hs rfl rfl (by decide) ?_
                    clear hs a; intro a hs
                    refine t_no hs rfl rfl (by decide) ?_
                    clear hs a; intro a hs
                    refine t_pure hs rfl rfl (by decide) (p_pick_f rfl rfl rfl) ?_
                    clear hs a; intro a hs
                    refine t_pure hs rfl rfl (by decide) (p_move rfl rfl) ?_
                    clear hs a; intro a hs
                    refine t_yes hs rfl ?_
                    refine t_pure hs rfl rfl (by decide) (p_move rfl rfl) ?_
                    clear hs a; intro a hs
                    refine t_yes hs rfl ?_
                    refine t_pure hs rfl rfl (by decide) (p_move rfl rfl) ?_
                    clear hs a; intro a hs
                    replace hs := hs.to (τ := [(0, (Sl.val a0)), (1, (Sl.val b1)), (5, (.pointer t30x0)), (7, (.pointer t43x0)), (9, (.pointer t48x0)), (11, (.int .i64 i11_3)), (90, (.bool false)), (91, (.int .i64 i11_3)), (92, (Sl.val b1))]) ⟨rfl, rfl, rfl, rfl, rfl, rfl, rfl, rfl, rfl, trivial⟩
                    refine t_yes hs rfl ?_
                    refine t_pure hs rfl rfl (by decide) (p_len rfl rfl sl_54) ?_
                    clear hs a; intro a hs
                    refine t_yes hs rfl ?_
                    refine t_pure hs rfl rfl (by decide) (p_lt rfl rfl rfl) ?_
                    clear hs a; intro a hs
                    refine t_yes hs rfl ?_
                    refine t_pure hs rfl rfl (by decide) (p_move rfl rfl) ?_
                    clear hs a; intro a hs
                    refine split_bool (decide (i11_3 < (b1.n : Int))) (fun hb => ?_) (fun hb => ?_)
                    · replace h := h.1 hb
                      rw [hb] at hs
                      clear hb
                      refine t_yes hs rfl ?_
                      refine t_pure hs rfl rfl (by decide) (p_move rfl rfl) ?_
                      clear hs a; intro a hs
                      refine t_yes hs rfl ?_
                      refine t_pure hs rfl rfl (by decide) (p_move rfl rfl) ?_
                      clear hs a; intro a hs
                      refine t_yes hs rfl ?_
                      obtain ⟨qt98, t98, ha, h0, h1, he, h⟩ := h
                      refine t_pure hs rfl rfl (by decide) (Pure.adr he (p_idx rfl rfl rfl sl_54 ha h0 h1)) ?_
                      clear hs a ha h0 h1 he; intro a hs
                      refine t_yes hs rfl ?_
                      obtain ⟨t99, hv, h⟩ := h
                      refine t_eff hs rfl rfl (by decide) (e_load rfl rfl ct_22 hv) ?_
                      clear hs a hv; intro a hs
                      refine t_yes hs rfl ?_
                      refine t_pure hs rfl rfl (by decide) (p_len rfl rfl sl_22) ?_
                      clear hs a; intro a hs
                      replace hs := hs.to (τ := [(0, (Sl.val a0)), (1, (Sl.val b1)), (5, (.pointer t30x0)), (7, (.pointer t43x0)), (9, (.pointer t48x0)), (11, (.int .i64 i11_3)), (90, (.bool false)), (95, (.bool true)), (100, (.int .i64 (t99.n : Int)))]) ⟨rfl, rfl, rfl, rfl, rfl, rfl, rfl, rfl, rfl, trivial⟩
                      refine t_yes hs rfl ?_
                      refine t_pure hs rfl rfl (by decide) (p_le rfl rfl rfl) ?_
                      clear hs a; intro a hs
                      refine t_yes hs rfl ?_
                      refine t_pure hs rfl rfl (by decide) (p_pick_t rfl rfl rfl) ?_
                      clear hs a; intro a hs
                      refine t_yes hs rfl ?_
                      refine t_pure hs rfl rfl (by decide) (p_move rfl rfl) ?_
                      clear hs a; intro a hs
                      refine split_bool (decide ((t99.n : Int) ≤ 1000)) (fun hb => ?_) (fun hb => ?_)
                      · replace h := h.1 hb
                        rw [hb] at hs
                        clear hb
                        refine t_yes hs rfl ?_
                        refine t_pure hs rfl rfl (by decide) (p_move rfl rfl) ?_
                        clear hs a; intro a hs
                        refine t_yes hs rfl ?_
                        refine t_pure hs rfl rfl (by decide) (p_move rfl rfl) ?_
                        clear hs a; intro a hs
                        refine t_yes hs rfl ?_
                        refine t_pure hs rfl rfl (by decide) (p_move rfl rfl) ?_
                        clear hs a; intro a hs
                        refine t_yes hs rfl ?_
                        obtain ⟨qt107, t107, ha, h0, h1, he, h⟩ := h
                        refine t_pure hs rfl rfl (by decide) (Pure.adr he (p_idx rfl rfl rfl sl_54 ha h0 h1)) ?_
                        clear hs a ha h0 h1 he; intro a hs
                        refine t_yes hs rfl ?_
                        obtain ⟨t108, hv, h⟩ := h
                        refine t_eff hs rfl rfl (by decide) (e_load rfl rfl ct_22 hv) ?_
                        clear hs a hv; intro a hs
                        replace hs := hs.to (τ := [(0, (Sl.val a0)), (1, (Sl.val b1)), (5, (.pointer t30x0)), (7, (.pointer t43x0)), (9, (.pointer t48x0)), (11, (.int .i64 i11_3)), (90, (.bool false)), (103, (.bool true)), (104, (.pointer t48x0)), (108, (Sl.val t108))]) ⟨rfl, rfl, rfl, rfl, rfl, rfl, rfl, rfl, rfl, rfl, trivial⟩
                        refine t_yes hs rfl ?_
                        refine t_call hs rfl rfl (by decide) (e_call rfl rfl rfl cb_31) h ?_
                        clear hs a h
                        intro v a w hk hs
                        obtain ⟨t109, rfl, h⟩ := hk
                        refine t_yes hs rfl ?_
                        refine t_pure hs rfl rfl (by decide) (p_ne rfl rfl rfl) ?_
                        clear hs a; intro a hs
                        refine t_yes hs rfl ?_
                        refine t_pure hs rfl rfl (by decide) (p_pick_t rfl rfl rfl) ?_
                        clear hs a; intro a hs
                        refine t_pure hs rfl rfl (by decide) (p_pick_f rfl rfl rfl) ?_
                        clear hs a; intro a hs
                        exact J5 (decide (t109 ≠ 0)) _ _ (hs.to ⟨rfl, rfl, rfl, rfl, rfl, rfl, rfl, trivial⟩) h
                      · replace h := h.2 hb
                        rw [hb] at hs
                        clear hb
                        refine t_no hs rfl rfl (by decide) ?_
                        clear hs a; intro a hs
                        refine t_no hs rfl rfl (by decide) ?_
                        clear hs a; intro a hs
                        refine t_no hs rfl rfl (by decide) ?_
                        clear hs a; intro a hs
                        refine t_no hs rfl rfl (by decide) ?_
                        clear hs a; intro a hs
                        refine t_no hs rfl rfl (by decide) ?_
                        clear hs a; intro a hs
                        replace hs := hs.to (τ := [(0, (Sl.val a0)), (1, (Sl.val b1)), (5, (.pointer t30x0)), (7, (.pointer t43x0)), (9, (.pointer t48x0)), (11, (.int .i64 i11_3)), (90, (.bool false)), (103, (.bool false)), (104, undef), (108, undef)]) ⟨rfl, rfl, rfl, rfl, rfl, rfl, rfl, rfl, rfl, rfl, trivial⟩
                        refine t_no hs rfl rfl (by decide) ?_
                        clear hs a; intro a hs
                        refine t_no hs rfl rfl (by decide) ?_
                        clear hs a; intro a hs
                        refine t_yes hs rfl ?_
                        refine t_pure hs rfl rfl (by decide) (p_pick_f rfl rfl rfl) ?_
                        clear hs a; intro a hs
                        refine t_pure hs rfl rfl (by decide) (p_pick_f rfl rfl rfl) ?_
                        clear hs a; intro a hs
                        exact J5 false _ _ (hs.to ⟨rfl, rfl, rfl, rfl, rfl, rfl, rfl, trivial⟩) h
                    · replace h := h.2 hb
                      rw [hb] at hs
                      clear hb
                      refine t_no hs rfl rfl (by decide) ?_
                      clear hs a; intro a hs
                      refine t_no hs rfl rfl (by decide) ?_
                      clear hs a; intro a hs
                      refine t_no hs rfl rfl (by decide) ?_
                      clear hs a; intro a hs
                      refine t_no hs rfl rfl (by decide) ?_
                      clear hs a; intro a hs
                      refine t_no hs rfl rfl (by decide) ?_
                      clear hs a; intro a hs
                      replace hs := hs.to (τ := [(0, (Sl.val a0)), (1, (Sl.val b1)), (5, (.pointer t30x0)), (7, (.pointer t43x0)), (9, (.pointer t48x0)), (11, (.int .i64 i11_3)), (90, (.bool false)), (95, (.bool false)), (100, undef)]) ⟨rfl, rfl, rfl, rfl, rfl, rfl, rfl, rfl, rfl, trivial⟩
                      refine t_no hs rfl rfl (by decide) ?_
                      clear hs a; intro a hs
                      refine t_yes hs rfl ?_
                      refine t_pure hs rfl rfl (by decide) (p_pick_f rfl rfl rfl) ?_
                      clear hs a; intro a hs
                      refine t_yes hs rfl ?_
                      refine t_pure hs rfl rfl (by decide) (p_move rfl rfl) ?_
                      clear hs a; intro a hs
                      refine t_no hs rfl rfl (by decide) ?_
                      clear hs a; intro a hs
                      refine t_no hs rfl rfl (by decide) ?_
                      clear hs a; intro a hs
                      refine t_no hs rfl rfl (by decide) ?_
                      clear hs a; intro a hs
                      refine t_no hs rfl rfl (by decide) ?_
                      clear hs a; intro a hs
                      refine t_no hs rfl rfl (by decide) ?_
                      clear hs a; intro a hs
                      replace hs := hs.to (τ := [(0, (Sl.val a0)), (1, (Sl.val b1)), (5, (.pointer t30x0)), (7, (.pointer t43x0)), (9, (.pointer t48x0)), (11, (.int .i64 i11_3)), (90, (.bool false)), (103, (.bool false)), (104, undef), (108, undef)]) ⟨rfl, rfl, rfl, rfl, rfl, rfl, rfl, rfl, rfl, rfl, trivial⟩
                      refine t_no hs rfl rfl (by decide) ?_
                      clear hs a; intro a hs
                      refine t_no hs rfl rfl (by decide) ?_
                      clear hs a; intro a hs
                      refine t_yes hs rfl ?_
                      refine t_pure hs rfl rfl (by decide) (p_pick_f rfl rfl rfl) ?_
                      clear hs a; intro a hs
                      refine t_pure hs rfl rfl (by decide) (p_pick_f rfl rfl rfl) ?_
                      clear hs a; intro a hs
                      exact J5 false _ _ (hs.to ⟨rfl, rfl, rfl, rfl, rfl, rfl, rfl, trivial⟩) h
                · replace h := h.2 hb
                  clear hb
                  refine wp_exit ?_
                  refine hK19 _ _ ?_
                  refine wp_seq_k fun K26 hK26 => ?_
                  refine wp_region_lit ?_
                  refine t_pure hs rfl rfl (by decide) (p_move rfl rfl) ?_
                  clear hs a; intro a hs
                  refine t_call hs rfl rfl (by decide) (e_call rfl rfl rfl cb_29) h ?_
                  clear hs a h
                  intro v a w hk hs
                  obtain ⟨t114, rfl, h⟩ := hk
                  refine hK26 _ _ ?_
                  refine wp_seq_k fun K27 hK27 => ?_
                  refine wp_region_lit ?_
                  refine t_pure hs rfl rfl (by decide) (p_move rfl rfl) ?_
                  clear hs a; intro a hs
                  refine t_call hs rfl rfl (by decide) (e_call rfl rfl rfl cb_29) h ?_
                  clear hs a h
                  intro v a w hk hs
                  obtain ⟨t116, rfl, h⟩ := hk
                  refine hK27 _ _ ?_
                  refine wp_seq_k fun K28 hK28 => ?_
                  refine wp_region_lit ?_
                  refine t_pure hs rfl rfl (by decide) (p_move rfl rfl) ?_
                  clear hs a; intro a hs
                  refine t_call hs rfl rfl (by decide) (e_call rfl rfl rfl cb_32) h ?_
                  clear hs a h
                  intro v a w hk hs
                  obtain ⟨t118, rfl, h⟩ := hk
                  refine t_pure hs rfl rfl (by decide) (p_assign rfl rfl) ?_
                  clear hs a; intro a hs
                  refine hK28 _ _ ?_
                  refine wp_seq_k fun K29 hK29 => ?_
                  refine wp_seq_k fun K30 hK30 => ?_
                  refine wp_region_lit ?_
                  refine t_pure hs rfl rfl (by decide) (p_move rfl rfl) ?_
                  clear hs a; intro a hs
                  refine t_pure hs rfl rfl (by decide) (p_eq_nil rfl rfl rfl Try.underlying57) ?_
                  clear hs a; intro a hs
                  refine hK30 _ _ ?_
                  refine c_cond hs rfl (fun hb => ?_) (fun hb => ?_)
                  · replace h := h.1 hb
                    clear hb
                    refine wp_seq_k fun K31 hK31 => ?_
                    refine wp_region_lit ?_
                    refine t_pure hs rfl rfl (by decide) (p_assign rfl rfl) ?_
                    clear hs a; intro a hs
                    refine hK31 _ _ ?_
                    refine wp_ret ?_
                    refine f_ret (fn := Try.f6) hs (fun a hs => r_one hs rfl (rfl)) ⟨false, rfl, h⟩
                  · replace h := h.2 hb
                    clear hb
                    refine wp_skip ?_
                    refine hK29 _ _ ?_
                    refine wp_seq_k fun K32 hK32 => ?_
                    refine wp_region_lit ?_
                    refine t_pure hs rfl rfl (by decide) (p_move rfl rfl) ?_
                    clear hs a; intro a hs
                    refine t_call hs rfl rfl (by decide) (e_call rfl rfl rfl cb_28) h ?_
                    clear hs a h
                    intro v a w hk hs
                    obtain ⟨t123x0, t123x1, rfl, h⟩ := hk
                    refine t_pure hs rfl rfl (by decide) (p_move rfl rfl) ?_
                    clear hs a; intro a hs
                    refine t_pure hs rfl rfl (by decide) (p_extract rfl rfl rfl) ?_
                    clear hs a; intro a hs
                    refine t_pure hs rfl rfl (by decide) (p_extract rfl rfl rfl) ?_
                    clear hs a; intro a hs
                    refine t_pure hs rfl rfl (by decide) (p_assign rfl rfl) ?_
                    clear hs a; intro a hs
                    refine t_pure hs rfl rfl (by decide) (p_assign rfl rfl) ?_
                    clear hs a; intro a hs
                    refine hK32 _ _ ?_
                    refine wp_seq_k fun K33 hK33 => ?_
                    refine wp_region_lit ?_
                    refine t_pure hs rfl rfl (by decide) (p_move rfl rfl) ?_
                    clear hs a; intro a hs
                    refine t_call hs rfl rfl (by decide) (e_call rfl rfl rfl cb_28) h ?_
                    clear hs a h
                    intro v a w hk hs
                    obtain ⟨t128x0, t128x1, rfl, h⟩ := hk
                    refine t_pure hs rfl rfl (by decide) (p_move rfl rfl) ?_
                    clear hs a; intro a hs
                    refine t_pure hs rfl rfl (by decide) (p_extract rfl rfl rfl) ?_
                    clear hs a; intro a hs
                    refine t_pure hs rfl rfl (by decide) (p_extract rfl rfl rfl) ?_
                    clear hs a; intro a hs
                    refine t_pure hs rfl rfl (by decide) (p_assign rfl rfl) ?_
                    clear hs a; intro a hs
                    refine t_pure hs rfl rfl (by decide) (p_assign rfl rfl) ?_
                    clear hs a; intro a hs
                    refine hK33 _ _ ?_
                    refine wp_seq_k fun K34 hK34 => ?_
                    refine wp_region_lit ?_
                    refine t_pure hs rfl rfl (by decide) (p_move rfl rfl) ?_
                    clear hs a; intro a hs
                    refine t_call hs rfl rfl (by decide) (e_call rfl rfl rfl cb_36) h ?_
                    clear hs a h
                    intro v a w hk hs
                    obtain ⟨t133x0, t133x1, rfl, h⟩ := hk
                    refine t_pure hs rfl rfl (by decide) (p_move rfl rfl) ?_
                    clear hs a; intro a hs
                    refine t_pure hs rfl rfl (by decide) (p_extract rfl rfl rfl) ?_
                    clear hs a; intro a hs
                    refine t_pure hs rfl rfl (by decide) (p_extract rfl rfl rfl) ?_
                    clear hs a; intro a hs
                    refine t_pure hs rfl rfl (by decide) (p_assign rfl rfl) ?_
                    clear hs a; intro a hs
                    refine t_pure hs rfl rfl (by decide) (p_assign rfl rfl) ?_
                    clear hs a; intro a hs
                    refine hK34 _ _ ?_
                    refine wp_seq_k fun K35 hK35 => ?_
                    have J6 : ∀ (t4_6 : Bool) (a : Act) (w : World), Slots a 165 [(4, (.bool t4_6))] → law04_WalBeside.s6 Q X3 t4_6 w → K35 a w := by
                      clear h hs
                      intro t4_6 a w hs h
                      refine hK35 _ _ ?_
                      unfold law04_WalBeside.s6 at h
                      refine wp_ret ?_
                      refine f_ret (fn := Try.f6) hs (fun a hs => r_one hs rfl (rfl)) ⟨t4_6, rfl, h⟩
                    clear hK35
                    refine wp_region_lit ?_
                    refine t_pure hs rfl rfl (by decide) (p_move rfl rfl) ?_
                    clear hs a; intro a hs
                    refine t_pure hs rfl rfl (by decide) (p_ne_nil rfl rfl rfl Try.underlying60) ?_
                    clear hs a; intro a hs
                    refine t_pure hs rfl rfl (by decide) (p_move rfl rfl) ?_
                    clear hs a; intro a hs
                    refine split_bool (!(t123x0).isNone) (fun hb => ?_) (fun hb => ?_)
                    · replace h := h.1 hb
                      rw [hb] at hs
                      clear hb
                      refine t_yes hs rfl ?_
                      refine t_pure hs rfl rfl (by decide) (p_move rfl rfl) ?_
                      clear hs a; intro a hs
                      refine t_yes hs rfl ?_
                      refine t_pure hs rfl rfl (by decide) (p_ne_nil rfl rfl rfl Try.underlying60) ?_
                      clear hs a; intro a hs
                      refine t_pure hs rfl rfl (by decide) (p_pick_t rfl rfl rfl) ?_
                      clear hs a; intro a hs
                      refine t_pure hs rfl rfl (by decide) (p_move rfl rfl) ?_
                      clear hs a; intro a hs
                      refine split_bool (!(t128x0).isNone) (fun hb => ?_) (fun hb => ?_)
                      · replace h := h.1 hb
                        rw [hb] at hs
                        clear hb
                        refine t_yes hs rfl ?_
                        refine t_pure hs rfl rfl (by decide) (p_move rfl rfl) ?_
                        clear hs a; intro a hs
                        replace hs := hs.to (τ := [(7, (.pointer t43x0)), (9, (.pointer t48x0)), (15, (.pointer t128x0)), (17, (Sl.val t133x0)), (18, (.int .i64 t133x1)), (142, (.bool true)), (143, (.pointer t123x0))]) ⟨rfl, rfl, rfl, rfl, rfl, rfl, rfl, trivial⟩
                        refine t_yes hs rfl ?_
                        refine t_call hs rfl rfl (by decide) (e_call rfl rfl rfl cb_30) h ?_
                        clear hs a h
                        intro v a w hk hs
                        obtain ⟨t144, rfl, h⟩ := hk
                        refine t_yes hs rfl ?_
                        refine t_pure hs rfl rfl (by decide) (p_move rfl rfl) ?_
                        clear hs a; intro a hs
                        refine t_yes hs rfl ?_
                        refine t_call hs rfl rfl (by decide) (e_call rfl rfl rfl cb_30) h ?_
                        clear hs a h
                        intro v a w hk hs
                        obtain ⟨t146, rfl, h⟩ := hk
                        refine t_yes hs rfl ?_
                        refine t_call hs rfl rfl (by decide) (e_call rfl rfl rfl cb_33) h ?_
                        clear hs a h
                        intro v a w hk hs
                        obtain ⟨t147, rfl, h⟩ := hk
                        refine t_pure hs rfl rfl (by decide) (p_pick_t rfl rfl rfl) ?_
                        clear hs a; intro a hs
                        refine t_pure hs rfl rfl (by decide) (p_move rfl rfl) ?_
                        clear hs a; intro a hs
                        refine split_bool t147 (fun hb => ?_) (fun hb => ?_)
                        · replace h := h.1 hb
                          rw [hb] at hs
                          clear hb
                          refine t_yes hs rfl ?_
                          refine t_pure hs rfl rfl (by decide) (p_move rfl rfl) ?_
                          clear hs a; intro a hs
                          refine t_yes hs rfl ?_
                          refine t_call hs rfl rfl (by decide) (e_call rfl rfl rfl cb_30) h ?_
                          clear hs a h
                          intro v a w hk hs
                          obtain ⟨t151, rfl, h⟩ := hk
                          replace hs := hs.to (τ := [(9, (.pointer t48x0)), (17, (Sl.val t133x0)), (18, (.int .i64 t133x1)), (149, (.bool true)), (151, (Sl.val t151))]) ⟨rfl, rfl, rfl, rfl, rfl, trivial⟩
                          refine t_yes hs rfl ?_
                          refine t_pure hs rfl rfl (by decide) (p_move rfl rfl) ?_
                          clear hs a; intro a hs
                          refine t_yes hs rfl ?_
                          refine t_call hs rfl rfl (by decide) (e_call rfl rfl rfl cb_30) h ?_
                          clear hs a h
                          intro v a w hk hs
                          obtain ⟨t153, rfl, h⟩ := hk
                          refine t_yes hs rfl ?_
                          refine t_call hs rfl rfl (by decide) (e_call rfl rfl rfl cb_33) h ?_
                          clear hs a h
                          intro v a w hk hs
                          obtain ⟨t154, rfl, h⟩ := hk
                          refine t_pure hs rfl rfl (by decide) (p_pick_t rfl rfl rfl) ?_
                          clear hs a; intro a hs
                          refine t_pure hs rfl rfl (by decide) (p_move rfl rfl) ?_
                          clear hs a; intro a hs
                          refine split_bool t154 (fun hb => ?_) (fun hb => ?_)
                          · replace h := h.1 hb
                            rw [hb] at hs
                            clear hb
                            refine t_yes hs rfl ?_
                            refine t_pure hs rfl rfl (by decide) (p_move rfl rfl) ?_
                            clear hs a; intro a hs
                            refine t_yes hs rfl ?_
                            obtain ⟨t158, hd, h⟩ := h
                            refine t_eff hs rfl rfl (by decide) (e_convert rfl rfl hd) ?_
                            clear hs a hd; intro a hs
                            refine t_yes hs rfl ?_
                            refine t_pure hs rfl rfl (by decide) (p_eqs rfl rfl rfl) ?_
                            clear hs a; intro a hs
                            replace hs := hs.to (τ := [(18, (.int .i64 t133x1)), (156, (.bool true)), (159, (.bool (t158.toList == (⟨#[102, 105, 108, 101]⟩ : ByteArray).toList)))]) ⟨rfl, rfl, rfl, trivial⟩
                            refine t_pure hs rfl rfl (by decide) (p_pick_t rfl rfl rfl) ?_
                            clear hs a; intro a hs
                            refine t_pure hs rfl rfl (by decide) (p_move rfl rfl) ?_
                            clear hs a; intro a hs
                            refine split_bool (t158.toList == (⟨#[102, 105, 108, 101]⟩ : ByteArray).toList) (fun hb => ?_) (fun hb => ?_)
                            · replace h := h.1 hb
                              rw [hb] at hs
                              clear hb
                              refine t_yes hs rfl ?_
                              refine t_pure hs rfl rfl (by decide) (p_move rfl rfl) ?_
                              clear hs a; intro a hs
                              refine t_yes hs rfl ?_
                              refine t_pure hs rfl rfl (by decide) (p_eq rfl rfl rfl) ?_
                              clear hs a; intro a hs
                              refine t_pure hs rfl rfl (by decide) (p_pick_t rfl rfl rfl) ?_
                              clear hs a; intro a hs
                              refine t_pure hs rfl rfl (by decide) (p_assign rfl rfl) ?_
                              clear hs a; intro a hs
                              exact J6 (decide (t133x1 = 0)) _ _ (hs.to ⟨rfl, trivial⟩) h
                            · replace h := h.2 hb
                              rw [hb] at hs
                              clear hb
                              refine t_no hs rfl rfl (by decide) ?_
                              clear hs a; intro a hs
                              refine t_no hs rfl rfl (by decide) ?_
                              clear hs a; intro a hs
                              refine t_pure hs rfl rfl (by decide) (p_pick_f rfl rfl rfl) ?_
                              clear hs a; intro a hs
                              refine t_pure hs rfl rfl (by decide) (p_assign rfl rfl) ?_
                              clear hs a; intro a hs
                              exact J6 false _ _ (hs.to ⟨rfl, trivial⟩) h
                          · replace h := h.2 hb
                            rw [hb] at hs
                            clear hb
                            refine t_no hs rfl rfl (by decide) ?_
                            clear hs a; intro a hs
                            refine t_no hs rfl rfl (by decide) ?_
                            clear hs a; intro a hs
                            refine t_no hs rfl rfl (by decide) ?_
                            clear hs a; intro a hs
                            replace hs := hs.to (τ := [(18, (.int .i64 t133x1)), (156, (.bool false)), (159, undef)]) ⟨rfl, rfl, rfl, trivial⟩
                            refine t_pure hs rfl rfl (by decide) (p_pick_f rfl rfl rfl) ?_
                            clear hs a; intro a hs
                            refine t_pure hs rfl rfl (by decide) (p_move rfl rfl) ?_
                            clear hs a; intro a hs
                            refine t_no hs rfl rfl (by decide) ?_
                            clear hs a; intro a hs
                            refine t_no hs rfl rfl (by decide) ?_
                            clear hs a; intro a hs
                            refine t_pure hs rfl rfl (by decide) (p_pick_f rfl rfl rfl) ?_
                            clear hs a; intro a hs
                            refine t_pure hs rfl rfl (by decide) (p_assign rfl rfl) ?_
                            clear hs a; intro a hs
                            exact J6 false _ _ (hs.to ⟨rfl, trivial⟩) h
                        · replace h := h.2 hb
                          rw [hb] at hs
                          clear hb
                          refine t_no hs rfl rfl (by decide) ?_
                          clear hs a; intro a hs
                          refine t_no hs rfl rfl (by decide) ?_
                          clear hs a; intro a hs
                          replace hs := hs.to (τ := [(9, (.pointer t48x0)), (17, (Sl.val t133x0)), (18, (.int .i64 t133x1)), (149, (.bool false)), (151, undef)]) ⟨rfl, rfl, rfl, rfl, rfl, trivial⟩
                          refine t_no hs rfl rfl (by decide) ?_
                          clear hs a; intro a hs
                          refine t_no hs rfl rfl (by decide) ?_
                          clear hs a; intro a hs
                          refine t_no hs rfl rfl (by decide) ?_
                          clear hs a; intro a hs
                          refine t_pure hs rfl rfl (by decide) (p_pick_f rfl rfl rfl) ?_
                          clear hs a; intro a hs
                          refine t_pure hs rfl rfl (by decide) (p_move rfl rfl) ?_
                          clear hs a; intro a hs
                          refine t_no hs rfl rfl (by decide) ?_
                          clear hs a; intro a hs
                          refine t_no hs rfl rfl (by decide) ?_
                          clear hs a; intro a hs
                          refine t_no hs rfl rfl (by decide) ?_
                          clear hs a; intro a hs
                          replace hs := hs.to (τ := [(18, (.int .i64 t133x1)), (156, (.bool false)), (159, undef)]) ⟨rfl, rfl, rfl, trivial⟩
                          refine t_pure hs rfl rfl (by decide) (p_pick_f rfl rfl rfl) ?_
                          clear hs a; intro a hs
                          refine t_pure hs rfl rfl (by decide) (p_move rfl rfl) ?_
                          clear hs a; intro a hs
                          refine t_no hs rfl rfl (by decide) ?_
                          clear hs a; intro a hs
                          refine t_no hs rfl rfl (by decide) ?_
                          clear hs a; intro a hs
                          refine t_pure hs rfl rfl (by decide) (p_pick_f rfl rfl rfl) ?_
                          clear hs a; intro a hs
                          refine t_pure hs rfl rfl (by decide) (p_assign rfl rfl) ?_
                          clear hs a; intro a hs
                          exact J6 false _ _ (hs.to ⟨rfl, trivial⟩) h
                      · replace h := h.2 hb
                        rw [hb] at hs
                        clear hb
                        refine t_no hs rfl rfl (by decide) ?_
                        clear hs a; intro a hs
                        replace hs := hs.to (τ := [(7, (.pointer t43x0)), (9, (.pointer t48x0)), (15, (.pointer t128x0)), (17, (Sl.val t133x0)), (18, (.int .i64 t133x1)), (142, (.bool false)), (143, undef)]) ⟨rfl, rfl, rfl, rfl, rfl, rfl, rfl, trivial⟩
                        refine t_no hs rfl rfl (by decide) ?_
                        clear hs a; intro a hs
                        refine t_no hs rfl rfl (by decide) ?_
                        clear hs a; intro a hs
                        refine t_no hs rfl rfl (by decide) ?_
                        clear hs a; intro a hs
                        refine t_no hs rfl rfl (by decide) ?_
                        clear hs a; intro a hs
                        refine t_pure hs rfl rfl (by decide) (p_pick_f rfl rfl rfl) ?_
                        clear hs a; intro a hs
                        refine t_pure hs rfl rfl (by decide) (p_move rfl rfl) ?_
                        clear hs a; intro a hs
                        refine t_no hs rfl rfl (by decide) ?_
                        clear hs a; intro a hs
                        refine t_no hs rfl rfl (by decide) ?_
                        clear hs a; intro a hs
                        replace hs := hs.to (τ := [(9, (.pointer t48x0)), (17, (Sl.val t133x0)), (18, (.int .i64 t133x1)), (149, (.bool false)), (151, undef)]) ⟨rfl, rfl, rfl, rfl, rfl, trivial⟩
                        refine t_no hs rfl rfl (by decide) ?_
                        clear hs a; intro a hs
                        refine t_no hs rfl rfl (by decide) ?_
                        clear hs a; intro a hs
                        refine t_no hs rfl rfl (by decide) ?_
                        clear hs a; intro a hs
                        refine t_pure hs rfl rfl (by decide) (p_pick_f rfl rfl rfl) ?_
                        clear hs a; intro a hs
                        refine t_pure hs rfl rfl (by decide) (p_move rfl rfl) ?_
                        clear hs a; intro a hs
                        refine t_no hs rfl rfl (by decide) ?_
                        clear hs a; intro a hs
                        refine t_no hs rfl rfl (by decide) ?_
                        clear hs a; intro a hs
                        refine t_no hs rfl rfl (by decide) ?_
                        clear hs a; intro a hs
                        replace hs := hs.to (τ := [(18, (.int .i64 t133x1)), (156, (.bool false)), (159, undef)]) ⟨rfl, rfl, rfl, trivial⟩
                        refine t_pure hs rfl rfl (by decide) (p_pick_f rfl rfl rfl) ?_
                        clear hs a; intro a hs
                        refine t_pure hs rfl rfl (by decide) (p_move rfl rfl) ?_
                        clear hs a; intro a hs
                        refine t_no hs rfl rfl (by decide) ?_
                        clear hs a; intro a hs
                        refine t_no hs rfl rfl (by decide) ?_
                        clear hs a; intro a hs
                        refine t_pure hs rfl rfl (by decide) (p_pick_f rfl rfl rfl) ?_
                        clear hs a; intro a hs
                        refine t_pure hs rfl rfl (by decide) (p_assign rfl rfl) ?_
                        clear hs a; intro a hs
                        exact J6 false _ _ (hs.to ⟨rfl, trivial⟩) h
                    · replace h := h.2 hb
                      rw [hb] at hs
                      clear hb
                      refine t_no hs rfl rfl (by decide) ?_
                      clear hs a; intro a hs
                      refine t_no hs rfl rfl (by decide) ?_
                      clear hs a; intro a hs
                      refine t_pure hs rfl rfl (by decide) (p_pick_f rfl rfl rfl) ?_
                      clear hs a; intro a hs
                      refine t_pure hs rfl rfl (by decide) (p_move rfl rfl) ?_
                      clear hs a; intro a hs
                      refine t_no hs rfl rfl (by decide) ?_
                      clear hs a; intro a hs
                      replace hs := hs.to (τ := [(7, (.pointer t43x0)), (9, (.pointer t48x0)), (15, (.pointer t128x0)), (17, (Sl.val t133x0)), (18, (.int .i64 t133x1)), (142, (.bool false)), (143, undef)]) ⟨rfl, rfl, rfl, rfl, rfl, rfl, rfl, trivial⟩
                      refine t_no hs rfl rfl (by decide) ?_
                      clear hs a; intro a hs
                      refine t_no hs rfl rfl (by decide) ?_
                      clear hs a; intro a hs
                      refine t_no hs rfl rfl (by decide) ?_
                      clear hs a; intro a hs
                      refine t_no hs rfl rfl (by decide) ?_
                      clear hs a; intro a hs
                      refine t_pure hs rfl rfl (by decide) (p_pick_f rfl rfl rfl) ?_
                      clear hs a; intro a hs
                      refine t_pure hs rfl rfl (by decide) (p_move rfl rfl) ?_
                      clear hs a; intro a hs
                      refine t_no hs rfl rfl (by decide) ?_
                      clear hs a; intro a hs
                      refine t_no hs rfl rfl (by decide) ?_
                      clear hs a; intro a hs
                      replace hs := hs.to (τ := [(9, (.pointer t48x0)), (17, (Sl.val t133x0)), (18, (.int .i64 t133x1)), (149, (.bool false)), (151, undef)]) ⟨rfl, rfl, rfl, rfl, rfl, trivial⟩
                      refine t_no hs rfl rfl (by decide) ?_
                      clear hs a; intro a hs
                      refine t_no hs rfl rfl (by decide) ?_
                      clear hs a; intro a hs
                      refine t_no hs rfl rfl (by decide) ?_
                      clear hs a; intro a hs
                      refine t_pure hs rfl rfl (by decide) (p_pick_f rfl rfl rfl) ?_
                      clear hs a; intro a hs
                      refine t_pure hs rfl rfl (by decide) (p_move rfl rfl) ?_
                      clear hs a; intro a hs
                      refine t_no hs rfl rfl (by decide) ?_
                      clear hs a; intro a hs
                      refine t_no hs rfl rfl (by decide) ?_
                      clear hs a; intro a hs
                      refine t_no hs rfl rfl (by decide) ?_
                      clear hs a; intro a hs
                      replace hs := hs.to (τ := [(18, (.int .i64 t133x1)), (156, (.bool false)), (159, undef)]) ⟨rfl, rfl, rfl, trivial⟩
                      refine t_pure hs rfl rfl (by decide) (p_pick_f rfl rfl rfl) ?_
                      clear hs a; intro a hs
                      refine t_pure hs rfl rfl (by decide) (p_move rfl rfl) ?_
                      clear hs a; intro a hs
                      refine t_no hs rfl rfl (by decide) ?_
                      clear hs a; intro a hs
                      refine t_no hs rfl rfl (by decide) ?_
                      clear hs a; intro a hs
                      refine t_pure hs rfl rfl (by decide) (p_pick_f rfl rfl rfl) ?_
                      clear hs a; intro a hs
                      refine t_pure hs rfl rfl (by decide) (p_assign rfl rfl) ?_
                      clear hs a; intro a hs
                      exact J6 false _ _ (hs.to ⟨rfl, trivial⟩) h
              clear hK22
              refine wp_region_lit ?_
              refine t_pure hs rfl rfl (by decide) (p_move rfl rfl) ?_
              clear hs a; intro a hs
              refine t_pure hs rfl rfl (by decide) (p_move rfl rfl) ?_
              clear hs a; intro a hs
              refine t_pure hs rfl rfl (by decide) (p_len rfl rfl sl_54) ?_
              clear hs a; intro a hs
              refine t_pure hs rfl rfl (by decide) (p_lt rfl rfl rfl) ?_
              clear hs a; intro a hs
              refine t_pure hs rfl rfl (by decide) (p_move rfl rfl) ?_
              clear hs a; intro a hs
              refine split_bool (decide (i11_3 < (a0.n : Int))) (fun hb => ?_) (fun hb => ?_)
              · replace h := h.1 hb
                rw [hb] at hs
                clear hb
                refine t_no hs rfl rfl (by decide) ?_
                clear hs a; intro a hs
                refine t_no hs rfl rfl (by decide) ?_
                clear hs a; intro a hs
                refine t_no hs rfl rfl (by decide) ?_
                clear hs a; intro a hs
                replace hs := hs.to (τ := [(0, (Sl.val a0)), (1, (Sl.val b1)), (5, (.pointer t30x0)), (7, (.pointer t43x0)), (9, (.pointer t48x0)), (11, (.int .i64 i11_3)), (61, (.bool true)), (62, undef), (64, undef)]) ⟨rfl, rfl, rfl, rfl, rfl, rfl, rfl, rfl, rfl, trivial⟩
                refine t_no hs rfl rfl (by decide) ?_
                clear hs a; intro a hs
                refine t_pure hs rfl rfl (by decide) (p_pick_t rfl rfl rfl) ?_
                clear hs a; intro a hs
                exact J4 true _ _ (hs.to ⟨rfl, rfl, rfl, rfl, rfl, rfl, rfl, trivial⟩) h
              · replace h := h.2 hb
                rw [hb] at hs
                clear hb
                refine t_yes hs rfl ?_
                refine t_pure hs rfl rfl (by decide) (p_move rfl rfl) ?_
                clear hs a; intro a hs
                refine t_yes hs rfl ?_
                refine t_pure hs rfl rfl (by decide) (p_move rfl rfl) ?_
                clear hs a; intro a hs
                refine t_yes hs rfl ?_
                refine t_pure hs rfl rfl (by decide) (p_len rfl rfl sl_54) ?_
                clear hs a; intro a hs
                replace hs := hs.to (τ := [(0, (Sl.val a0)), (1, (Sl.val b1)), (5, (.pointer t30x0)), (7, (.pointer t43x0)), (9, (.pointer t48x0)), (11, (.int .i64 i11_3)), (61, (.bool false)), (62, (.int .i64 i11_3)), (64, (.int .i64 (b1.n : Int)))]) ⟨rfl, rfl, rfl, rfl, rfl, rfl, rfl, rfl, rfl, trivial⟩
                refine t_yes hs rfl ?_
                refine t_pure hs rfl rfl (by decide) (p_lt rfl rfl rfl) ?_
                clear hs a; intro a hs
                refine t_pure hs rfl rfl (by decide) (p_pick_f rfl rfl rfl) ?_
                clear hs a; intro a hs
                exact J4 (decide (i11_3 < (b1.n : Int))) _ _ (hs.to ⟨rfl, rfl, rfl, rfl, rfl, rfl, rfl, trivial⟩) h
          clear hK17
          refine wp_region_lit ?_
          refine t_pure hs rfl rfl (by decide) (p_move rfl rfl) ?_
          clear hs a; intro a hs
          refine t_pure hs rfl rfl (by decide) (p_eq_nil rfl rfl rfl Try.underlying60) ?_
          clear hs a; intro a hs
          refine t_pure hs rfl rfl (by decide) (p_move rfl rfl) ?_
          clear hs a; intro a hs
          refine split_bool ((t43x0).isNone) (fun hb => ?_) (fun hb => ?_)
          · replace h := h.1 hb
            rw [hb] at hs
            clear hb
            refine t_no hs rfl rfl (by decide) ?_
            clear hs a; intro a hs
            refine t_no hs rfl rfl (by decide) ?_
            clear hs a; intro a hs
            refine t_pure hs rfl rfl (by decide) (p_pick_t rfl rfl rfl) ?_
            clear hs a; intro a hs
            exact J2 true _ _ (hs.to ⟨rfl, rfl, rfl, rfl, rfl, rfl, trivial⟩) h
          · replace h := h.2 hb
            rw [hb] at hs
            clear hb
            refine t_yes hs rfl ?_
            refine t_pure hs rfl rfl (by decide) (p_move rfl rfl) ?_
            clear hs a; intro a hs
            refine t_yes hs rfl ?_
            refine t_pure hs rfl rfl (by decide) (p_eq_nil rfl rfl rfl Try.underlying60) ?_
            clear hs a; intro a hs
            refine t_pure hs rfl rfl (by decide) (p_pick_f rfl rfl rfl) ?_
            clear hs a; intro a hs
            exact J2 ((t48x0).isNone) _ _ (hs.to ⟨rfl, rfl, rfl, rfl, rfl, rfl, trivial⟩) h
    clear hK6
    refine wp_region_lit ?_
    refine t_pure hs rfl rfl (by decide) (p_move rfl rfl) ?_
    clear hs a; intro a hs
    refine t_pure hs rfl rfl (by decide) (p_len rfl rfl sl_54) ?_
    clear hs a; intro a hs
    refine t_pure hs rfl rfl (by decide) (p_gt rfl rfl rfl) ?_
    clear hs a; intro a hs
    refine t_pure hs rfl rfl (by decide) (p_move rfl rfl) ?_
    clear hs a; intro a hs
    refine split_bool (decide ((20 : Int) < (a0.n : Int))) (fun hb => ?_) (fun hb => ?_)
    · replace h := h.1 hb
      rw [hb] at hs
      clear hb
      refine t_no hs rfl rfl (by decide) ?_
      clear hs a; intro a hs
      refine t_no hs rfl rfl (by decide) ?_
      clear hs a; intro a hs
      refine t_no hs rfl rfl (by decide) ?_
      clear hs a; intro a hs
      refine t_pure hs rfl rfl (by decide) (p_pick_t rfl rfl rfl) ?_
      clear hs a; intro a hs
      exact J1 true _ _ (hs.to ⟨rfl, rfl, rfl, trivial⟩) h
    · replace h := h.2 hb
      rw [hb] at hs
      clear hb
      refine t_yes hs rfl ?_
      refine t_pure hs rfl rfl (by decide) (p_move rfl rfl) ?_
      clear hs a; intro a hs
      refine t_yes hs rfl ?_
      refine t_pure hs rfl rfl (by decide) (p_len rfl rfl sl_54) ?_
      clear hs a; intro a hs
      refine t_yes hs rfl ?_
      refine t_pure hs rfl rfl (by decide) (p_gt rfl rfl rfl) ?_
      clear hs a; intro a hs
      refine t_pure hs rfl rfl (by decide) (p_pick_f rfl rfl rfl) ?_
      clear hs a; intro a hs
      exact J1 (decide ((20 : Int) < (b1.n : Int))) _ _ (hs.to ⟨rfl, rfl, rfl, trivial⟩) h
end Go.Proofs.Ytdpepgjbambinaa
