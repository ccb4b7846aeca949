/- Plain forms of functions, and that their code comes to them (package law08). -/
import Derived.Test.YtgnkminakongkaaCalls
namespace Go.Proofs.Ytgnkminakongkaa
open Go Go.Sep
set_option linter.unusedVariables false
set_option linter.unusedSimpArgs false
set_option maxRecDepth 100000
set_option maxHeartbeats 4000000
def law08_SnapAtomic.s3 (Q : Bool → K)  (t6_3 : Bool) : K :=
  Q t6_3
def law08_SnapAtomic.s2 (Q : Bool → K)  (bodies3_2 : Addr) (x10_2 : (Option Addr)) (b11_2 : Sl) (t75_2 : Bool) : K :=
  Ite t75_2
    (Q false)
    (IdxA bodies3_2 2 0 1 fun t77 =>
    Ld t77 Sl.val fun t78 =>
    snap_Save.call x10_2 ⟨#[99]⟩ t78 fun t79 =>
    snap_Load.call x10_2 ⟨#[99]⟩ fun t82x0 t82x1 =>
    Rd Try.prog (convert 33 9 (Sl.val b11_2)) Value.string fun t86 =>
    IdxA bodies3_2 2 0 1 fun t87 =>
    Ld t87 Sl.val fun t88 =>
    Rd Try.prog (convert 33 9 (Sl.val t88)) Value.string fun t89 =>
    Ite (t86.toList == t89.toList)
      (Ite (decide (t79 = 0))
        (Rd Try.prog (convert 33 9 (Sl.val t82x0)) Value.string fun t105 =>
        IdxA bodies3_2 2 0 1 fun t106 =>
        Ld t106 Sl.val fun t107 =>
        Rd Try.prog (convert 33 9 (Sl.val t107)) Value.string fun t108 =>
        law08_SnapAtomic.s3 Q (t105.toList == t108.toList))
        (law08_SnapAtomic.s3 Q false))
      (Rd Try.prog (convert 33 9 (Sl.val b11_2)) Value.string fun t93 =>
      IdxA bodies3_2 2 1 1 fun t94 =>
      Ld t94 Sl.val fun t95 =>
      Rd Try.prog (convert 33 9 (Sl.val t95)) Value.string fun t96 =>
      Ite (t93.toList == t96.toList)
        (Ite (decide (t79 = 0))
          (Rd Try.prog (convert 33 9 (Sl.val t82x0)) Value.string fun t105 =>
          IdxA bodies3_2 2 0 1 fun t106 =>
          Ld t106 Sl.val fun t107 =>
          Rd Try.prog (convert 33 9 (Sl.val t107)) Value.string fun t108 =>
          law08_SnapAtomic.s3 Q (t105.toList == t108.toList))
          (law08_SnapAtomic.s3 Q false))
        (law08_SnapAtomic.s3 Q false)))
def law08_SnapAtomic.s1 (Q : Bool → K)  (calls1_1 : Int) (keeps2_1 : Sl) (bodies3_1 : Addr) (t32_1 : Bool) : K :=
  Ite t32_1
    (Q true)
    (disk_New.call 65536 fun t34x0 t34x1 =>
    Ite ((t34x0).isNone)
      (Q false)
      (IdxA bodies3_1 2 0 1 fun t40 =>
      Ld t40 Sl.val fun t41 =>
      snap_Save.call t34x0 ⟨#[99]⟩ t41 fun t42 =>
      Ite (decide (t42 ≠ 0))
        (Q false)
        (Ar (bitsOf .and .i64 calls1_1 7) fun t46 =>
        disk_Disk_Limit.call t34x0 t46 <|
        IdxA bodies3_1 2 1 1 fun t49 =>
        Ld t49 Sl.val fun t50 =>
        snap_Save.call t34x0 ⟨#[99]⟩ t50 fun t51 =>
        disk_Disk_Crash.call t34x0 keeps2_1 fun t54 =>
        Ite ((t54).isNone)
          (Q false)
          (snap_Load.call t54 ⟨#[99]⟩ fun t59x0 t59x1 =>
          Ite (decide (t59x1 ≠ 0))
            (law08_SnapAtomic.s2 Q bodies3_1 t54 t59x0 true)
            (Ite (decide (t51 = 0))
              (Rd Try.prog (convert 33 9 (Sl.val t59x0)) Value.string fun t69 =>
              IdxA bodies3_1 2 1 1 fun t70 =>
              Ld t70 Sl.val fun t71 =>
              Rd Try.prog (convert 33 9 (Sl.val t71)) Value.string fun t72 =>
              law08_SnapAtomic.s2 Q bodies3_1 t54 t59x0 (!(t69.toList == t72.toList)))
              (law08_SnapAtomic.s2 Q bodies3_1 t54 t59x0 false))))))
def law08_SnapAtomic (bodies0 : (Array Value)) (calls1 : Int) (keeps2 : Sl) (Q : Bool → K) : K :=
  New 64 bodies0 fun bodies3 =>
  law08_speaks.call  fun t16 =>
  Ite (!t16)
    (Q false)
    (IdxA bodies3 2 0 1 fun t18 =>
    Ld t18 Sl.val fun t19 =>
    Ite (decide ((5000 : Int) < (t19.n : Int)))
      (law08_SnapAtomic.s1 Q calls1 keeps2 bodies3 true)
      (IdxA bodies3 2 1 1 fun t23 =>
      Ld t23 Sl.val fun t24 =>
      Ite (decide ((5000 : Int) < (t24.n : Int)))
        (law08_SnapAtomic.s1 Q calls1 keeps2 bodies3 true)
        (law08_SnapAtomic.s1 Q calls1 keeps2 bodies3 (decide ((100 : Int) < (keeps2.n : Int))))))
theorem law08_SnapAtomic_ok (bodies0 : (Array Value)) (calls1 : Int) (keeps2 : Sl) (Q : Bool → K) (w : World) (h : law08_SnapAtomic bodies0 calls1 keeps2 Q w) : law08_SnapAtomic.call bodies0 calls1 keeps2 Q w := by
  unfold law08_SnapAtomic.call CallF
  refine f_start (args := [(.agg bodies0), (.int .i64 calls1), (Sl.val keeps2)]) Try.func13 rfl (Nat.le_of_ble_eq_true rfl) ?_
  intro a hs
  unfold law08_SnapAtomic at h
  refine wp_seq_k fun K1 hK1 => ?_
  refine wp_region_lit ?_
  obtain ⟨bodies3, w1, ha, hw, h⟩ := h
  refine t_eff hs rfl rfl (by decide) (e_box rfl rfl rfl ha hw) ?_
  clear hs a ha hw
  intro a hs
  refine t_pure hs rfl rfl (by decide) (p_assign rfl rfl) ?_
  clear hs a
  intro a hs
  refine hK1 _ _ ?_
  refine wp_seq_k fun K2 hK2 => ?_
  refine wp_seq_k fun K3 hK3 => ?_
  refine wp_region_lit ?_
  refine t_call hs rfl rfl (by decide) (e_call rfl rfl rfl cb_37) h ?_
  clear hs a h
  intro v a w hk hs
  obtain ⟨t16, rfl, h⟩ := hk
  refine t_pure hs rfl rfl (by decide) (p_not rfl rfl) ?_
  clear hs a
  intro a hs
  refine hK3 _ _ ?_
  refine c_cond hs rfl (fun hb => ?_) (fun hb => ?_)
  · replace h := h.1 hb
    clear hb
    refine wp_seq_k fun K4 hK4 => ?_
    refine wp_region_lit ?_
    refine t_pure hs rfl rfl (by decide) (p_assign rfl rfl) ?_
    clear hs a
    intro a hs
    refine hK4 _ _ ?_
    refine wp_ret ?_
    refine f_ret (fn := Try.f13) hs (fun a hs => r_one hs rfl (rfl)) ⟨false, rfl, h⟩
  · replace h := h.2 hb
    clear hb
    refine wp_skip ?_
    refine hK2 _ _ ?_
    refine wp_seq_k fun K5 hK5 => ?_
    refine wp_seq_k fun K6 hK6 => ?_
    have J1 : ∀ (t32_1 : Bool) (a : Act) (w : World), Slots a 111 [(1, (.int .i64 calls1)), (2, (Sl.val keeps2)), (3, (.pointer (some bodies3))), (32, (.bool t32_1))] → law08_SnapAtomic.s1 Q calls1 keeps2 bodies3 t32_1 w → K6 a w := by
      clear h hs
      intro t32_1 a w hs h
      refine hK6 _ _ ?_
      unfold law08_SnapAtomic.s1 at h
      refine c_cond hs rfl (fun hb => ?_) (fun hb => ?_)
      · replace h := h.1 hb
        clear hb
        refine wp_seq_k fun K7 hK7 => ?_
        refine wp_region_lit ?_
        refine t_pure hs rfl rfl (by decide) (p_assign rfl rfl) ?_
        clear hs a
        intro a hs
        refine hK7 _ _ ?_
        refine wp_ret ?_
        refine f_ret (fn := Try.f13) hs (fun a hs => r_one hs rfl (rfl)) ⟨true, rfl, h⟩
      · replace h := h.2 hb
        clear hb
        refine wp_skip ?_
        refine hK5 _ _ ?_
        refine wp_seq_k fun K8 hK8 => ?_
        refine wp_region_lit ?_
        refine t_call hs rfl rfl (by decide) (e_call rfl rfl rfl cb_21) h ?_
        clear hs a h
        intro v a w hk hs
        obtain ⟨t34x0, t34x1, rfl, h⟩ := hk
        refine t_pure hs rfl rfl (by decide) (p_move rfl rfl) ?_
        clear hs a
        intro a hs
        refine t_pure hs rfl rfl (by decide) (p_extract rfl rfl rfl) ?_
        clear hs a
        intro a hs
        refine t_pure hs rfl rfl (by decide) (p_extract rfl rfl rfl) ?_
        clear hs a
        intro a hs
        refine t_pure hs rfl rfl (by decide) (p_assign rfl rfl) ?_
        clear hs a
        intro a hs
        refine t_pure hs rfl rfl (by decide) (p_assign rfl rfl) ?_
        clear hs a
        intro a hs
        refine hK8 _ _ ?_
        refine wp_seq_k fun K9 hK9 => ?_
        refine wp_seq_k fun K10 hK10 => ?_
        refine wp_region_lit ?_
        refine t_pure hs rfl rfl (by decide) (p_move rfl rfl) ?_
        clear hs a
        intro a hs
        refine t_pure hs rfl rfl (by decide) (p_eq_nil rfl rfl rfl Try.underlying45) ?_
        clear hs a
        intro a hs
        refine hK10 _ _ ?_
        refine c_cond hs rfl (fun hb => ?_) (fun hb => ?_)
        · replace h := h.1 hb
          clear hb
          refine wp_seq_k fun K11 hK11 => ?_
          refine wp_region_lit ?_
          refine t_pure hs rfl rfl (by decide) (p_assign rfl rfl) ?_
          clear hs a
          intro a hs
          refine hK11 _ _ ?_
          refine wp_ret ?_
          refine f_ret (fn := Try.f13) hs (fun a hs => r_one hs rfl (rfl)) ⟨false, rfl, h⟩
        · replace h := h.2 hb
          clear hb
          refine wp_skip ?_
          refine hK9 _ _ ?_
          refine wp_seq_k fun K12 hK12 => ?_
          refine wp_seq_k fun K13 hK13 => ?_
          refine wp_region_lit ?_
          refine t_pure hs rfl rfl (by decide) (p_move rfl rfl) ?_
          clear hs a
          intro a hs
          obtain ⟨t40, h0, h1, he, h⟩ := h
          refine t_pure hs rfl rfl (by decide) (Pure.adr he (p_idxA rfl rfl rfl ar_64 h0 h1)) ?_
          clear hs a h0 h1 he
          intro a hs
          obtain ⟨t41, hv, h⟩ := h
          refine t_eff hs rfl rfl (by decide) (e_load rfl rfl ct_33 hv) ?_
          clear hs a hv
          intro a hs
          refine t_call hs rfl rfl (by decide) (e_call rfl rfl rfl cb_38) h ?_
          clear hs a h
          intro v a w hk hs
          obtain ⟨t42, rfl, h⟩ := hk
          refine t_pure hs rfl rfl (by decide) (p_ne rfl rfl rfl) ?_
          clear hs a
          intro a hs
          refine hK13 _ _ ?_
          refine c_cond hs rfl (fun hb => ?_) (fun hb => ?_)
          · replace h := h.1 hb
            clear hb
            refine wp_seq_k fun K14 hK14 => ?_
            refine wp_region_lit ?_
            refine t_pure hs rfl rfl (by decide) (p_assign rfl rfl) ?_
            clear hs a
            intro a hs
            refine hK14 _ _ ?_
            refine wp_ret ?_
            refine f_ret (fn := Try.f13) hs (fun a hs => r_one hs rfl (rfl)) ⟨false, rfl, h⟩
          · replace h := h.2 hb
            clear hb
            refine wp_skip ?_
            refine hK12 _ _ ?_
            refine wp_seq_k fun K15 hK15 => ?_
            refine wp_region_lit ?_
            refine t_pure hs rfl rfl (by decide) (p_move rfl rfl) ?_
            clear hs a
            intro a hs
            refine t_pure hs rfl rfl (by decide) (p_move rfl rfl) ?_
            clear hs a
            intro a hs
            obtain ⟨t46, he, h⟩ := h
            refine t_pure hs rfl rfl (by decide) (Pure.int he (p_and rfl rfl rfl)) ?_
            clear hs a he
            intro a hs
            refine t_call hs rfl rfl (by decide) (e_call rfl rfl rfl cb_30) h ?_
            clear hs a h
            intro v a w hk hs
            obtain ⟨rfl, h⟩ := hk
            refine hK15 _ _ ?_
            refine wp_seq_k fun K16 hK16 => ?_
            refine wp_region_lit ?_
            refine t_pure hs rfl rfl (by decide) (p_move rfl rfl) ?_
            clear hs a
            intro a hs
            obtain ⟨t49, h0, h1, he, h⟩ := h
            refine t_pure hs rfl rfl (by decide) (Pure.adr he (p_idxA rfl rfl rfl ar_64 h0 h1)) ?_
            clear hs a h0 h1 he
            intro a hs
            obtain ⟨t50, hv, h⟩ := h
            refine t_eff hs rfl rfl (by decide) (e_load rfl rfl ct_33 hv) ?_
            clear hs a hv
            intro a hs
            refine t_call hs rfl rfl (by decide) (e_call rfl rfl rfl cb_38) h ?_
            clear hs a h
            intro v a w hk hs
            obtain ⟨t51, rfl, h⟩ := hk
            refine t_pure hs rfl rfl (by decide) (p_assign rfl rfl) ?_
            clear hs a
            intro a hs
            refine hK16 _ _ ?_
            refine wp_seq_k fun K17 hK17 => ?_
            refine wp_region_lit ?_
            refine t_pure hs rfl rfl (by decide) (p_move rfl rfl) ?_
            clear hs a
            intro a hs
            refine t_pure hs rfl rfl (by decide) (p_move rfl rfl) ?_
            clear hs a
            intro a hs
            refine t_call hs rfl rfl (by decide) (e_call rfl rfl rfl cb_24) h ?_
            clear hs a h
            intro v a w hk hs
            obtain ⟨t54, rfl, h⟩ := hk
            refine t_pure hs rfl rfl (by decide) (p_assign rfl rfl) ?_
            clear hs a
            intro a hs
            refine hK17 _ _ ?_
            refine wp_seq_k fun K18 hK18 => ?_
            refine wp_seq_k fun K19 hK19 => ?_
            refine wp_region_lit ?_
            refine t_pure hs rfl rfl (by decide) (p_move rfl rfl) ?_
            clear hs a
            intro a hs
            refine t_pure hs rfl rfl (by decide) (p_eq_nil rfl rfl rfl Try.underlying45) ?_
            clear hs a
            intro a hs
            refine hK19 _ _ ?_
            refine c_cond hs rfl (fun hb => ?_) (fun hb => ?_)
            · replace h := h.1 hb
              clear hb
              refine wp_seq_k fun K20 hK20 => ?_
              refine wp_region_lit ?_
              refine t_pure hs rfl rfl (by decide) (p_assign rfl rfl) ?_
              clear hs a
              intro a hs
              refine hK20 _ _ ?_
              refine wp_ret ?_
              refine f_ret (fn := Try.f13) hs (fun a hs => r_one hs rfl (rfl)) ⟨false, rfl, h⟩
            · replace h := h.2 hb
              clear hb
              refine wp_skip ?_
              refine hK18 _ _ ?_
              refine wp_seq_k fun K21 hK21 => ?_
              refine wp_region_lit ?_
              refine t_pure hs rfl rfl (by decide) (p_move rfl rfl) ?_
              clear hs a
              intro a hs
              refine t_call hs rfl rfl (by decide) (e_call rfl rfl rfl cb_39) h ?_
              clear hs a h
              intro v a w hk hs
              obtain ⟨t59x0, t59x1, rfl, h⟩ := hk
              refine t_pure hs rfl rfl (by decide) (p_move rfl rfl) ?_
              clear hs a
              intro a hs
              refine t_pure hs rfl rfl (by decide) (p_extract rfl rfl rfl) ?_
              clear hs a
              intro a hs
              refine t_pure hs rfl rfl (by decide) (p_extract rfl rfl rfl) ?_
              clear hs a
              intro a hs
              refine t_pure hs rfl rfl (by decide) (p_assign rfl rfl) ?_
              clear hs a
              intro a hs
              refine t_pure hs rfl rfl (by decide) (p_assign rfl rfl) ?_
              clear hs a
              intro a hs
              refine hK21 _ _ ?_
              refine wp_seq_k fun K22 hK22 => ?_
              refine wp_seq_k fun K23 hK23 => ?_
              have J2 : ∀ (t75_2 : Bool) (a : Act) (w : World), Slots a 111 [(3, (.pointer (some bodies3))), (10, (.pointer t54)), (11, (Sl.val t59x0)), (75, (.bool t75_2))] → law08_SnapAtomic.s2 Q bodies3 t54 t59x0 t75_2 w → K23 a w := by
                clear h hs
                intro t75_2 a w hs h
                refine hK23 _ _ ?_
                unfold law08_SnapAtomic.s2 at h
                refine c_cond hs rfl (fun hb => ?_) (fun hb => ?_)
                · replace h := h.1 hb
                  clear hb
                  refine wp_seq_k fun K24 hK24 => ?_
                  refine wp_region_lit ?_
                  refine t_pure hs rfl rfl (by decide) (p_assign rfl rfl) ?_
                  clear hs a
                  intro a hs
                  refine hK24 _ _ ?_
                  refine wp_ret ?_
                  refine f_ret (fn := Try.f13) hs (fun a hs => r_one hs rfl (rfl)) ⟨false, rfl, h⟩
                · replace h := h.2 hb
                  clear hb
                  refine wp_skip ?_
                  refine hK22 _ _ ?_
                  refine wp_seq_k fun K25 hK25 => ?_
                  refine wp_region_lit ?_
                  refine t_pure hs rfl rfl (by decide) (p_move rfl rfl) ?_
                  clear hs a
                  intro a hs
                  obtain ⟨t77, h0, h1, he, h⟩ := h
                  refine t_pure hs rfl rfl (by decide) (Pure.adr he (p_idxA rfl rfl rfl ar_64 h0 h1)) ?_
                  clear hs a h0 h1 he
                  intro a hs
                  obtain ⟨t78, hv, h⟩ := h
                  refine t_eff hs rfl rfl (by decide) (e_load rfl rfl ct_33 hv) ?_
                  clear hs a hv
                  intro a hs
                  refine t_call hs rfl rfl (by decide) (e_call rfl rfl rfl cb_38) h ?_
                  clear hs a h
                  intro v a w hk hs
                  obtain ⟨t79, rfl, h⟩ := hk
                  refine t_pure hs rfl rfl (by decide) (p_assign rfl rfl) ?_
                  clear hs a
                  intro a hs
                  refine hK25 _ _ ?_
                  refine wp_seq_k fun K26 hK26 => ?_
                  refine wp_region_lit ?_
                  refine t_pure hs rfl rfl (by decide) (p_move rfl rfl) ?_
                  clear hs a
                  intro a hs
                  refine t_call hs rfl rfl (by decide) (e_call rfl rfl rfl cb_39) h ?_
                  clear hs a h
                  intro v a w hk hs
                  obtain ⟨t82x0, t82x1, rfl, h⟩ := hk
                  refine t_pure hs rfl rfl (by decide) (p_move rfl rfl) ?_
                  clear hs a
                  intro a hs
                  refine t_pure hs rfl rfl (by decide) (p_extract rfl rfl rfl) ?_
                  clear hs a
                  intro a hs
                  refine t_pure hs rfl rfl (by decide) (p_extract rfl rfl rfl) ?_
                  clear hs a
                  intro a hs
                  refine t_pure hs rfl rfl (by decide) (p_assign rfl rfl) ?_
                  clear hs a
                  intro a hs
                  refine t_pure hs rfl rfl (by decide) (p_assign rfl rfl) ?_
                  clear hs a
                  intro a hs
                  refine hK26 _ _ ?_
                  refine wp_seq_k fun K27 hK27 => ?_
                  have J3 : ∀ (t6_3 : Bool) (a : Act) (w : World), Slots a 111 [(6, (.bool t6_3))] → law08_SnapAtomic.s3 Q t6_3 w → K27 a w := by
                    clear h hs
                    intro t6_3 a w hs h
                    refine hK27 _ _ ?_
                    unfold law08_SnapAtomic.s3 at h
                    refine wp_ret ?_
                    refine f_ret (fn := Try.f13) hs (fun a hs => r_one hs rfl (rfl)) ⟨t6_3, rfl, h⟩
                  clear hK27
                  refine wp_region_lit ?_
                  refine t_pure hs rfl rfl (by decide) (p_move rfl rfl) ?_
                  clear hs a
                  intro a hs
                  obtain ⟨t86, hd, h⟩ := h
                  refine t_eff hs rfl rfl (by decide) (e_convert rfl rfl hd) ?_
                  clear hs a hd
                  intro a hs
                  obtain ⟨t87, h0, h1, he, h⟩ := h
                  refine t_pure hs rfl rfl (by decide) (Pure.adr he (p_idxA rfl rfl rfl ar_64 h0 h1)) ?_
                  clear hs a h0 h1 he
                  intro a hs
                  obtain ⟨t88, hv, h⟩ := h
                  refine t_eff hs rfl rfl (by decide) (e_load rfl rfl ct_33 hv) ?_
                  clear hs a hv
                  intro a hs
                  obtain ⟨t89, hd, h⟩ := h
                  refine t_eff hs rfl rfl (by decide) (e_convert rfl rfl hd) ?_
                  clear hs a hd
                  intro a hs
                  refine t_pure hs rfl rfl (by decide) (p_eqs rfl rfl rfl) ?_
                  clear hs a
                  intro a hs
                  refine t_pure hs rfl rfl (by decide) (p_move rfl rfl) ?_
                  clear hs a
                  intro a hs
                  refine split_bool (t86.toList == t89.toList) (fun hb => ?_) (fun hb => ?_)
                  · replace h := h.1 hb
                    rw [hb] at hs
                    clear hb
                    refine t_no hs rfl rfl (by decide) ?_
                    clear hs a
                    intro a hs
                    replace hs := hs.to (τ := [(3, (.pointer (some bodies3))), (13, (.int .i64 t79)), (14, (Sl.val t82x0)), (91, (.bool true)), (92, undef)]) ⟨rfl, rfl, rfl, rfl, rfl, trivial⟩
                    refine t_no hs rfl rfl (by decide) ?_
                    clear hs a
                    intro a hs
                    refine t_no hs rfl rfl (by decide) ?_
                    clear hs a
                    intro a hs
                    refine t_no hs rfl rfl (by decide) ?_
                    clear hs a
                    intro a hs
                    refine t_no hs rfl rfl (by decide) ?_
                    clear hs a
                    intro a hs
                    refine t_no hs rfl rfl (by decide) ?_
                    clear hs a
                    intro a hs
                    refine t_pure hs rfl rfl (by decide) (p_pick_t rfl rfl rfl) ?_
                    clear hs a
                    intro a hs
                    refine t_pure hs rfl rfl (by decide) (p_move rfl rfl) ?_
                    clear hs a
                    intro a hs
                    refine t_yes hs rfl ?_
                    refine t_pure hs rfl rfl (by decide) (p_move rfl rfl) ?_
                    clear hs a
                    intro a hs
                    replace hs := hs.to (τ := [(3, (.pointer (some bodies3))), (14, (Sl.val t82x0)), (99, (.bool true)), (100, (.int .i64 t79))]) ⟨rfl, rfl, rfl, rfl, trivial⟩
                    refine t_yes hs rfl ?_
                    refine t_pure hs rfl rfl (by decide) (p_eq rfl rfl rfl) ?_
                    clear hs a
                    intro a hs
                    refine t_pure hs rfl rfl (by decide) (p_pick_t rfl rfl rfl) ?_
                    clear hs a
                    intro a hs
                    refine t_pure hs rfl rfl (by decide) (p_move rfl rfl) ?_
                    clear hs a
                    intro a hs
                    refine split_bool (decide (t79 = 0)) (fun hb => ?_) (fun hb => ?_)
                    · replace h := h.1 hb
                      rw [hb] at hs
                      clear hb
                      refine t_yes hs rfl ?_
                      refine t_pure hs rfl rfl (by decide) (p_move rfl rfl) ?_
                      clear hs a
                      intro a hs
                      refine t_yes hs rfl ?_
                      obtain ⟨t105, hd, h⟩ := h
                      refine t_eff hs rfl rfl (by decide) (e_convert rfl rfl hd) ?_
                      clear hs a hd
                      intro a hs
                      refine t_yes hs rfl ?_
                      obtain ⟨t106, h0, h1, he, h⟩ := h
                      refine t_pure hs rfl rfl (by decide) (Pure.adr he (p_idxA rfl rfl rfl ar_64 h0 h1)) ?_
                      clear hs a h0 h1 he
                      intro a hs
                      refine t_yes hs rfl ?_
                      obtain ⟨t107, hv, h⟩ := h
                      refine t_eff hs rfl rfl (by decide) (e_load rfl rfl ct_33 hv) ?_
                      clear hs a hv
                      intro a hs
                      refine t_yes hs rfl ?_
                      obtain ⟨t108, hd, h⟩ := h
                      refine t_eff hs rfl rfl (by decide) (e_convert rfl rfl hd) ?_
                      clear hs a hd
                      intro a hs
                      replace hs := hs.to (τ := [(103, (.bool true)), (105, (.string t105)), (108, (.string t108))]) ⟨rfl, rfl, rfl, trivial⟩
                      refine t_yes hs rfl ?_
                      refine t_pure hs rfl rfl (by decide) (p_eqs rfl rfl rfl) ?_
                      clear hs a
                      intro a hs
                      refine t_pure hs rfl rfl (by decide) (p_pick_t rfl rfl rfl) ?_
                      clear hs a
                      intro a hs
                      refine t_pure hs rfl rfl (by decide) (p_assign rfl rfl) ?_
                      clear hs a
                      intro a hs
                      exact J3 (t105.toList == t108.toList) _ _ (hs.to ⟨rfl, trivial⟩) h
                    · replace h := h.2 hb
                      rw [hb] at hs
                      clear hb
                      refine t_no hs rfl rfl (by decide) ?_
                      clear hs a
                      intro a hs
                      refine t_no hs rfl rfl (by decide) ?_
                      clear hs a
                      intro a hs
                      refine t_no hs rfl rfl (by decide) ?_
                      clear hs a
                      intro a hs
                      refine t_no hs rfl rfl (by decide) ?_
                      clear hs a
                      intro a hs
                      refine t_no hs rfl rfl (by decide) ?_
                      clear hs a
                      intro a hs
                      replace hs := hs.to (τ := [(103, (.bool false)), (105, undef), (108, undef)]) ⟨rfl, rfl, rfl, trivial⟩
                      refine t_no hs rfl rfl (by decide) ?_
                      clear hs a
                      intro a hs
                      refine t_pure hs rfl rfl (by decide) (p_pick_f rfl rfl rfl) ?_
                      clear hs a
                      intro a hs
                      refine t_pure hs rfl rfl (by decide) (p_assign rfl rfl) ?_
                      clear hs a
                      intro a hs
                      exact J3 false _ _ (hs.to ⟨rfl, trivial⟩) h
                  · replace h := h.2 hb
                    rw [hb] at hs
                    clear hb
                    refine t_yes hs rfl ?_
                    refine t_pure hs rfl rfl (by decide) (p_move rfl rfl) ?_
                    clear hs a
                    intro a hs
                    replace hs := hs.to (τ := [(3, (.pointer (some bodies3))), (13, (.int .i64 t79)), (14, (Sl.val t82x0)), (91, (.bool false)), (92, (Sl.val t59x0))]) ⟨rfl, rfl, rfl, rfl, rfl, trivial⟩
                    refine t_yes hs rfl ?_
                    obtain ⟨t93, hd, h⟩ := h
                    refine t_eff hs rfl rfl (by decide) (e_convert rfl rfl hd) ?_
                    clear hs a hd
                    intro a hs
                    refine t_yes hs rfl ?_
                    obtain ⟨t94, h0, h1, he, h⟩ := h
                    refine t_pure hs rfl rfl (by decide) (Pure.adr he (p_idxA rfl rfl rfl ar_64 h0 h1)) ?_
                    clear hs a h0 h1 he
                    intro a hs
                    refine t_yes hs rfl ?_
                    obtain ⟨t95, hv, h⟩ := h
                    refine t_eff hs rfl rfl (by decide) (e_load rfl rfl ct_33 hv) ?_
                    clear hs a hv
                    intro a hs
                    refine t_yes hs rfl ?_
                    obtain ⟨t96, hd, h⟩ := h
                    refine t_eff hs rfl rfl (by decide) (e_convert rfl rfl hd) ?_
                    clear hs a hd
                    intro a hs
                    refine t_yes hs rfl ?_
                    refine t_pure hs rfl rfl (by decide) (p_eqs rfl rfl rfl) ?_
                    clear hs a
                    intro a hs
                    refine t_pure hs rfl rfl (by decide) (p_pick_f rfl rfl rfl) ?_
                    clear hs a
                    intro a hs
                    refine t_pure hs rfl rfl (by decide) (p_move rfl rfl) ?_
                    clear hs a
                    intro a hs
                    refine split_bool (t93.toList == t96.toList) (fun hb => ?_) (fun hb => ?_)
                    · replace h := h.1 hb
                      rw [hb] at hs
                      clear hb
                      refine t_yes hs rfl ?_
                      refine t_pure hs rfl rfl (by decide) (p_move rfl rfl) ?_
                      clear hs a
                      intro a hs
                      replace hs := hs.to (τ := [(3, (.pointer (some bodies3))), (14, (Sl.val t82x0)), (99, (.bool true)), (100, (.int .i64 t79))]) ⟨rfl, rfl, rfl, rfl, trivial⟩
                      refine t_yes hs rfl ?_
                      refine t_pure hs rfl rfl (by decide) (p_eq rfl rfl rfl) ?_
                      clear hs a
                      intro a hs
                      refine t_pure hs rfl rfl (by decide) (p_pick_t rfl rfl rfl) ?_
                      clear hs a
                      intro a hs
                      refine t_pure hs rfl rfl (by decide) (p_move rfl rfl) ?_
                      clear hs a
                      intro a hs
                      refine split_bool (decide (t79 = 0)) (fun hb => ?_) (fun hb => ?_)
                      · replace h := h.1 hb
                        rw [hb] at hs
                        clear hb
                        refine t_yes hs rfl ?_
                        refine t_pure hs rfl rfl (by decide) (p_move rfl rfl) ?_
                        clear hs a
                        intro a hs
                        refine t_yes hs rfl ?_
                        obtain ⟨t105, hd, h⟩ := h
                        refine t_eff hs rfl rfl (by decide) (e_convert rfl rfl hd) ?_
                        clear hs a hd
                        intro a hs
                        refine t_yes hs rfl ?_
                        obtain ⟨t106, h0, h1, he, h⟩ := h
                        refine t_pure hs rfl rfl (by decide) (Pure.adr he (p_idxA rfl rfl rfl ar_64 h0 h1)) ?_
                        clear hs a h0 h1 he
                        intro a hs
                        refine t_yes hs rfl ?_
                        obtain ⟨t107, hv, h⟩ := h
                        refine t_eff hs rfl rfl (by decide) (e_load rfl rfl ct_33 hv) ?_
                        clear hs a hv
                        intro a hs
                        refine t_yes hs rfl ?_
                        obtain ⟨t108, hd, h⟩ := h
                        refine t_eff hs rfl rfl (by decide) (e_convert rfl rfl hd) ?_
                        clear hs a hd
                        intro a hs
                        replace hs := hs.to (τ := [(103, (.bool true)), (105, (.string t105)), (108, (.string t108))]) ⟨rfl, rfl, rfl, trivial⟩
                        refine t_yes hs rfl ?_
                        refine t_pure hs rfl rfl (by decide) (p_eqs rfl rfl rfl) ?_
                        clear hs a
                        intro a hs
                        refine t_pure hs rfl rfl (by decide) (p_pick_t rfl rfl rfl) ?_
                        clear hs a
                        intro a hs
                        refine t_pure hs rfl rfl (by decide) (p_assign rfl rfl) ?_
                        clear hs a
                        intro a hs
                        exact J3 (t105.toList == t108.toList) _ _ (hs.to ⟨rfl, trivial⟩) h
                      · replace h := h.2 hb
                        rw [hb] at hs
                        clear hb
                        refine t_no hs rfl rfl (by decide) ?_
                        clear hs a
                        intro a hs
                        refine t_no hs rfl rfl (by decide) ?_
                        clear hs a
                        intro a hs
                        refine t_no hs rfl rfl (by decide) ?_
                        clear hs a
                        intro a hs
                        refine t_no hs rfl rfl (by decide) ?_
                        clear hs a
                        intro a hs
                        refine t_no hs rfl rfl (by decide) ?_
                        clear hs a
                        intro a hs
                        replace hs := hs.to (τ := [(103, (.bool false)), (105, undef), (108, undef)]) ⟨rfl, rfl, rfl, trivial⟩
                        refine t_no hs rfl rfl (by decide) ?_
                        clear hs a
                        intro a hs
                        refine t_pure hs rfl rfl (by decide) (p_pick_f rfl rfl rfl) ?_
                        clear hs a
                        intro a hs
                        refine t_pure hs rfl rfl (by decide) (p_assign rfl rfl) ?_
                        clear hs a
                        intro a hs
                        exact J3 false _ _ (hs.to ⟨rfl, trivial⟩) h
                    · replace h := h.2 hb
                      rw [hb] at hs
                      clear hb
                      refine t_no hs rfl rfl (by decide) ?_
                      clear hs a
                      intro a hs
                      replace hs := hs.to (τ := [(3, (.pointer (some bodies3))), (14, (Sl.val t82x0)), (99, (.bool false)), (100, undef)]) ⟨rfl, rfl, rfl, rfl, trivial⟩
                      refine t_no hs rfl rfl (by decide) ?_
                      clear hs a
                      intro a hs
                      refine t_pure hs rfl rfl (by decide) (p_pick_f rfl rfl rfl) ?_
                      clear hs a
                      intro a hs
                      refine t_pure hs rfl rfl (by decide) (p_move rfl rfl) ?_
                      clear hs a
                      intro a hs
                      refine t_no hs rfl rfl (by decide) ?_
                      clear hs a
                      intro a hs
                      refine t_no hs rfl rfl (by decide) ?_
                      clear hs a
                      intro a hs
                      refine t_no hs rfl rfl (by decide) ?_
                      clear hs a
                      intro a hs
                      refine t_no hs rfl rfl (by decide) ?_
                      clear hs a
                      intro a hs
                      refine t_no hs rfl rfl (by decide) ?_
                      clear hs a
                      intro a hs
                      replace hs := hs.to (τ := [(103, (.bool false)), (105, undef), (108, undef)]) ⟨rfl, rfl, rfl, trivial⟩
                      refine t_no hs rfl rfl (by decide) ?_
                      clear hs a
                      intro a hs
                      refine t_pure hs rfl rfl (by decide) (p_pick_f rfl rfl rfl) ?_
                      clear hs a
                      intro a hs
                      refine t_pure hs rfl rfl (by decide) (p_assign rfl rfl) ?_
                      clear hs a
                      intro a hs
                      exact J3 false _ _ (hs.to ⟨rfl, trivial⟩) h
              clear hK23
              refine wp_region_lit ?_
              refine t_pure hs rfl rfl (by decide) (p_move rfl rfl) ?_
              clear hs a
              intro a hs
              refine t_pure hs rfl rfl (by decide) (p_ne rfl rfl rfl) ?_
              clear hs a
              intro a hs
              refine t_pure hs rfl rfl (by decide) (p_move rfl rfl) ?_
              clear hs a
              intro a hs
              refine split_bool (decide (t59x1 ≠ 0)) (fun hb => ?_) (fun hb => ?_)
              · replace h := h.1 hb
                rw [hb] at hs
                clear hb
                refine t_no hs rfl rfl (by decide) ?_
                clear hs a
                intro a hs
                refine t_no hs rfl rfl (by decide) ?_
                clear hs a
                intro a hs
                refine t_no hs rfl rfl (by decide) ?_
                clear hs a
                intro a hs
                refine t_no hs rfl rfl (by decide) ?_
                clear hs a
                intro a hs
                refine t_no hs rfl rfl (by decide) ?_
                clear hs a
                intro a hs
                replace hs := hs.to (τ := [(3, (.pointer (some bodies3))), (10, (.pointer t54)), (11, (Sl.val t59x0)), (64, (.bool true)), (67, undef), (69, undef)]) ⟨rfl, rfl, rfl, rfl, rfl, rfl, trivial⟩
                refine t_no hs rfl rfl (by decide) ?_
                clear hs a
                intro a hs
                refine t_no hs rfl rfl (by decide) ?_
                clear hs a
                intro a hs
                refine t_no hs rfl rfl (by decide) ?_
                clear hs a
                intro a hs
                refine t_no hs rfl rfl (by decide) ?_
                clear hs a
                intro a hs
                refine t_no hs rfl rfl (by decide) ?_
                clear hs a
                intro a hs
                refine t_pure hs rfl rfl (by decide) (p_pick_t rfl rfl rfl) ?_
                clear hs a
                intro a hs
                exact J2 true _ _ (hs.to ⟨rfl, rfl, rfl, rfl, trivial⟩) h
              · replace h := h.2 hb
                rw [hb] at hs
                clear hb
                refine t_yes hs rfl ?_
                refine t_pure hs rfl rfl (by decide) (p_move rfl rfl) ?_
                clear hs a
                intro a hs
                refine t_yes hs rfl ?_
                refine t_pure hs rfl rfl (by decide) (p_eq rfl rfl rfl) ?_
                clear hs a
                intro a hs
                refine t_yes hs rfl ?_
                refine t_pure hs rfl rfl (by decide) (p_move rfl rfl) ?_
                clear hs a
                intro a hs
                refine split_bool (decide (t51 = 0)) (fun hb => ?_) (fun hb => ?_)
                · replace h := h.1 hb
                  rw [hb] at hs
                  clear hb
                  refine t_yes hs rfl ?_
                  refine t_pure hs rfl rfl (by decide) (p_move rfl rfl) ?_
                  clear hs a
                  intro a hs
                  refine t_yes hs rfl ?_
                  obtain ⟨t69, hd, h⟩ := h
                  refine t_eff hs rfl rfl (by decide) (e_convert rfl rfl hd) ?_
                  clear hs a hd
                  intro a hs
                  replace hs := hs.to (τ := [(3, (.pointer (some bodies3))), (10, (.pointer t54)), (11, (Sl.val t59x0)), (64, (.bool false)), (67, (.bool true)), (69, (.string t69))]) ⟨rfl, rfl, rfl, rfl, rfl, rfl, trivial⟩
                  refine t_yes hs rfl ?_
                  obtain ⟨t70, h0, h1, he, h⟩ := h
                  refine t_pure hs rfl rfl (by decide) (Pure.adr he (p_idxA rfl rfl rfl ar_64 h0 h1)) ?_
                  clear hs a h0 h1 he
                  intro a hs
                  refine t_yes hs rfl ?_
                  obtain ⟨t71, hv, h⟩ := h
                  refine t_eff hs rfl rfl (by decide) (e_load rfl rfl ct_33 hv) ?_
                  clear hs a hv
                  intro a hs
                  refine t_yes hs rfl ?_
                  obtain ⟨t72, hd, h⟩ := h
                  refine t_eff hs rfl rfl (by decide) (e_convert rfl rfl hd) ?_
                  clear hs a hd
                  intro a hs
                  refine t_yes hs rfl ?_
                  refine t_pure hs rfl rfl (by decide) (p_nes rfl rfl rfl) ?_
                  clear hs a
                  intro a hs
                  refine t_yes hs rfl ?_
                  refine t_pure hs rfl rfl (by decide) (p_pick_t rfl rfl rfl) ?_
                  clear hs a
                  intro a hs
                  refine t_pure hs rfl rfl (by decide) (p_pick_f rfl rfl rfl) ?_
                  clear hs a
                  intro a hs
                  exact J2 (!(t69.toList == t72.toList)) _ _ (hs.to ⟨rfl, rfl, rfl, rfl, trivial⟩) h
                · replace h := h.2 hb
                  rw [hb] at hs
                  clear hb
                  refine t_no hs rfl rfl (by decide) ?_
                  clear hs a
                  intro a hs
                  refine t_no hs rfl rfl (by decide) ?_
                  clear hs a
                  intro a hs
                  replace hs := hs.to (τ := [(3, (.pointer (some bodies3))), (10, (.pointer t54)), (11, (Sl.val t59x0)), (64, (.bool false)), (67, (.bool false)), (69, undef)]) ⟨rfl, rfl, rfl, rfl, rfl, rfl, trivial⟩
                  refine t_no hs rfl rfl (by decide) ?_
                  clear hs a
                  intro a hs
                  refine t_no hs rfl rfl (by decide) ?_
                  clear hs a
                  intro a hs
                  refine t_no hs rfl rfl (by decide) ?_
                  clear hs a
                  intro a hs
                  refine t_no hs rfl rfl (by decide) ?_
                  clear hs a
                  intro a hs
                  refine t_yes hs rfl ?_
                  refine t_pure hs rfl rfl (by decide) (p_pick_f rfl rfl rfl) ?_
                  clear hs a
                  intro a hs
                  refine t_pure hs rfl rfl (by decide) (p_pick_f rfl rfl rfl) ?_
                  clear hs a
                  intro a hs
                  exact J2 false _ _ (hs.to ⟨rfl, rfl, rfl, rfl, trivial⟩) h
    clear hK6
    refine wp_region_lit ?_
    obtain ⟨t18, h0, h1, he, h⟩ := h
    refine t_pure hs rfl rfl (by decide) (Pure.adr he (p_idxA rfl rfl rfl ar_64 h0 h1)) ?_
    clear hs a h0 h1 he
    intro a hs
    obtain ⟨t19, hv, h⟩ := h
    refine t_eff hs rfl rfl (by decide) (e_load rfl rfl ct_33 hv) ?_
    clear hs a hv
    intro a hs
    refine t_pure hs rfl rfl (by decide) (p_len rfl rfl sl_33) ?_
    clear hs a
    intro a hs
    refine t_pure hs rfl rfl (by decide) (p_gt rfl rfl rfl) ?_
    clear hs a
    intro a hs
    refine t_pure hs rfl rfl (by decide) (p_move rfl rfl) ?_
    clear hs a
    intro a hs
    refine split_bool (decide ((5000 : Int) < (t19.n : Int))) (fun hb => ?_) (fun hb => ?_)
    · replace h := h.1 hb
      rw [hb] at hs
      clear hb
      refine t_no hs rfl rfl (by decide) ?_
      clear hs a
      intro a hs
      refine t_no hs rfl rfl (by decide) ?_
      clear hs a
      intro a hs
      refine t_no hs rfl rfl (by decide) ?_
      clear hs a
      intro a hs
      replace hs := hs.to (τ := [(1, (.int .i64 calls1)), (2, (Sl.val keeps2)), (3, (.pointer (some bodies3))), (22, (.bool true)), (25, undef)]) ⟨rfl, rfl, rfl, rfl, rfl, trivial⟩
      refine t_no hs rfl rfl (by decide) ?_
      clear hs a
      intro a hs
      refine t_pure hs rfl rfl (by decide) (p_pick_t rfl rfl rfl) ?_
      clear hs a
      intro a hs
      refine t_pure hs rfl rfl (by decide) (p_move rfl rfl) ?_
      clear hs a
      intro a hs
      refine t_no hs rfl rfl (by decide) ?_
      clear hs a
      intro a hs
      refine t_no hs rfl rfl (by decide) ?_
      clear hs a
      intro a hs
      refine t_no hs rfl rfl (by decide) ?_
      clear hs a
      intro a hs
      refine t_pure hs rfl rfl (by decide) (p_pick_t rfl rfl rfl) ?_
      clear hs a
      intro a hs
      exact J1 true _ _ (hs.to ⟨rfl, rfl, rfl, rfl, trivial⟩) h
    · replace h := h.2 hb
      rw [hb] at hs
      clear hb
      refine t_yes hs rfl ?_
      obtain ⟨t23, h0, h1, he, h⟩ := h
      refine t_pure hs rfl rfl (by decide) (Pure.adr he (p_idxA rfl rfl rfl ar_64 h0 h1)) ?_
      clear hs a h0 h1 he
      intro a hs
      refine t_yes hs rfl ?_
      obtain ⟨t24, hv, h⟩ := h
      refine t_eff hs rfl rfl (by decide) (e_load rfl rfl ct_33 hv) ?_
      clear hs a hv
      intro a hs
      refine t_yes hs rfl ?_
      refine t_pure hs rfl rfl (by decide) (p_len rfl rfl sl_33) ?_
      clear hs a
      intro a hs
      replace hs := hs.to (τ := [(1, (.int .i64 calls1)), (2, (Sl.val keeps2)), (3, (.pointer (some bodies3))), (22, (.bool false)), (25, (.int .i64 (t24.n : Int)))]) ⟨rfl, rfl, rfl, rfl, rfl, trivial⟩
      refine t_yes hs rfl ?_
      refine t_pure hs rfl rfl (by decide) (p_gt rfl rfl rfl) ?_
      clear hs a
      intro a hs
      refine t_pure hs rfl rfl (by decide) (p_pick_f rfl rfl rfl) ?_
      clear hs a
      intro a hs
      refine t_pure hs rfl rfl (by decide) (p_move rfl rfl) ?_
      clear hs a
      intro a hs
      refine split_bool (decide ((5000 : Int) < (t24.n : Int))) (fun hb => ?_) (fun hb => ?_)
      · replace h := h.1 hb
        rw [hb] at hs
        clear hb
        refine t_no hs rfl rfl (by decide) ?_
        clear hs a
        intro a hs
        refine t_no hs rfl rfl (by decide) ?_
        clear hs a
        intro a hs
        refine t_no hs rfl rfl (by decide) ?_
        clear hs a
        intro a hs
        refine t_pure hs rfl rfl (by decide) (p_pick_t rfl rfl rfl) ?_
        clear hs a
        intro a hs
        exact J1 true _ _ (hs.to ⟨rfl, rfl, rfl, rfl, trivial⟩) h
      · replace h := h.2 hb
        rw [hb] at hs
        clear hb
        refine t_yes hs rfl ?_
        refine t_pure hs rfl rfl (by decide) (p_move rfl rfl) ?_
        clear hs a
        intro a hs
        refine t_yes hs rfl ?_
        refine t_pure hs rfl rfl (by decide) (p_len rfl rfl sl_44) ?_
        clear hs a
        intro a hs
        refine t_yes hs rfl ?_
        refine t_pure hs rfl rfl (by decide) (p_gt rfl rfl rfl) ?_
        clear hs a
        intro a hs
        refine t_pure hs rfl rfl (by decide) (p_pick_f rfl rfl rfl) ?_
        clear hs a
        intro a hs
        exact J1 (decide ((100 : Int) < (keeps2.n : Int))) _ _ (hs.to ⟨rfl, rfl, rfl, rfl, trivial⟩) h
def law08_speaks.s1 (Q : Bool → K)  (t0_1 : Bool) : K :=
  Q t0_1
def law08_speaks  (Q : Bool → K) : K :=
  snap_Pack.call (Sl.mk none 0 0) fun t4 =>
  snap_Unpack.call t4 fun t7x0 t7x1 =>
  Ite (decide ((t4.n : Int) = 7))
    (Ite (decide ((t7x0.n : Int) = 0))
      (law08_speaks.s1 Q (decide (t7x1 = 0)))
      (law08_speaks.s1 Q false))
    (law08_speaks.s1 Q false)
theorem law08_speaks_ok  (Q : Bool → K) (w : World) (h : law08_speaks  Q w) : law08_speaks.call  Q w := by
  unfold law08_speaks.call CallF
  refine f_start (args := []) Try.func37 rfl (Nat.le_of_ble_eq_true rfl) ?_
  intro a hs
  unfold law08_speaks at h
  refine wp_seq_k fun K1 hK1 => ?_
  refine wp_region_lit ?_
  refine t_pure hs rfl rfl (by decide) (p_assign rfl rfl) ?_
  clear hs a
  intro a hs
  refine hK1 _ _ ?_
  refine wp_seq_k fun K2 hK2 => ?_
  refine wp_region_lit ?_
  refine t_call hs rfl rfl (by decide) (e_call rfl rfl rfl cb_64) h ?_
  clear hs a h
  intro v a w hk hs
  obtain ⟨t4, rfl, h⟩ := hk
  refine t_pure hs rfl rfl (by decide) (p_assign rfl rfl) ?_
  clear hs a
  intro a hs
  refine hK2 _ _ ?_
  refine wp_seq_k fun K3 hK3 => ?_
  refine wp_region_lit ?_
  refine t_pure hs rfl rfl (by decide) (p_move rfl rfl) ?_
  clear hs a
  intro a hs
  refine t_call hs rfl rfl (by decide) (e_call rfl rfl rfl cb_65) h ?_
  clear hs a h
  intro v a w hk hs
  obtain ⟨t7x0, t7x1, rfl, h⟩ := hk
  refine t_pure hs rfl rfl (by decide) (p_move rfl rfl) ?_
  clear hs a
  intro a hs
  refine t_pure hs rfl rfl (by decide) (p_extract rfl rfl rfl) ?_
  clear hs a
  intro a hs
  refine t_pure hs rfl rfl (by decide) (p_extract rfl rfl rfl) ?_
  clear hs a
  intro a hs
  refine t_pure hs rfl rfl (by decide) (p_assign rfl rfl) ?_
  clear hs a
  intro a hs
  refine t_pure hs rfl rfl (by decide) (p_assign rfl rfl) ?_
  clear hs a
  intro a hs
  refine hK3 _ _ ?_
  refine wp_seq_k fun K4 hK4 => ?_
  have J1 : ∀ (t0_1 : Bool) (a : Act) (w : World), Slots a 22 [(0, (.bool t0_1))] → law08_speaks.s1 Q t0_1 w → K4 a w := by
    clear h hs
    intro t0_1 a w hs h
    refine hK4 _ _ ?_
    unfold law08_speaks.s1 at h
    refine wp_ret ?_
    refine f_ret (fn := Try.f37) hs (fun a hs => r_one hs rfl (rfl)) ⟨t0_1, rfl, h⟩
  clear hK4
  refine wp_region_lit ?_
  refine t_pure hs rfl rfl (by decide) (p_move rfl rfl) ?_
  clear hs a
  intro a hs
  refine t_pure hs rfl rfl (by decide) (p_len rfl rfl sl_33) ?_
  clear hs a
  intro a hs
  refine t_pure hs rfl rfl (by decide) (p_eq rfl rfl rfl) ?_
  clear hs a
  intro a hs
  refine t_pure hs rfl rfl (by decide) (p_move rfl rfl) ?_
  clear hs a
  intro a hs
  refine split_bool (decide ((t4.n : Int) = 7)) (fun hb => ?_) (fun hb => ?_)
  · replace h := h.1 hb
    rw [hb] at hs
    clear hb
    refine t_yes hs rfl ?_
    refine t_pure hs rfl rfl (by decide) (p_move rfl rfl) ?_
    clear hs a
    intro a hs
    refine t_yes hs rfl ?_
    refine t_pure hs rfl rfl (by decide) (p_len rfl rfl sl_33) ?_
    clear hs a
    intro a hs
    refine t_yes hs rfl ?_
    refine t_pure hs rfl rfl (by decide) (p_eq rfl rfl rfl) ?_
    clear hs a
    intro a hs
    refine t_pure hs rfl rfl (by decide) (p_pick_t rfl rfl rfl) ?_
    clear hs a
    intro a hs
    replace hs := hs.to (τ := [(3, (.int .i64 t7x1)), (17, (.bool (decide ((t7x0.n : Int) = 0))))]) ⟨rfl, rfl, trivial⟩
    refine t_pure hs rfl rfl (by decide) (p_move rfl rfl) ?_
    clear hs a
    intro a hs
    refine split_bool (decide ((t7x0.n : Int) = 0)) (fun hb => ?_) (fun hb => ?_)
    · replace h := h.1 hb
      rw [hb] at hs
      clear hb
      refine t_yes hs rfl ?_
      refine t_pure hs rfl rfl (by decide) (p_move rfl rfl) ?_
      clear hs a
      intro a hs
      refine t_yes hs rfl ?_
      refine t_pure hs rfl rfl (by decide) (p_eq rfl rfl rfl) ?_
      clear hs a
      intro a hs
      refine t_pure hs rfl rfl (by decide) (p_pick_t rfl rfl rfl) ?_
      clear hs a
      intro a hs
      refine t_pure hs rfl rfl (by decide) (p_assign rfl rfl) ?_
      clear hs a
      intro a hs
      exact J1 (decide (t7x1 = 0)) _ _ (hs.to ⟨rfl, trivial⟩) h
    · replace h := h.2 hb
      rw [hb] at hs
      clear hb
      refine t_no hs rfl rfl (by decide) ?_
      clear hs a
      intro a hs
      refine t_no hs rfl rfl (by decide) ?_
      clear hs a
      intro a hs
      refine t_pure hs rfl rfl (by decide) (p_pick_f rfl rfl rfl) ?_
      clear hs a
      intro a hs
      refine t_pure hs rfl rfl (by decide) (p_assign rfl rfl) ?_
      clear hs a
      intro a hs
      exact J1 false _ _ (hs.to ⟨rfl, trivial⟩) h
  · replace h := h.2 hb
    rw [hb] at hs
    clear hb
    refine t_no hs rfl rfl (by decide) ?_
    clear hs a
    intro a hs
    refine t_no hs rfl rfl (by decide) ?_
    clear hs a
    intro a hs
    refine t_no hs rfl rfl (by decide) ?_
    clear hs a
    intro a hs
    refine t_pure hs rfl rfl (by decide) (p_pick_f rfl rfl rfl) ?_
    clear hs a
    intro a hs
    replace hs := hs.to (τ := [(3, (.int .i64 t7x1)), (17, (.bool false))]) ⟨rfl, rfl, trivial⟩
    refine t_pure hs rfl rfl (by decide) (p_move rfl rfl) ?_
    clear hs a
    intro a hs
    refine t_no hs rfl rfl (by decide) ?_
    clear hs a
    intro a hs
    refine t_no hs rfl rfl (by decide) ?_
    clear hs a
    intro a hs
    refine t_pure hs rfl rfl (by decide) (p_pick_f rfl rfl rfl) ?_
    clear hs a
    intro a hs
    refine t_pure hs rfl rfl (by decide) (p_assign rfl rfl) ?_
    clear hs a
    intro a hs
    exact J1 false _ _ (hs.to ⟨rfl, trivial⟩) h
def law08_great.s2 (Q : Bool → K) (X1 : Int → K) (t8_2 : Sl) (t9_2 : Int) (t10_2 : Int) (t29_2 : Bool) : K :=
  Ite t29_2
    (Q true)
    (Ar (IntKind.wrap .i64 (t10_2 + 1)) fun t30 =>
    X1 t30)
def law08_great.b1 (Q : Bool → K)  (X1 : Int → K) (t8_1 : Sl) (t9_1 : Int) (t10_1 : Int) : K :=
  Ite (decide (t10_1 < t9_1))
    (Idx t8_1 t10_1 5 fun t12 =>
    LdN t12 5 fun t13 =>
    New 81 #[(.int .i64 0), (.int .i64 0), (.string ⟨#[]⟩), (Sl.val ⟨none, 0, 0⟩), (Sl.val ⟨none, 0, 0⟩)] fun o4 =>
    StN o4 5 t13 <|
    Ld (o4.add 3) Sl.val fun t15 =>
    Ite (decide ((5000 : Int) < (t15.n : Int)))
      (law08_great.s2 Q X1 t8_1 t9_1 t10_1 true)
      (Ld (o4.add 2) Value.string fun t20 =>
      Ite (decide ((200 : Int) < (t20.size : Int)))
        (law08_great.s2 Q X1 t8_1 t9_1 t10_1 true)
        (Ld (o4.add 4) Sl.val fun t26 =>
        law08_great.s2 Q X1 t8_1 t9_1 t10_1 (decide ((100 : Int) < (t26.n : Int))))))
    (Q false)
def law08_great (script0 : Sl) (Q : Bool → K) : K :=
  Ite (decide ((40 : Int) < (script0.n : Int)))
    (Q true)
    (LoopK (α := Int) (fun X x => law08_great.b1 Q X script0 (script0.n : Int) x) 0)
theorem law08_great_ok (script0 : Sl) (Q : Bool → K) (w : World) (h : law08_great script0 Q w) : law08_great.call script0 Q w := by
  unfold law08_great.call CallF
  refine f_start (args := [(Sl.val script0)]) Try.func40 rfl (Nat.le_of_ble_eq_true rfl) ?_
  intro a hs
  unfold law08_great at h
  refine wp_seq_k fun K1 hK1 => ?_
  refine wp_region_lit ?_
  refine t_pure hs rfl rfl (by decide) (p_assign rfl rfl) ?_
  clear hs a
  intro a hs
  refine hK1 _ _ ?_
  refine wp_seq_k fun K2 hK2 => ?_
  refine wp_seq_k fun K3 hK3 => ?_
  refine wp_region_lit ?_
  refine t_pure hs rfl rfl (by decide) (p_move rfl rfl) ?_
  clear hs a
  intro a hs
  refine t_pure hs rfl rfl (by decide) (p_len rfl rfl sl_78) ?_
  clear hs a
  intro a hs
  refine t_pure hs rfl rfl (by decide) (p_gt rfl rfl rfl) ?_
  clear hs a
  intro a hs
  refine hK3 _ _ ?_
  refine c_cond hs rfl (fun hb => ?_) (fun hb => ?_)
  · replace h := h.1 hb
    clear hb
    refine wp_seq_k fun K4 hK4 => ?_
    refine wp_region_lit ?_
    refine t_pure hs rfl rfl (by decide) (p_assign rfl rfl) ?_
    clear hs a
    intro a hs
    refine hK4 _ _ ?_
    refine wp_ret ?_
    refine f_ret (fn := Try.f40) hs (fun a hs => r_one hs rfl (rfl)) ⟨true, rfl, h⟩
  · replace h := h.2 hb
    clear hb
    refine wp_skip ?_
    refine hK2 _ _ ?_
    refine wp_seq_k fun K5 hK5 => ?_
    refine wp_seq_k fun K6 hK6 => ?_
    refine wp_region_lit ?_
    refine t_pure hs rfl rfl (by decide) (p_move rfl rfl) ?_
    clear hs a
    intro a hs
    refine t_pure hs rfl rfl (by decide) (p_len rfl rfl sl_78) ?_
    clear hs a
    intro a hs
    refine t_pure hs rfl rfl (by decide) (p_move rfl rfl) ?_
    clear hs a
    intro a hs
    refine hK6 _ _ ?_
    refine wp_block ?_
    obtain ⟨I1, μ1, h0, hr⟩ := h
    refine c_loop (α := Int) I1 μ1 (fun x a => Slots a 31 [(8, (Sl.val script0)), (9, (.int .i64 (script0.n : Int))), (10, (.int .i64 x))]) 0 h0 (hs.to ⟨rfl, rfl, rfl, trivial⟩) ?_
    clear h0 hs a
    intro t10_1 a w hI hs
    have h : law08_great.b1 Q (fun t10_1n w' => I1 t10_1n w' ∧ μ1 t10_1n w' < μ1 t10_1 w) script0 (script0.n : Int) t10_1 w := hr t10_1 w hI
    clear hr hI
    generalize hX1 : (fun t10_1n w' => I1 t10_1n w' ∧ μ1 t10_1n w' < μ1 t10_1 w) = X1 at h
    unfold law08_great.b1 at h
    replace hs : Slots a 31 [(8, (Sl.val script0)), (9, (.int .i64 (script0.n : Int))), (10, (.int .i64 t10_1))] := hs
    refine wp_seq_k fun K7 hK7 => ?_
    refine wp_region_lit ?_
    refine t_pure hs rfl rfl (by decide) (p_lt rfl rfl rfl) ?_
    clear hs a
    intro a hs
    refine hK7 _ _ ?_
    refine wp_seq_k fun K8 hK8 => ?_
    refine c_cond hs rfl (fun hb => ?_) (fun hb => ?_)
    · replace h := h.1 hb
      clear hb
      refine wp_skip ?_
      refine hK8 _ _ ?_
      refine wp_seq_k fun K9 hK9 => ?_
      refine wp_block ?_
      refine wp_seq_k fun K10 hK10 => ?_
      refine wp_region_lit ?_
      obtain ⟨qt12, t12, ha, h0, h1, he, h⟩ := h
      refine t_pure hs rfl rfl (by decide) (Pure.adr he (p_idx rfl rfl rfl sl_78 ha h0 h1)) ?_
      clear hs a ha h0 h1 he
      intro a hs
      obtain ⟨t13, hn, hv, h⟩ := h
      refine t_eff hs rfl rfl (by decide) (e_loadN rfl rfl at_81 hn hv) ?_
      clear hs a hn hv
      intro a hs
      obtain ⟨o4, w1, ha, hw, h⟩ := h
      refine t_eff hs rfl rfl (by decide) (e_alloc rfl zt_81 rfl ha hw) ?_
      clear hs a ha hw
      intro a hs
      obtain ⟨w1, hw, hn, hc, hv, h⟩ := h
      refine t_skip hs rfl rfl (e_storeN rfl rfl rfl sz_81 hw hn hc hv) ?_
      clear hs a hw hn hc hv
      intro a hs
      refine hK10 _ _ ?_
      refine wp_seq_k fun K11 hK11 => ?_
      have J2 : ∀ (t29_2 : Bool) (a : Act) (w : World), Slots a 31 [(8, (Sl.val script0)), (9, (.int .i64 (script0.n : Int))), (10, (.int .i64 t10_1)), (29, (.bool t29_2))] → law08_great.s2 Q X1 script0 (script0.n : Int) t10_1 t29_2 w → K11 a w := by
        clear h hs
        intro t29_2 a w hs h
        refine hK11 _ _ ?_
        unfold law08_great.s2 at h
        refine c_cond hs rfl (fun hb => ?_) (fun hb => ?_)
        · replace h := h.1 hb
          clear hb
          refine wp_seq_k fun K12 hK12 => ?_
          refine wp_region_lit ?_
          refine t_pure hs rfl rfl (by decide) (p_assign rfl rfl) ?_
          clear hs a
          intro a hs
          refine hK12 _ _ ?_
          refine wp_ret ?_
          refine f_ret (fn := Try.f40) hs (fun a hs => r_one hs rfl (rfl)) ⟨true, rfl, h⟩
        · replace h := h.2 hb
          clear hb
          refine wp_skip ?_
          refine hK9 _ _ ?_
          refine wp_region_lit ?_
          obtain ⟨t30, he, h⟩ := h
          refine t_pure hs rfl rfl (by decide) (Pure.int he (p_add rfl rfl rfl)) ?_
          clear hs a he
          intro a hs
          refine t_pure hs rfl rfl (by decide) (p_move rfl rfl) ?_
          clear hs a
          intro a hs
          rw [← hX1] at h
          exact ⟨t30, hs.to ⟨rfl, rfl, rfl, trivial⟩, h⟩
      clear hK11
      refine wp_region_lit ?_
      refine t_pure hs rfl rfl (by decide) (p_fieldAddr rfl rfl ft_81_3) ?_
      clear hs a
      intro a hs
      obtain ⟨t15, hv, h⟩ := h
      refine t_eff hs rfl rfl (by decide) (e_load rfl rfl ct_33 hv) ?_
      clear hs a hv
      intro a hs
      refine t_pure hs rfl rfl (by decide) (p_len rfl rfl sl_33) ?_
      clear hs a
      intro a hs
      refine t_pure hs rfl rfl (by decide) (p_gt rfl rfl rfl) ?_
      clear hs a
      intro a hs
      refine t_pure hs rfl rfl (by decide) (p_move rfl rfl) ?_
      clear hs a
      intro a hs
      refine split_bool (decide ((5000 : Int) < (t15.n : Int))) (fun hb => ?_) (fun hb => ?_)
      · replace h := h.1 hb
        rw [hb] at hs
        clear hb
        refine t_no hs rfl rfl (by decide) ?_
        clear hs a
        intro a hs
        refine t_no hs rfl rfl (by decide) ?_
        clear hs a
        intro a hs
        refine t_no hs rfl rfl (by decide) ?_
        clear hs a
        intro a hs
        replace hs := hs.to (τ := [(4, (.pointer (some o4))), (8, (Sl.val script0)), (9, (.int .i64 (script0.n : Int))), (10, (.int .i64 t10_1)), (18, (.bool true)), (21, undef)]) ⟨rfl, rfl, rfl, rfl, rfl, rfl, trivial⟩
        refine t_no hs rfl rfl (by decide) ?_
        clear hs a
        intro a hs
        refine t_pure hs rfl rfl (by decide) (p_pick_t rfl rfl rfl) ?_
        clear hs a
        intro a hs
        refine t_pure hs rfl rfl (by decide) (p_move rfl rfl) ?_
        clear hs a
        intro a hs
        refine t_no hs rfl rfl (by decide) ?_
        clear hs a
        intro a hs
        refine t_no hs rfl rfl (by decide) ?_
        clear hs a
        intro a hs
        refine t_no hs rfl rfl (by decide) ?_
        clear hs a
        intro a hs
        refine t_no hs rfl rfl (by decide) ?_
        clear hs a
        intro a hs
        refine t_pure hs rfl rfl (by decide) (p_pick_t rfl rfl rfl) ?_
        clear hs a
        intro a hs
        exact J2 true _ _ (hs.to ⟨rfl, rfl, rfl, rfl, trivial⟩) h
      · replace h := h.2 hb
        rw [hb] at hs
        clear hb
        refine t_yes hs rfl ?_
        refine t_pure hs rfl rfl (by decide) (p_fieldAddr rfl rfl ft_81_2) ?_
        clear hs a
        intro a hs
        refine t_yes hs rfl ?_
        obtain ⟨t20, hv, h⟩ := h
        refine t_eff hs rfl rfl (by decide) (e_load rfl rfl ct_9 hv) ?_
        clear hs a hv
        intro a hs
        refine t_yes hs rfl ?_
        refine t_pure hs rfl rfl (by decide) (p_lens rfl rfl st_9) ?_
        clear hs a
        intro a hs
        replace hs := hs.to (τ := [(4, (.pointer (some o4))), (8, (Sl.val script0)), (9, (.int .i64 (script0.n : Int))), (10, (.int .i64 t10_1)), (18, (.bool false)), (21, (.int .i64 (t20.size : Int)))]) ⟨rfl, rfl, rfl, rfl, rfl, rfl, trivial⟩
        refine t_yes hs rfl ?_
        refine t_pure hs rfl rfl (by decide) (p_gt rfl rfl rfl) ?_
        clear hs a
        intro a hs
        refine t_pure hs rfl rfl (by decide) (p_pick_f rfl rfl rfl) ?_
        clear hs a
        intro a hs
        refine t_pure hs rfl rfl (by decide) (p_move rfl rfl) ?_
        clear hs a
        intro a hs
        refine split_bool (decide ((200 : Int) < (t20.size : Int))) (fun hb => ?_) (fun hb => ?_)
        · replace h := h.1 hb
          rw [hb] at hs
          clear hb
          refine t_no hs rfl rfl (by decide) ?_
          clear hs a
          intro a hs
          refine t_no hs rfl rfl (by decide) ?_
          clear hs a
          intro a hs
          refine t_no hs rfl rfl (by decide) ?_
          clear hs a
          intro a hs
          refine t_no hs rfl rfl (by decide) ?_
          clear hs a
          intro a hs
          refine t_pure hs rfl rfl (by decide) (p_pick_t rfl rfl rfl) ?_
          clear hs a
          intro a hs
          exact J2 true _ _ (hs.to ⟨rfl, rfl, rfl, rfl, trivial⟩) h
        · replace h := h.2 hb
          rw [hb] at hs
          clear hb
          refine t_yes hs rfl ?_
          refine t_pure hs rfl rfl (by decide) (p_fieldAddr rfl rfl ft_81_4) ?_
          clear hs a
          intro a hs
          refine t_yes hs rfl ?_
          obtain ⟨t26, hv, h⟩ := h
          refine t_eff hs rfl rfl (by decide) (e_load rfl rfl ct_44 hv) ?_
          clear hs a hv
          intro a hs
          refine t_yes hs rfl ?_
          refine t_pure hs rfl rfl (by decide) (p_len rfl rfl sl_44) ?_
          clear hs a
          intro a hs
          refine t_yes hs rfl ?_
          refine t_pure hs rfl rfl (by decide) (p_gt rfl rfl rfl) ?_
          clear hs a
          intro a hs
          refine t_pure hs rfl rfl (by decide) (p_pick_f rfl rfl rfl) ?_
          clear hs a
          intro a hs
          exact J2 (decide ((100 : Int) < (t26.n : Int))) _ _ (hs.to ⟨rfl, rfl, rfl, rfl, trivial⟩) h
    · replace h := h.2 hb
      clear hb
      refine wp_exit ?_
      refine hK5 _ _ ?_
      refine wp_seq_k fun K13 hK13 => ?_
      refine wp_region_lit ?_
      refine t_pure hs rfl rfl (by decide) (p_assign rfl rfl) ?_
      clear hs a
      intro a hs
      refine hK13 _ _ ?_
      refine wp_ret ?_
      refine f_ret (fn := Try.f40) hs (fun a hs => r_one hs rfl (rfl)) ⟨false, rfl, h⟩
end Go.Proofs.Ytgnkminakongkaa
