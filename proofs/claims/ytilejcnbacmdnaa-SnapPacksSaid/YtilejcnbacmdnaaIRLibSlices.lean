/- Plain forms of functions, and that their code comes to them (package lib_slices). -/
import Derived.Test.YtilejcnbacmdnaaCalls
import Derived.Test.YtilejcnbacmdnaaRounds
namespace Go.Proofs.Ytilejcnbacmdnaa
open Go Go.Sep
set_option linter.unusedVariables false
set_option linter.unusedSimpArgs false
set_option maxRecDepth 100000
set_option maxHeartbeats 4000000
def slices_Delete_s_api_Parcel_api_Parcel (s0 : Sl) (i1 : Int) (j2 : Int) (Q : Sl → K) : K :=
  Slc s0 i1 j2 (s0.n : Int) 7 fun t13 =>
  Ite (decide (i1 = j2))
    (Q s0)
    (Dr <|
    Slc s0 0 i1 (s0.c : Int) 7 fun t22 =>
    Slc s0 j2 (s0.n : Int) (s0.c : Int) 7 fun t25 =>
    Do Try.prog (Builtin.append_ #[31, 31] 31 #[(Sl.val t22), (Sl.val t25)]) Sl.val fun t26 =>
    Slc t26 (t26.n : Int) (s0.n : Int) (t26.c : Int) 7 fun t31 =>
    Do Try.prog (Builtin.clear_ #[31] 0 #[(Sl.val t31)]) id fun _ =>
    Q t26)
theorem slices_Delete_s_api_Parcel_api_Parcel_ok (s0 : Sl) (i1 : Int) (j2 : Int) (Q : Sl → K) (w : World) (h : slices_Delete_s_api_Parcel_api_Parcel s0 i1 j2 Q w) : slices_Delete_s_api_Parcel_api_Parcel.call s0 i1 j2 Q w := by
  unfold slices_Delete_s_api_Parcel_api_Parcel.call CallF
  refine f_start (args := [(Sl.val s0), (.int .i64 i1), (.int .i64 j2)]) Try.func52 rfl (Nat.le_of_ble_eq_true rfl) ?_
  intro a hs
  unfold slices_Delete_s_api_Parcel_api_Parcel at h
  refine wp_seq_k fun K1 hK1 => ?_
  refine wp_region_lit ?_
  refine t_pure hs rfl rfl (by decide) (p_assign rfl rfl) ?_
  clear hs a
  intro a hs
  refine hK1 _ _ ?_
  refine wp_seq_k fun K2 hK2 => ?_
  refine wp_region_lit ?_
  refine t_pure hs rfl rfl (by decide) (p_move rfl rfl) ?_
  clear hs a
  intro a hs
  refine t_pure hs rfl rfl (by decide) (p_move rfl rfl) ?_
  clear hs a
  intro a hs
  refine t_pure hs rfl rfl (by decide) (p_move rfl rfl) ?_
  clear hs a
  intro a hs
  refine t_pure hs rfl rfl (by decide) (p_move rfl rfl) ?_
  clear hs a
  intro a hs
  refine t_pure hs rfl rfl (by decide) (p_len rfl rfl sl_31) ?_
  clear hs a
  intro a hs
  obtain ⟨t13, h0, h1, h2, h3, he, h⟩ := h
  refine t_pure hs rfl rfl (by decide) (Pure.sl he (p_slc rfl rfl sl_31 ⟨_, rfl⟩ ⟨_, rfl⟩ ⟨_, rfl⟩ (by decide) h0 h1 h2 h3)) ?_
  clear hs a h0 h1 h2 h3 he
  intro a hs
  refine hK2 _ _ ?_
  refine wp_seq_k fun K3 hK3 => ?_
  refine wp_seq_k fun K4 hK4 => ?_
  refine wp_region_lit ?_
  refine t_pure hs rfl rfl (by decide) (p_move rfl rfl) ?_
  clear hs a
  intro a hs
  refine t_pure hs rfl rfl (by decide) (p_move rfl rfl) ?_
  clear hs a
  intro a hs
  refine t_pure hs rfl rfl (by decide) (p_eq rfl rfl rfl) ?_
  clear hs a
  intro a hs
  refine hK4 _ _ ?_
  refine c_cond hs rfl (fun hb => ?_) (fun hb => ?_)
  · replace h := h.1 hb
    clear hb
    refine wp_seq_k fun K5 hK5 => ?_
    refine wp_region_lit ?_
    refine t_pure hs rfl rfl (by decide) (p_move rfl rfl) ?_
    clear hs a
    intro a hs
    refine t_pure hs rfl rfl (by decide) (p_assign rfl rfl) ?_
    clear hs a
    intro a hs
    refine hK5 _ _ ?_
    refine wp_ret ?_
    refine f_ret (fn := Try.f52) hs (fun a hs => r_one hs rfl (rfl)) ⟨s0, rfl, h⟩
  · replace h := h.2 hb
    clear hb
    refine wp_skip ?_
    refine hK3 _ _ ?_
    refine wp_seq_k fun K6 hK6 => ?_
    refine wp_region_lit ?_
    refine t_pure hs rfl rfl (by decide) (p_move rfl rfl) ?_
    clear hs a
    intro a hs
    refine t_pure hs rfl rfl (by decide) (p_len rfl rfl sl_31) ?_
    clear hs a
    intro a hs
    refine t_pure hs rfl rfl (by decide) (p_assign rfl rfl) ?_
    clear hs a
    intro a hs
    refine hK6 _ _ ?_
    refine wp_seq_k fun K7 hK7 => ?_
    obtain ⟨w1, hw1, h⟩ := h
    refine d_start (S := Any) (ds := []) #[false, false, false, false, false, false, false, false] mixed rfl rfl ?_
    rw [← hw1]
    have hS := Any.intro w1
    clear hw1
    refine d_pure hs #[true, false, false, false, false, false, false, false] (i := 0) rfl rfl rfl (by decide) (by kernel_rfl) (tight_body (P := Try.prog) (fn := Try.f52)) (p_move rfl rfl) ?_
    clear hs a
    intro a hs
    refine d_pure hs #[true, true, false, false, false, false, false, false] (i := 1) rfl rfl rfl (by decide) (by kernel_rfl) (tight_body (P := Try.prog) (fn := Try.f52)) (p_move rfl rfl) ?_
    clear hs a
    intro a hs
    obtain ⟨t22, h0, h1, h2, h3, he, h⟩ := h
    refine d_pure hs #[true, true, true, false, false, false, false, false] (i := 2) rfl rfl rfl (by decide) (by kernel_rfl) (tight_body (P := Try.prog) (fn := Try.f52)) (Pure.sl he (p_slc rfl rfl sl_31 rfl ⟨_, rfl⟩ rfl (by decide) h0 h1 h2 h3)) ?_
    clear hs a h0 h1 h2 h3 he
    intro a hs
    refine d_pure hs #[true, true, true, true, false, false, false, false] (i := 3) rfl rfl rfl (by decide) (by kernel_rfl) (tight_body (P := Try.prog) (fn := Try.f52)) (p_move rfl rfl) ?_
    clear hs a
    intro a hs
    refine d_pure hs #[true, true, true, true, true, false, false, false] (i := 4) rfl rfl rfl (by decide) (by kernel_rfl) (tight_body (P := Try.prog) (fn := Try.f52)) (p_move rfl rfl) ?_
    clear hs a
    intro a hs
    obtain ⟨t25, h0, h1, h2, h3, he, h⟩ := h
    refine d_pure hs #[true, true, true, true, true, true, false, false] (i := 5) rfl rfl rfl (by decide) (by kernel_rfl) (tight_body (P := Try.prog) (fn := Try.f52)) (Pure.sl he (p_slc rfl rfl sl_31 ⟨_, rfl⟩ rfl rfl (by decide) h0 h1 h2 h3)) ?_
    clear hs a h0 h1 h2 h3 he
    intro a hs
    refine d_all [6] (by kernel_rfl) (by decide) ?_
    refine AllS.cons ?_ AllS.nil
    obtain ⟨t26, w1, hd, h⟩ := h
    refine d_eff hs #[true, true, true, true, true, true, true, false] (i := 6) rfl rfl rfl (by decide) rfl (e_append rfl rfl rfl rfl hd) (fun _ _ => Any.intro _) ?_
    clear hs a hd
    intro a hs
    refine d_pure hs #[true, true, true, true, true, true, true, true] (i := 7) rfl rfl rfl (by decide) (by kernel_rfl) (tight_body (P := Try.prog) (fn := Try.f52)) (p_assign rfl rfl) ?_
    clear hs a
    intro a hs
    replace hs := hs.to (τ := [(0, (Sl.val t26)), (7, (.int .i64 (s0.n : Int)))]) ⟨rfl, rfl, trivial⟩
    refine d_done (by kernel_rfl) ?_ _
    clear hS
    refine hK7 _ _ ?_
    refine wp_seq_k fun K8 hK8 => ?_
    refine wp_region_lit ?_
    refine t_pure hs rfl rfl (by decide) (p_move rfl rfl) ?_
    clear hs a
    intro a hs
    refine t_pure hs rfl rfl (by decide) (p_move rfl rfl) ?_
    clear hs a
    intro a hs
    refine t_pure hs rfl rfl (by decide) (p_len rfl rfl sl_31) ?_
    clear hs a
    intro a hs
    refine t_pure hs rfl rfl (by decide) (p_move rfl rfl) ?_
    clear hs a
    intro a hs
    obtain ⟨t31, h0, h1, h2, h3, he, h⟩ := h
    refine t_pure hs rfl rfl (by decide) (Pure.sl he (p_slc rfl rfl sl_31 ⟨_, rfl⟩ ⟨_, rfl⟩ rfl (by decide) h0 h1 h2 h3)) ?_
    clear hs a h0 h1 h2 h3 he
    intro a hs
    obtain ⟨u1, w1, hd, h⟩ := h
    refine t_none hs rfl rfl (e_clear rfl rfl rfl hd) ?_
    clear hs a hd
    intro a hs
    refine hK8 _ _ ?_
    refine wp_seq_k fun K9 hK9 => ?_
    refine wp_region_lit ?_
    refine t_pure hs rfl rfl (by decide) (p_move rfl rfl) ?_
    clear hs a
    intro a hs
    refine t_pure hs rfl rfl (by decide) (p_assign rfl rfl) ?_
    clear hs a
    intro a hs
    refine hK9 _ _ ?_
    refine wp_ret ?_
    refine f_ret (fn := Try.f52) hs (fun a hs => r_one hs rfl (rfl)) ⟨t26, rfl, h⟩
def slices_Chunk_s_byte_byte.s1 (Q : Value → K)  (s2_1 : Addr) (n3_1 : Addr) : K :=
  Q (.func (.func 71) #[] #[(.pointer (some s2_1)), (.pointer (some n3_1))])
def slices_Chunk_s_byte_byte (s0 : Sl) (n1 : Int) (Q : Value → K) : K :=
  New 22 #[(Sl.val s0)] fun s2 =>
  New 3 #[(.int .i64 n1)] fun n3 =>
  Ld n3 (Value.int .i64) fun t5 =>
  Ite (decide (t5 < 1))
    (Rd Try.prog (Instr.makeInterface 9 (.string ⟨#[99, 97, 110, 110, 111, 116, 32, 98, 101, 32, 108, 101, 115, 115, 32, 116, 104, 97, 110, 32, 49]⟩)) id fun t7 =>
    Dead)
    (slices_Chunk_s_byte_byte.s1 Q s2 n3)
theorem slices_Chunk_s_byte_byte_ok (s0 : Sl) (n1 : Int) (Q : Value → K) (w : World) (h : slices_Chunk_s_byte_byte s0 n1 Q w) : slices_Chunk_s_byte_byte.call s0 n1 Q w := by
  unfold slices_Chunk_s_byte_byte.call CallF
  refine f_start (args := [(Sl.val s0), (.int .i64 n1)]) Try.func61 rfl (Nat.le_of_ble_eq_true rfl) ?_
  intro a hs
  unfold slices_Chunk_s_byte_byte at h
  refine wp_seq_k fun K1 hK1 => ?_
  refine wp_region_lit ?_
  obtain ⟨s2, w1, ha, hw, h⟩ := h
  refine t_eff hs rfl rfl (by decide) (e_box rfl rfl rfl ha hw) ?_
  clear hs a ha hw
  intro a hs
  obtain ⟨n3, w1, ha, hw, h⟩ := h
  refine t_eff hs rfl rfl (by decide) (e_box rfl rfl rfl ha hw) ?_
  clear hs a ha hw
  intro a hs
  refine t_pure hs rfl rfl (by decide) (p_assign rfl rfl) ?_
  clear hs a
  intro a hs
  refine hK1 _ _ ?_
  refine wp_seq_k fun K2 hK2 => ?_
  have J1 : ∀ (a : Act) (w : World), Slots a 9 [(2, (.pointer (some s2))), (3, (.pointer (some n3)))] → slices_Chunk_s_byte_byte.s1 Q s2 n3 w → K2 a w := by
    clear h hs
    intro a w hs h
    refine hK2 _ _ ?_
    unfold slices_Chunk_s_byte_byte.s1 at h
    refine wp_seq_k fun K3 hK3 => ?_
    refine wp_region_lit ?_
    refine t_pure hs rfl rfl (by decide) (p_makeFunc rfl rfl rfl) ?_
    clear hs a
    intro a hs
    refine t_pure hs rfl rfl (by decide) (p_assign rfl rfl) ?_
    clear hs a
    intro a hs
    refine hK3 _ _ ?_
    refine wp_ret ?_
    refine f_ret (fn := Try.f61) hs (fun a hs => r_one hs rfl (rfl)) ⟨(.func (.func 71) #[] #[(.pointer (some s2)), (.pointer (some n3))]), rfl, h⟩
  clear hK2
  refine wp_seq_k fun K4 hK4 => ?_
  refine wp_region_lit ?_
  obtain ⟨t5, hv, h⟩ := h
  refine t_eff hs rfl rfl (by decide) (e_load rfl rfl ct_3 hv) ?_
  clear hs a hv
  intro a hs
  refine t_pure hs rfl rfl (by decide) (p_lt rfl rfl rfl) ?_
  clear hs a
  intro a hs
  refine hK4 _ _ ?_
  refine c_cond hs rfl (fun hb => ?_) (fun hb => ?_)
  · replace h := h.1 hb
    clear hb
    refine wp_region_lit ?_
    obtain ⟨t7, hd, h⟩ := h
    refine t_eff hs rfl rfl (by decide) (e_makeInterface rfl rfl hd) ?_
    clear hs a hd
    intro a hs
    exact h.elim
  · replace h := h.2 hb
    clear hb
    refine wp_skip ?_
    exact J1 _ _ (hs.to ⟨rfl, rfl, trivial⟩) h
def slices_Equal_s_byte_byte.b1 (Q : Bool → K)  (X1 : Int → K) (s0_1 : Sl) (s1_1 : Sl) (t12_1 : Int) (t13_1 : Int) : K :=
  Ite (decide (t13_1 < t12_1))
    (Dr <|
    Idx s0_1 t13_1 1 fun t18 =>
    Ld t18 (Value.int .u8) fun t19 =>
    Idx s1_1 t13_1 1 fun t22 =>
    Ld t22 (Value.int .u8) fun t23 =>
    Ite (decide (t19 ≠ t23))
      (Q false)
      (Ar (IntKind.wrap .i64 (t13_1 + 1)) fun t25 =>
      X1 t25))
    (Q true)
def slices_Equal_s_byte_byte (s0 : Sl) (s1 : Sl) (Q : Bool → K) : K :=
  Ite (decide ((s0.n : Int) ≠ (s1.n : Int)))
    (Q false)
    (LoopK (α := Int) (fun X x => slices_Equal_s_byte_byte.b1 Q X s0 s1 (s0.n : Int) x) 0)
theorem slices_Equal_s_byte_byte_ok (s0 : Sl) (s1 : Sl) (Q : Bool → K) (w : World) (h : slices_Equal_s_byte_byte s0 s1 Q w) : slices_Equal_s_byte_byte.call s0 s1 Q w := by
  unfold slices_Equal_s_byte_byte.call CallF
  refine f_start (args := [(Sl.val s0), (Sl.val s1)]) Try.func63 rfl (Nat.le_of_ble_eq_true rfl) ?_
  intro a hs
  unfold slices_Equal_s_byte_byte at h
  refine wp_seq_k fun K1 hK1 => ?_
  refine wp_region_lit ?_
  refine t_pure hs rfl rfl (by decide) (p_assign rfl rfl) ?_
  clear hs a
  intro a hs
  refine hK1 _ _ ?_
  refine wp_seq_k fun K2 hK2 => ?_
  refine wp_seq_k fun K3 hK3 => ?_
  refine wp_region_lit ?_
  refine t_pure hs rfl rfl (by decide) (p_move rfl rfl) ?_
  clear hs a
  intro a hs
  refine t_pure hs rfl rfl (by decide) (p_len rfl rfl sl_22) ?_
  clear hs a
  intro a hs
  refine t_pure hs rfl rfl (by decide) (p_move rfl rfl) ?_
  clear hs a
  intro a hs
  refine t_pure hs rfl rfl (by decide) (p_len rfl rfl sl_22) ?_
  clear hs a
  intro a hs
  refine t_pure hs rfl rfl (by decide) (p_ne rfl rfl rfl) ?_
  clear hs a
  intro a hs
  refine hK3 _ _ ?_
  refine c_cond hs rfl (fun hb => ?_) (fun hb => ?_)
  · replace h := h.1 hb
    clear hb
    refine wp_seq_k fun K4 hK4 => ?_
    refine wp_region_lit ?_
    refine t_pure hs rfl rfl (by decide) (p_assign rfl rfl) ?_
    clear hs a
    intro a hs
    refine hK4 _ _ ?_
    refine wp_ret ?_
    refine f_ret (fn := Try.f63) hs (fun a hs => r_one hs rfl (rfl)) ⟨false, rfl, h⟩
  · replace h := h.2 hb
    clear hb
    refine wp_skip ?_
    refine hK2 _ _ ?_
    refine wp_seq_k fun K5 hK5 => ?_
    refine wp_seq_k fun K6 hK6 => ?_
    refine wp_region_lit ?_
    refine t_pure hs rfl rfl (by decide) (p_move rfl rfl) ?_
    clear hs a
    intro a hs
    refine t_pure hs rfl rfl (by decide) (p_len rfl rfl sl_22) ?_
    clear hs a
    intro a hs
    refine t_pure hs rfl rfl (by decide) (p_move rfl rfl) ?_
    clear hs a
    intro a hs
    refine hK6 _ _ ?_
    refine wp_block ?_
    obtain ⟨I1, μ1, h0, hr⟩ := h
    refine c_loop (α := Int) I1 μ1 (fun x a => Slots a 26 [(0, (Sl.val s0)), (1, (Sl.val s1)), (12, (.int .i64 (s0.n : Int))), (13, (.int .i64 x))]) 0 h0 (hs.to ⟨rfl, rfl, rfl, rfl, trivial⟩) ?_
    clear h0 hs a
    intro t13_1 a w hI hs
    have h : slices_Equal_s_byte_byte.b1 Q (fun t13_1n w' => I1 t13_1n w' ∧ μ1 t13_1n w' < μ1 t13_1 w) s0 s1 (s0.n : Int) t13_1 w := hr t13_1 w hI
    clear hr hI
    generalize hX1 : (fun t13_1n w' => I1 t13_1n w' ∧ μ1 t13_1n w' < μ1 t13_1 w) = X1 at h
    unfold slices_Equal_s_byte_byte.b1 at h
    replace hs : Slots a 26 [(0, (Sl.val s0)), (1, (Sl.val s1)), (12, (.int .i64 (s0.n : Int))), (13, (.int .i64 t13_1))] := hs
    refine wp_seq_k fun K7 hK7 => ?_
    refine wp_region_lit ?_
    refine t_pure hs rfl rfl (by decide) (p_lt rfl rfl rfl) ?_
    clear hs a
    intro a hs
    refine hK7 _ _ ?_
    refine wp_seq_k fun K8 hK8 => ?_
    refine c_cond hs rfl (fun hb => ?_) (fun hb => ?_)
    · replace h := h.1 hb
      clear hb
      refine wp_skip ?_
      refine hK8 _ _ ?_
      refine wp_seq_k fun K9 hK9 => ?_
      refine wp_block ?_
      refine wp_seq_k fun K10 hK10 => ?_
      refine wp_region_lit ?_
      refine t_pure hs rfl rfl (by decide) (p_move rfl rfl) ?_
      clear hs a
      intro a hs
      refine t_pure hs rfl rfl (by decide) (p_assign rfl rfl) ?_
      clear hs a
      intro a hs
      refine hK10 _ _ ?_
      refine wp_seq_k fun K11 hK11 => ?_
      obtain ⟨w1, hw1, h⟩ := h
      refine s_start mixed (by kernel_rfl) hw1 ?_
      clear hw1
      refine s_pure hs rfl rfl (by decide) (p_move rfl rfl) ?_
      clear hs a
      intro a hs
      refine s_pure hs rfl rfl (by decide) (p_move rfl rfl) ?_
      clear hs a
      intro a hs
      obtain ⟨qt18, t18, ha, h0, h1, he, h⟩ := h
      refine s_pure hs rfl rfl (by decide) (Pure.adr he (p_idx rfl rfl rfl sl_22 ha h0 h1)) ?_
      clear hs a ha h0 h1 he
      intro a hs
      obtain ⟨t19, hv, h⟩ := h
      refine s_eff hs rfl rfl (by decide) (e_load rfl rfl ct_5 hv) ?_
      clear hs a hv
      intro a hs
      refine s_pure hs rfl rfl (by decide) (p_move rfl rfl) ?_
      clear hs a
      intro a hs
      refine s_pure hs rfl rfl (by decide) (p_move rfl rfl) ?_
      clear hs a
      intro a hs
      obtain ⟨qt22, t22, ha, h0, h1, he, h⟩ := h
      refine s_pure hs rfl rfl (by decide) (Pure.adr he (p_idx rfl rfl rfl sl_22 ha h0 h1)) ?_
      clear hs a ha h0 h1 he
      intro a hs
      obtain ⟨t23, hv, h⟩ := h
      refine s_eff hs rfl rfl (by decide) (e_load rfl rfl ct_5 hv) ?_
      clear hs a hv
      intro a hs
      replace hs := hs.to (τ := [(0, (Sl.val s0)), (1, (Sl.val s1)), (12, (.int .i64 (s0.n : Int))), (13, (.int .i64 t13_1)), (19, (.int .u8 t19)), (23, (.int .u8 t23))]) ⟨rfl, rfl, rfl, rfl, rfl, rfl, trivial⟩
      refine s_pure hs rfl rfl (by decide) (p_ne rfl rfl rfl) ?_
      clear hs a
      intro a hs
      refine hK11 _ _ ?_
      refine c_cond hs rfl (fun hb => ?_) (fun hb => ?_)
      · replace h := h.1 hb
        clear hb
        refine wp_seq_k fun K12 hK12 => ?_
        refine wp_region_lit ?_
        refine t_pure hs rfl rfl (by decide) (p_assign rfl rfl) ?_
        clear hs a
        intro a hs
        refine hK12 _ _ ?_
        refine wp_ret ?_
        refine f_ret (fn := Try.f63) hs (fun a hs => r_one hs rfl (rfl)) ⟨false, rfl, h⟩
      · replace h := h.2 hb
        clear hb
        refine wp_skip ?_
        refine hK9 _ _ ?_
        refine wp_region_lit ?_
        obtain ⟨t25, he, h⟩ := h
        refine t_pure hs rfl rfl (by decide) (Pure.int he (p_add rfl rfl rfl)) ?_
        clear hs a he
        intro a hs
        refine t_pure hs rfl rfl (by decide) (p_move rfl rfl) ?_
        clear hs a
        intro a hs
        rw [← hX1] at h
        exact ⟨t25, hs.to ⟨rfl, rfl, rfl, rfl, trivial⟩, h⟩
    · replace h := h.2 hb
      clear hb
      refine wp_exit ?_
      refine hK5 _ _ ?_
      refine wp_seq_k fun K13 hK13 => ?_
      refine wp_region_lit ?_
      refine t_pure hs rfl rfl (by decide) (p_assign rfl rfl) ?_
      clear hs a
      intro a hs
      refine hK13 _ _ ?_
      refine wp_ret ?_
      refine f_ret (fn := Try.f63) hs (fun a hs => r_one hs rfl (rfl)) ⟨true, rfl, h⟩
def slices_Clone_s_byte_byte (s0 : Sl) (Q : Sl → K) : K :=
  Ite ((s0).a.isNone)
    (Q (Sl.mk none 0 0))
    (New 5 #[] fun t5 =>
    Do Try.prog (Builtin.append_ #[22, 22] 22 #[(Sl.val (Sl.mk (some t5) 0 0)), (Sl.val s0)]) Sl.val fun t7 =>
    Q t7)
theorem slices_Clone_s_byte_byte_ok (s0 : Sl) (Q : Sl → K) (w : World) (h : slices_Clone_s_byte_byte s0 Q w) : slices_Clone_s_byte_byte.call s0 Q w := by
  unfold slices_Clone_s_byte_byte.call CallF
  refine f_start (args := [(Sl.val s0)]) Try.func70 rfl (Nat.le_of_ble_eq_true rfl) ?_
  intro a hs
  unfold slices_Clone_s_byte_byte at h
  refine wp_seq_k fun K1 hK1 => ?_
  refine wp_region_lit ?_
  refine t_pure hs rfl rfl (by decide) (p_assign rfl rfl) ?_
  clear hs a
  intro a hs
  refine hK1 _ _ ?_
  refine wp_seq_k fun K2 hK2 => ?_
  refine wp_seq_k fun K3 hK3 => ?_
  refine wp_region_lit ?_
  refine t_pure hs rfl rfl (by decide) (p_move rfl rfl) ?_
  clear hs a
  intro a hs
  refine t_pure hs rfl rfl (by decide) (p_eq_sl rfl rfl rfl Try.underlying22) ?_
  clear hs a
  intro a hs
  refine hK3 _ _ ?_
  refine c_cond hs rfl (fun hb => ?_) (fun hb => ?_)
  · replace h := h.1 hb
    clear hb
    refine wp_seq_k fun K4 hK4 => ?_
    refine wp_region_lit ?_
    refine t_pure hs rfl rfl (by decide) (p_assign rfl rfl) ?_
    clear hs a
    intro a hs
    refine hK4 _ _ ?_
    refine wp_ret ?_
    refine f_ret (fn := Try.f70) hs (fun a hs => r_one hs rfl (rfl)) ⟨(Sl.mk none 0 0), rfl, h⟩
  · replace h := h.2 hb
    clear hb
    refine wp_skip ?_
    refine hK2 _ _ ?_
    refine wp_seq_k fun K5 hK5 => ?_
    refine wp_region_lit ?_
    obtain ⟨t5, w1, ha, hw, h⟩ := h
    refine t_eff hs rfl rfl (by decide) (e_buildSlice (z := #[]) (cs := #[]) rfl sl_22 zt_5 (by decide) rfl rz_5_0 (by rfl) ha hw) ?_
    clear hs a ha hw
    intro a hs
    refine t_pure hs rfl rfl (by decide) (p_move rfl rfl) ?_
    clear hs a
    intro a hs
    obtain ⟨t7, w1, hd, h⟩ := h
    refine t_eff hs rfl rfl (by decide) (e_append rfl rfl rfl rfl hd) ?_
    clear hs a hd
    intro a hs
    refine t_pure hs rfl rfl (by decide) (p_assign rfl rfl) ?_
    clear hs a
    intro a hs
    refine hK5 _ _ ?_
    refine wp_ret ?_
    refine f_ret (fn := Try.f70) hs (fun a hs => r_one hs rfl (rfl)) ⟨t7, rfl, h⟩
def slices_Chunk_s_byte_byte_1.b1 (Q : K)  (X1 : Int → K) (yield0_1 : Value) (t1_1 : Addr) (t2_1 : Addr) (i4_1 : Int) : K :=
  Ld t1_1 Sl.val fun t7 =>
  Ite (decide (i4_1 < (t7.n : Int)))
    (Dr <|
    Ld t2_1 (Value.int .i64) fun t13 =>
    Ld t1_1 Sl.val fun t14 =>
    Slc t14 i4_1 (t14.n : Int) (t14.c : Int) 1 fun t16 =>
    Ar (if ((t16.n : Int) : Int) < t13 then (t16.n : Int) else t13) fun t18 =>
    Ld t1_1 Sl.val fun t20 =>
    Ar (IntKind.wrap .i64 (i4_1 + t18)) fun t24 =>
    Ar (IntKind.wrap .i64 (i4_1 + t18)) fun t27 =>
    Slc t20 i4_1 t24 t27 1 fun t28 =>
    CallY Try.prog yield0_1 [(Sl.val t28)] <| Ans1 (fun (t29 : Bool) => Value.bool t29) fun t29 =>
    Ite (!t29)
      (Q)
      (Ld t2_1 (Value.int .i64) fun t11 =>
      Ar (IntKind.wrap .i64 (i4_1 + t11)) fun t12 =>
      X1 t12))
    (Q)
def slices_Chunk_s_byte_byte_1 (yield0 : Value) (t1 : Addr) (t2 : Addr) (Q : K) : K :=
  LoopK (α := Int) (fun X x => slices_Chunk_s_byte_byte_1.b1 Q X yield0 t1 t2 x) 0
theorem slices_Chunk_s_byte_byte_1_ok (yield0 : Value) (t1 : Addr) (t2 : Addr) (Q : K) (w : World) (h : slices_Chunk_s_byte_byte_1 yield0 t1 t2 Q w) : slices_Chunk_s_byte_byte_1.call yield0 t1 t2 Q w := by
  unfold slices_Chunk_s_byte_byte_1.call CallF
  refine fI_start (args := [yield0, (.pointer (some t1)), (.pointer (some t2))]) Try.func71 rfl (Nat.le_of_ble_eq_true rfl) ?_
  intro a hs
  unfold slices_Chunk_s_byte_byte_1 at h
  refine wpIn_seq_k fun K1 hK1 => ?_
  refine wpIn_region_lit ?_
  refine tI_pure free_wide hs rfl rfl (by decide) (fun _ h => by cases h) (p_assign rfl rfl) ?_
  clear hs a
  intro a hs
  refine hK1 _ _ ?_
  refine wpIn_block ?_
  obtain ⟨I1, μ1, h0, hr⟩ := h
  refine cI_loop (α := Int) I1 μ1 (fun x a => SlotsD [] a 31 [(0, yield0), (1, (.pointer (some t1))), (2, (.pointer (some t2))), (4, (.int .i64 x))]) 0 h0 (hs.to ⟨rfl, rfl, rfl, rfl, trivial⟩) ?_
  clear h0 hs a
  intro i4_1 a w hI hs
  have h : slices_Chunk_s_byte_byte_1.b1 Q (fun i4_1n w' => I1 i4_1n w' ∧ μ1 i4_1n w' < μ1 i4_1 w) yield0 t1 t2 i4_1 w := hr i4_1 w hI
  clear hr hI
  generalize hX1 : (fun i4_1n w' => I1 i4_1n w' ∧ μ1 i4_1n w' < μ1 i4_1 w) = X1 at h
  unfold slices_Chunk_s_byte_byte_1.b1 at h
  replace hs : SlotsD [] a 31 [(0, yield0), (1, (.pointer (some t1))), (2, (.pointer (some t2))), (4, (.int .i64 i4_1))] := hs
  refine wpIn_seq_k fun K2 hK2 => ?_
  refine wpIn_seq_k fun K3 hK3 => ?_
  refine wpIn_region_lit ?_
  refine tI_pure free_wide hs rfl rfl (by decide) (fun _ h => by cases h) (p_move rfl rfl) ?_
  clear hs a
  intro a hs
  obtain ⟨t7, hv, h⟩ := h
  refine tI_eff free_wide hs rfl rfl (by decide) (fun _ h => by cases h) (e_load rfl rfl ct_22 hv) ?_
  clear hs a hv
  intro a hs
  refine tI_pure free_wide hs rfl rfl (by decide) (fun _ h => by cases h) (p_len rfl rfl sl_22) ?_
  clear hs a
  intro a hs
  refine tI_pure free_wide hs rfl rfl (by decide) (fun _ h => by cases h) (p_lt rfl rfl rfl) ?_
  clear hs a
  intro a hs
  refine hK3 _ _ ?_
  refine cI_cond hs rfl (fun hb => ?_) (fun hb => ?_)
  · replace h := h.1 hb
    clear hb
    refine wpIn_skip ?_
    refine hK2 _ _ ?_
    refine wpIn_seq_k fun K4 hK4 => ?_
    refine wpIn_block ?_
    refine wpIn_seq_k fun K5 hK5 => ?_
    refine wpIn_wide.2 ?_
    replace hs := hs.nil
    obtain ⟨w1, hw1, h⟩ := h
    refine s_start mixed (by kernel_rfl) hw1 ?_
    clear hw1
    obtain ⟨t13, hv, h⟩ := h
    refine s_eff hs rfl rfl (by decide) (e_load rfl rfl ct_3 hv) ?_
    clear hs a hv
    intro a hs
    obtain ⟨t14, hv, h⟩ := h
    refine s_eff hs rfl rfl (by decide) (e_load rfl rfl ct_22 hv) ?_
    clear hs a hv
    intro a hs
    refine s_pure hs rfl rfl (by decide) (p_move rfl rfl) ?_
    clear hs a
    intro a hs
    obtain ⟨t16, h0, h1, h2, h3, he, h⟩ := h
    refine s_pure hs rfl rfl (by decide) (Pure.sl he (p_slc rfl rfl sl_22 ⟨_, rfl⟩ rfl rfl (by decide) h0 h1 h2 h3)) ?_
    clear hs a h0 h1 h2 h3 he
    intro a hs
    refine s_pure hs rfl rfl (by decide) (p_len rfl rfl sl_22) ?_
    clear hs a
    intro a hs
    obtain ⟨t18, he, h⟩ := h
    refine s_pure hs rfl rfl (by decide) (Pure.int he (p_min _ rfl rfl rfl)) ?_
    clear hs a he
    intro a hs
    refine s_pure hs rfl rfl (by decide) (p_assign rfl rfl) ?_
    clear hs a
    intro a hs
    replace hs := hs.D
    refine hK5 _ _ ?_
    refine wpIn_seq_k fun K6 hK6 => ?_
    refine wpIn_region_lit ?_
    refine tI_pure free_wide hs rfl rfl (by decide) (fun _ h => by cases h) (p_move rfl rfl) ?_
    clear hs a
    intro a hs
    obtain ⟨t20, hv, h⟩ := h
    refine tI_eff free_wide hs rfl rfl (by decide) (fun _ h => by cases h) (e_load rfl rfl ct_22 hv) ?_
    clear hs a hv
    intro a hs
    refine tI_pure free_wide hs rfl rfl (by decide) (fun _ h => by cases h) (p_move rfl rfl) ?_
    clear hs a
    intro a hs
    refine tI_pure free_wide hs rfl rfl (by decide) (fun _ h => by cases h) (p_move rfl rfl) ?_
    clear hs a
    intro a hs
    refine tI_pure free_wide hs rfl rfl (by decide) (fun _ h => by cases h) (p_move rfl rfl) ?_
    clear hs a
    intro a hs
    obtain ⟨t24, he, h⟩ := h
    refine tI_pure free_wide hs rfl rfl (by decide) (fun _ h => by cases h) (Pure.int he (p_add rfl rfl rfl)) ?_
    clear hs a he
    intro a hs
    refine tI_pure free_wide hs rfl rfl (by decide) (fun _ h => by cases h) (p_move rfl rfl) ?_
    clear hs a
    intro a hs
    refine tI_pure free_wide hs rfl rfl (by decide) (fun _ h => by cases h) (p_move rfl rfl) ?_
    clear hs a
    intro a hs
    replace hs := hs.to (τ := [(0, yield0), (1, (.pointer (some t1))), (2, (.pointer (some t2))), (4, (.int .i64 i4_1)), (19, yield0), (20, (Sl.val t20)), (21, (.int .i64 i4_1)), (24, (.int .i64 t24)), (25, (.int .i64 i4_1)), (26, (.int .i64 t18))]) ⟨rfl, rfl, rfl, rfl, rfl, rfl, rfl, rfl, rfl, rfl, trivial⟩
    obtain ⟨t27, he, h⟩ := h
    refine tI_pure free_wide hs rfl rfl (by decide) (fun _ h => by cases h) (Pure.int he (p_add rfl rfl rfl)) ?_
    clear hs a he
    intro a hs
    obtain ⟨t28, h0, h1, h2, h3, he, h⟩ := h
    refine tI_pure free_wide hs rfl rfl (by decide) (fun _ h => by cases h) (Pure.sl he (p_slc rfl rfl sl_22 ⟨_, rfl⟩ ⟨_, rfl⟩ ⟨_, rfl⟩ (by decide) h0 h1 h2 h3)) ?_
    clear hs a h0 h1 h2 h3 he
    intro a hs
    obtain ⟨l1, hg, h⟩ := h
    refine tI_yield hs rfl rfl (by decide) (fun _ h => by cases h) (e_yield rfl (congrArg some hg) rfl) h ?_
    clear hs a h hg
    intro v a w hk hs
    obtain ⟨t29, rfl, h⟩ := hk
    refine tI_pure free_wide hs rfl rfl (by decide) (fun _ h => by cases h) (p_not rfl rfl) ?_
    clear hs a
    intro a hs
    refine hK6 _ _ ?_
    refine cI_cond hs rfl (fun hb => ?_) (fun hb => ?_)
    · replace h := h.1 hb
      clear hb
      refine wpIn_ret ?_
      refine fI_ret (fn := Try.f71) hs (fun a hs => r_many hs (rs := []) (vs := []) rfl (by decide) trivial) ⟨rfl, h⟩
    · replace h := h.2 hb
      clear hb
      refine wpIn_skip ?_
      refine hK4 _ _ ?_
      refine wpIn_region_lit ?_
      refine tI_pure free_wide hs rfl rfl (by decide) (fun _ h => by cases h) (p_move rfl rfl) ?_
      clear hs a
      intro a hs
      obtain ⟨t11, hv, h⟩ := h
      refine tI_eff free_wide hs rfl rfl (by decide) (fun _ h => by cases h) (e_load rfl rfl ct_3 hv) ?_
      clear hs a hv
      intro a hs
      obtain ⟨t12, he, h⟩ := h
      refine tI_pure free_wide hs rfl rfl (by decide) (fun _ h => by cases h) (Pure.int he (p_add rfl rfl rfl)) ?_
      clear hs a he
      intro a hs
      refine tI_pure free_wide hs rfl rfl (by decide) (fun _ h => by cases h) (p_assign rfl rfl) ?_
      clear hs a
      intro a hs
      rw [← hX1] at h
      exact ⟨t12, hs.to ⟨rfl, rfl, rfl, rfl, trivial⟩, h⟩
  · replace h := h.2 hb
    clear hb
    refine wpIn_exit ?_
    refine fI_end (fn := Try.f71) hs (fun a hs => r_many hs (rs := []) (vs := []) rfl (by decide) trivial) ⟨rfl, h⟩
end Go.Proofs.Ytilejcnbacmdnaa
