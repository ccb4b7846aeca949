/- Plain forms of functions, and that their code comes to them (package lib_maps). -/
import Derived.Test.YtdpepgjbambinaaCalls
import Derived.Test.YtdpepgjbambinaaRounds
namespace Go.Proofs.Ytdpepgjbambinaa
open Go Go.Sep
set_option linter.unusedVariables false
set_option linter.unusedSimpArgs false
set_option maxRecDepth 100000
set_option maxHeartbeats 4000000
def maps_Keys_map_string_locks_gate_string_locks_gate (m0 : (Option Nat)) (Q : Value → K) : K :=
  New 128 #[(.map m0)] fun m1 =>
  Q (.func (.func 95) #[] #[(.pointer (some m1))])
theorem maps_Keys_map_string_locks_gate_string_locks_gate_ok (m0 : (Option Nat)) (Q : Value → K) (w : World) (h : maps_Keys_map_string_locks_gate_string_locks_gate m0 Q w) : maps_Keys_map_string_locks_gate_string_locks_gate.call m0 Q w := by
  unfold maps_Keys_map_string_locks_gate_string_locks_gate.call CallF
  refine f_start (args := [(.map m0)]) Try.func63 rfl (Nat.le_of_ble_eq_true rfl) ?_
  intro a hs
  unfold maps_Keys_map_string_locks_gate_string_locks_gate at h
  refine wp_seq_k fun K1 hK1 => ?_
  refine wp_region_lit ?_
  obtain ⟨m1, w1, ha, hw, h⟩ := h
  refine t_eff hs rfl rfl (by decide) (e_box rfl rfl rfl ha hw) ?_
  clear hs a ha hw; intro a hs
  refine t_pure hs rfl rfl (by decide) (p_assign rfl rfl) ?_
  clear hs a; intro a hs
  refine hK1 _ _ ?_
  refine wp_seq_k fun K2 hK2 => ?_
  refine wp_region_lit ?_
  refine t_pure hs rfl rfl (by decide) (p_makeFunc rfl rfl rfl) ?_
  clear hs a; intro a hs
  refine t_pure hs rfl rfl (by decide) (p_assign rfl rfl) ?_
  clear hs a; intro a hs
  refine hK2 _ _ ?_
  refine wp_ret ?_
  refine f_ret (fn := Try.f63) hs (fun a hs => r_one hs rfl (rfl)) ⟨(.func (.func 95) #[] #[(.pointer (some m1))]), rfl, h⟩
def maps_Keys_map_string_api_Record_string_api_Record (m0 : (Option Nat)) (Q : Value → K) : K :=
  New 193 #[(.map m0)] fun m1 =>
  Q (.func (.func 118) #[] #[(.pointer (some m1))])
theorem maps_Keys_map_string_api_Record_string_api_Record_ok (m0 : (Option Nat)) (Q : Value → K) (w : World) (h : maps_Keys_map_string_api_Record_string_api_Record m0 Q w) : maps_Keys_map_string_api_Record_string_api_Record.call m0 Q w := by
  unfold maps_Keys_map_string_api_Record_string_api_Record.call CallF
  refine f_start (args := [(.map m0)]) Try.func87 rfl (Nat.le_of_ble_eq_true rfl) ?_
  intro a hs
  unfold maps_Keys_map_string_api_Record_string_api_Record at h
  refine wp_seq_k fun K1 hK1 => ?_
  refine wp_region_lit ?_
  obtain ⟨m1, w1, ha, hw, h⟩ := h
  refine t_eff hs rfl rfl (by decide) (e_box rfl rfl rfl ha hw) ?_
  clear hs a ha hw; intro a hs
  refine t_pure hs rfl rfl (by decide) (p_assign rfl rfl) ?_
  clear hs a; intro a hs
  refine hK1 _ _ ?_
  refine wp_seq_k fun K2 hK2 => ?_
  refine wp_region_lit ?_
  refine t_pure hs rfl rfl (by decide) (p_makeFunc rfl rfl rfl) ?_
  clear hs a; intro a hs
  refine t_pure hs rfl rfl (by decide) (p_assign rfl rfl) ?_
  clear hs a; intro a hs
  refine hK2 _ _ ?_
  refine wp_ret ?_
  refine f_ret (fn := Try.f87) hs (fun a hs => r_one hs rfl (rfl)) ⟨(.func (.func 118) #[] #[(.pointer (some m1))]), rfl, h⟩
def maps_Keys_map_string_locks_gate_string_locks_gate_1.b1 (Q : K)  (X1 : K) (yield0_1 : Value) (t5_1 : (Option Addr))  : K :=
  Do Try.prog (Instr.next (.pointer t5_1) false 0) id fun t6 =>
  Ext t6 0 Value.bool fun t7 =>
  Ite t7
    (Do Try.prog (Instr.entry (.pointer t5_1)) id fun t8 =>
    Ext t8 0 Value.string fun t9 =>
    CallY Try.prog yield0_1 [(.string t9)] <| Ans1 (fun (t12 : Bool) => Value.bool t12) fun t12 =>
    Ite (!t12)
      (Q)
      (X1))
    (Q)
def maps_Keys_map_string_locks_gate_string_locks_gate_1 (yield0 : Value) (t1 : Addr) (Q : K) : K :=
  Ld t1 Value.map fun t4 =>
  Do Try.prog (Instr.range 128 (.map t4)) Value.pointer fun t5 =>
  LoopK (α := Unit) (fun X x => maps_Keys_map_string_locks_gate_string_locks_gate_1.b1 Q (X ()) yield0 t5) ()
theorem maps_Keys_map_string_locks_gate_string_locks_gate_1_ok (yield0 : Value) (t1 : Addr) (Q : K) (w : World) (h : maps_Keys_map_string_locks_gate_string_locks_gate_1 yield0 t1 Q w) : maps_Keys_map_string_locks_gate_string_locks_gate_1.call yield0 t1 Q w := by
  unfold maps_Keys_map_string_locks_gate_string_locks_gate_1.call CallF
  refine fI_start (args := [yield0, (.pointer (some t1))]) Try.func95 rfl (Nat.le_of_ble_eq_true rfl) ?_
  intro a hs
  unfold maps_Keys_map_string_locks_gate_string_locks_gate_1 at h
  refine wpIn_seq_k fun K1 hK1 => ?_
  refine wpIn_region_lit ?_
  obtain ⟨t4, hv, h⟩ := h
  refine tI_eff free_wide hs rfl rfl (by decide) (fun _ h => by cases h) (e_load rfl rfl ct_128 hv) ?_
  clear hs a hv; intro a hs
  obtain ⟨t5, w1, hd, h⟩ := h
  refine tI_eff free_wide hs rfl rfl (by decide) (fun _ h => by cases h) (e_range rfl rfl hd) ?_
  clear hs a hd; intro a hs
  refine hK1 _ _ ?_
  refine wpIn_block ?_
  obtain ⟨I1, μ1, h0, hr⟩ := h
  refine cI_loop (α := Unit) I1 μ1 (fun x a => SlotsD [] a 14 [(0, yield0), (5, (.pointer t5))]) () h0 (hs.to ⟨rfl, rfl, trivial⟩) ?_
  clear h0 hs a
  intro x0_1 a w hI hs
  have h : maps_Keys_map_string_locks_gate_string_locks_gate_1.b1 Q (fun w' => I1 () w' ∧ μ1 () w' < μ1 x0_1 w) yield0 t5 w := hr x0_1 w hI
  clear hr hI
  generalize hX1 : (fun w' => I1 () w' ∧ μ1 () w' < μ1 x0_1 w) = X1 at h
  unfold maps_Keys_map_string_locks_gate_string_locks_gate_1.b1 at h
  replace hs : SlotsD [] a 14 [(0, yield0), (5, (.pointer t5))] := hs
  refine wpIn_seq_k fun K2 hK2 => ?_
  refine wpIn_region_lit ?_
  obtain ⟨t6, w1, hd, h⟩ := h
  refine tI_eff free_wide hs rfl rfl (by decide) (fun _ h => by cases h) (e_next rfl rfl rfl hd) ?_
  clear hs a hd; intro a hs
  obtain ⟨vs, t7, ht, hv, h⟩ := h
  refine tI_pure free_wide hs rfl rfl (by decide) (fun _ h => by cases h) (p_extract rfl (congrArg some ht) hv) ?_
  clear hs a ht hv; intro a hs
  refine hK2 _ _ ?_
  refine wpIn_seq_k fun K3 hK3 => ?_
  refine cI_cond hs rfl (fun hb => ?_) (fun hb => ?_)
  · replace h := h.1 hb
    clear hb
    refine wpIn_skip ?_
    refine hK3 _ _ ?_
    refine wpIn_block ?_
    refine wpIn_seq_k fun K4 hK4 => ?_
    refine wpIn_region_lit ?_
    obtain ⟨t8, w1, hd, h⟩ := h
    refine tI_eff free_wide hs rfl rfl (by decide) (fun _ h => by cases h) (e_entry rfl rfl hd) ?_
    clear hs a hd; intro a hs
    obtain ⟨vs, t9, ht, hv, h⟩ := h
    refine tI_pure free_wide hs rfl rfl (by decide) (fun _ h => by cases h) (p_extract rfl (congrArg some ht) hv) ?_
    clear hs a ht hv; intro a hs
    refine tI_pure free_wide hs rfl rfl (by decide) (fun _ h => by cases h) (p_assign rfl rfl) ?_
    clear hs a; intro a hs
    refine hK4 _ _ ?_
    refine wpIn_seq_k fun K5 hK5 => ?_
    refine wpIn_region_lit ?_
    refine tI_pure free_wide hs rfl rfl (by decide) (fun _ h => by cases h) (p_move rfl rfl) ?_
    clear hs a; intro a hs
    refine tI_pure free_wide hs rfl rfl (by decide) (fun _ h => by cases h) (p_move rfl rfl) ?_
    clear hs a; intro a hs
    obtain ⟨l1, hg, h⟩ := h
    refine tI_yield hs rfl rfl (by decide) (fun _ h => by cases h) (e_yield rfl (congrArg some hg) rfl) h ?_
    clear hs a h hg
    intro v a w hk hs
    obtain ⟨t12, rfl, h⟩ := hk
    refine tI_pure free_wide hs rfl rfl (by decide) (fun _ h => by cases h) (p_not rfl rfl) ?_
    clear hs a; intro a hs
    refine hK5 _ _ ?_
    refine cI_cond hs rfl (fun hb => ?_) (fun hb => ?_)
    · replace h := h.1 hb
      clear hb
      refine wpIn_ret ?_
      refine fI_ret (fn := Try.f95) hs (fun a hs => r_many hs (rs := []) (vs := []) rfl (by decide) trivial) ⟨rfl, h⟩
    · replace h := h.2 hb
      clear hb
      refine wpIn_skip ?_
      rw [← hX1] at h
      exact ⟨(), hs.to ⟨rfl, rfl, trivial⟩, h⟩
  · replace h := h.2 hb
    clear hb
    refine wpIn_exit ?_
    refine fI_end (fn := Try.f95) hs (fun a hs => r_many hs (rs := []) (vs := []) rfl (by decide) trivial) ⟨rfl, h⟩
def maps_Keys_map_string_disk_file_string_disk_file (m0 : (Option Nat)) (Q : Value → K) : K :=
  New 155 #[(.map m0)] fun m1 =>
  Q (.func (.func 125) #[] #[(.pointer (some m1))])
theorem maps_Keys_map_string_disk_file_string_disk_file_ok (m0 : (Option Nat)) (Q : Value → K) (w : World) (h : maps_Keys_map_string_disk_file_string_disk_file m0 Q w) : maps_Keys_map_string_disk_file_string_disk_file.call m0 Q w := by
  unfold maps_Keys_map_string_disk_file_string_disk_file.call CallF
  refine f_start (args := [(.map m0)]) Try.func100 rfl (Nat.le_of_ble_eq_true rfl) ?_
  intro a hs
  unfold maps_Keys_map_string_disk_file_string_disk_file at h
  refine wp_seq_k fun K1 hK1 => ?_
  refine wp_region_lit ?_
  obtain ⟨m1, w1, ha, hw, h⟩ := h
  refine t_eff hs rfl rfl (by decide) (e_box rfl rfl rfl ha hw) ?_
  clear hs a ha hw; intro a hs
  refine t_pure hs rfl rfl (by decide) (p_assign rfl rfl) ?_
  clear hs a; intro a hs
  refine hK1 _ _ ?_
  refine wp_seq_k fun K2 hK2 => ?_
  refine wp_region_lit ?_
  refine t_pure hs rfl rfl (by decide) (p_makeFunc rfl rfl rfl) ?_
  clear hs a; intro a hs
  refine t_pure hs rfl rfl (by decide) (p_assign rfl rfl) ?_
  clear hs a; intro a hs
  refine hK2 _ _ ?_
  refine wp_ret ?_
  refine f_ret (fn := Try.f100) hs (fun a hs => r_one hs rfl (rfl)) ⟨(.func (.func 125) #[] #[(.pointer (some m1))]), rfl, h⟩
def maps_Keys_map_string_api_Record_string_api_Record_1.b1 (Q : K)  (X1 : K) (yield0_1 : Value) (t5_1 : (Option Addr))  : K :=
  Do Try.prog (Instr.next (.pointer t5_1) false 0) id fun t6 =>
  Ext t6 0 Value.bool fun t7 =>
  Ite t7
    (Do Try.prog (Instr.entry (.pointer t5_1)) id fun t8 =>
    Ext t8 0 Value.string fun t9 =>
    CallY Try.prog yield0_1 [(.string t9)] <| Ans1 (fun (t12 : Bool) => Value.bool t12) fun t12 =>
    Ite (!t12)
      (Q)
      (X1))
    (Q)
def maps_Keys_map_string_api_Record_string_api_Record_1 (yield0 : Value) (t1 : Addr) (Q : K) : K :=
  Ld t1 Value.map fun t4 =>
  Do Try.prog (Instr.range 193 (.map t4)) Value.pointer fun t5 =>
  LoopK (α := Unit) (fun X x => maps_Keys_map_string_api_Record_string_api_Record_1.b1 Q (X ()) yield0 t5) ()
theorem maps_Keys_map_string_api_Record_string_api_Record_1_ok (yield0 : Value) (t1 : Addr) (Q : K) (w : World) (h : maps_Keys_map_string_api_Record_string_api_Record_1 yield0 t1 Q w) : maps_Keys_map_string_api_Record_string_api_Record_1.call yield0 t1 Q w := by
  unfold maps_Keys_map_string_api_Record_string_api_Record_1.call CallF
  refine fI_start (args := [yield0, (.pointer (some t1))]) Try.func118 rfl (Nat.le_of_ble_eq_true rfl) ?_
  intro a hs
  unfold maps_Keys_map_string_api_Record_string_api_Record_1 at h
  refine wpIn_seq_k fun K1 hK1 => ?_
  refine wpIn_region_lit ?_
  obtain ⟨t4, hv, h⟩ := h
  refine tI_eff free_wide hs rfl rfl (by decide) (fun _ h => by cases h) (e_load rfl rfl ct_193 hv) ?_
  clear hs a hv; intro a hs
  obtain ⟨t5, w1, hd, h⟩ := h
  refine tI_eff free_wide hs rfl rfl (by decide) (fun _ h => by cases h) (e_range rfl rfl hd) ?_
  clear hs a hd; intro a hs
  refine hK1 _ _ ?_
  refine wpIn_block ?_
  obtain ⟨I1, μ1, h0, hr⟩ := h
  refine cI_loop (α := Unit) I1 μ1 (fun x a => SlotsD [] a 14 [(0, yield0), (5, (.pointer t5))]) () h0 (hs.to ⟨rfl, rfl, trivial⟩) ?_
  clear h0 hs a
  intro x0_1 a w hI hs
  have h : maps_Keys_map_string_api_Record_string_api_Record_1.b1 Q (fun w' => I1 () w' ∧ μ1 () w' < μ1 x0_1 w) yield0 t5 w := hr x0_1 w hI
  clear hr hI
  generalize hX1 : (fun w' => I1 () w' ∧ μ1 () w' < μ1 x0_1 w) = X1 at h
  unfold maps_Keys_map_string_api_Record_string_api_Record_1.b1 at h
  replace hs : SlotsD [] a 14 [(0, yield0), (5, (.pointer t5))] := hs
  refine wpIn_seq_k fun K2 hK2 => ?_
  refine wpIn_region_lit ?_
  obtain ⟨t6, w1, hd, h⟩ := h
  refine tI_eff free_wide hs rfl rfl (by decide) (fun _ h => by cases h) (e_next rfl rfl rfl hd) ?_
  clear hs a hd; intro a hs
  obtain ⟨vs, t7, ht, hv, h⟩ := h
  refine tI_pure free_wide hs rfl rfl (by decide) (fun _ h => by cases h) (p_extract rfl (congrArg some ht) hv) ?_
  clear hs a ht hv; intro a hs
  refine hK2 _ _ ?_
  refine wpIn_seq_k fun K3 hK3 => ?_
  refine cI_cond hs rfl (fun hb => ?_) (fun hb => ?_)
  · replace h := h.1 hb
    clear hb
    refine wpIn_skip ?_
    refine hK3 _ _ ?_
    refine wpIn_block ?_
    refine wpIn_seq_k fun K4 hK4 => ?_
    refine wpIn_region_lit ?_
    obtain ⟨t8, w1, hd, h⟩ := h
    refine tI_eff free_wide hs rfl rfl (by decide) (fun _ h => by cases h) (e_entry rfl rfl hd) ?_
    clear hs a hd; intro a hs
    obtain ⟨vs, t9, ht, hv, h⟩ := h
    refine tI_pure free_wide hs rfl rfl (by decide) (fun _ h => by cases h) (p_extract rfl (congrArg some ht) hv) ?_
    clear hs a ht hv; intro a hs
    refine tI_pure free_wide hs rfl rfl (by decide) (fun _ h => by cases h) (p_assign rfl rfl) ?_
    clear hs a; intro a hs
    refine hK4 _ _ ?_
    refine wpIn_seq_k fun K5 hK5 => ?_
    refine wpIn_region_lit ?_
    refine tI_pure free_wide hs rfl rfl (by decide) (fun _ h => by cases h) (p_move rfl rfl) ?_
    clear hs a; intro a hs
    refine tI_pure free_wide hs rfl rfl (by decide) (fun _ h => by cases h) (p_move rfl rfl) ?_
    clear hs a; intro a hs
    obtain ⟨l1, hg, h⟩ := h
    refine tI_yield hs rfl rfl (by decide) (fun _ h => by cases h) (e_yield rfl (congrArg some hg) rfl) h ?_
    clear hs a h hg
    intro v a w hk hs
    obtain ⟨t12, rfl, h⟩ := hk
    refine tI_pure free_wide hs rfl rfl (by decide) (fun _ h => by cases h) (p_not rfl rfl) ?_
    clear hs a; intro a hs
    refine hK5 _ _ ?_
    refine cI_cond hs rfl (fun hb => ?_) (fun hb => ?_)
    · replace h := h.1 hb
      clear hb
      refine wpIn_ret ?_
      refine fI_ret (fn := Try.f118) hs (fun a hs => r_many hs (rs := []) (vs := []) rfl (by decide) trivial) ⟨rfl, h⟩
    · replace h := h.2 hb
      clear hb
      refine wpIn_skip ?_
      rw [← hX1] at h
      exact ⟨(), hs.to ⟨rfl, rfl, trivial⟩, h⟩
  · replace h := h.2 hb
    clear hb
    refine wpIn_exit ?_
    refine fI_end (fn := Try.f118) hs (fun a hs => r_many hs (rs := []) (vs := []) rfl (by decide) trivial) ⟨rfl, h⟩
def maps_Keys_map_string_disk_file_string_disk_file_1.b1 (Q : K)  (X1 : K) (yield0_1 : Value) (t5_1 : (Option Addr))  : K :=
  Do Try.prog (Instr.next (.pointer t5_1) false 0) id fun t6 =>
  Ext t6 0 Value.bool fun t7 =>
  Ite t7
    (Do Try.prog (Instr.entry (.pointer t5_1)) id fun t8 =>
    Ext t8 0 Value.string fun t9 =>
    CallY Try.prog yield0_1 [(.string t9)] <| Ans1 (fun (t12 : Bool) => Value.bool t12) fun t12 =>
    Ite (!t12)
      (Q)
      (X1))
    (Q)
def maps_Keys_map_string_disk_file_string_disk_file_1 (yield0 : Value) (t1 : Addr) (Q : K) : K :=
  Ld t1 Value.map fun t4 =>
  Do Try.prog (Instr.range 155 (.map t4)) Value.pointer fun t5 =>
  LoopK (α := Unit) (fun X x => maps_Keys_map_string_disk_file_string_disk_file_1.b1 Q (X ()) yield0 t5) ()
theorem maps_Keys_map_string_disk_file_string_disk_file_1_ok (yield0 : Value) (t1 : Addr) (Q : K) (w : World) (h : maps_Keys_map_string_disk_file_string_disk_file_1 yield0 t1 Q w) : maps_Keys_map_string_disk_file_string_disk_file_1.call yield0 t1 Q w := by
  unfold maps_Keys_map_string_disk_file_string_disk_file_1.call CallF
  refine fI_start (args := [yield0, (.pointer (some t1))]) Try.func125 rfl (Nat.le_of_ble_eq_true rfl) ?_
  intro a hs
  unfold maps_Keys_map_string_disk_file_string_disk_file_1 at h
  refine wpIn_seq_k fun K1 hK1 => ?_
  refine wpIn_region_lit ?_
  obtain ⟨t4, hv, h⟩ := h
  refine tI_eff free_wide hs rfl rfl (by decide) (fun _ h => by cases h) (e_load rfl rfl ct_155 hv) ?_
  clear hs a hv; intro a hs
  obtain ⟨t5, w1, hd, h⟩ := h
  refine tI_eff free_wide hs rfl rfl (by decide) (fun _ h => by cases h) (e_range rfl rfl hd) ?_
  clear hs a hd; intro a hs
  refine hK1 _ _ ?_
  refine wpIn_block ?_
  obtain ⟨I1, μ1, h0, hr⟩ := h
  refine cI_loop (α := Unit) I1 μ1 (fun x a => SlotsD [] a 14 [(0, yield0), (5, (.pointer t5))]) () h0 (hs.to ⟨rfl, rfl, trivial⟩) ?_
  clear h0 hs a
  intro x0_1 a w hI hs
  have h : maps_Keys_map_string_disk_file_string_disk_file_1.b1 Q (fun w' => I1 () w' ∧ μ1 () w' < μ1 x0_1 w) yield0 t5 w := hr x0_1 w hI
  clear hr hI
  generalize hX1 : (fun w' => I1 () w' ∧ μ1 () w' < μ1 x0_1 w) = X1 at h
  unfold maps_Keys_map_string_disk_file_string_disk_file_1.b1 at h
  replace hs : SlotsD [] a 14 [(0, yield0), (5, (.pointer t5))] := hs
  refine wpIn_seq_k fun K2 hK2 => ?_
  refine wpIn_region_lit ?_
  obtain ⟨t6, w1, hd, h⟩ := h
  refine tI_eff free_wide hs rfl rfl (by decide) (fun _ h => by cases h) (e_next rfl rfl rfl hd) ?_
  clear hs a hd; intro a hs
  obtain ⟨vs, t7, ht, hv, h⟩ := h
  refine tI_pure free_wide hs rfl rfl (by decide) (fun _ h => by cases h) (p_extract rfl (congrArg some ht) hv) ?_
  clear hs a ht hv; intro a hs
  refine hK2 _ _ ?_
  refine wpIn_seq_k fun K3 hK3 => ?_
  refine cI_cond hs rfl (fun hb => ?_) (fun hb => ?_)
  · replace h := h.1 hb
    clear hb
    refine wpIn_skip ?_
    refine hK3 _ _ ?_
    refine wpIn_block ?_
    refine wpIn_seq_k fun K4 hK4 => ?_
    refine wpIn_region_lit ?_
    obtain ⟨t8, w1, hd, h⟩ := h
    refine tI_eff free_wide hs rfl rfl (by decide) (fun _ h => by cases h) (e_entry rfl rfl hd) ?_
    clear hs a hd; intro a hs
    obtain ⟨vs, t9, ht, hv, h⟩ := h
    refine tI_pure free_wide hs rfl rfl (by decide) (fun _ h => by cases h) (p_extract rfl (congrArg some ht) hv) ?_
    clear hs a ht hv; intro a hs
    refine tI_pure free_wide hs rfl rfl (by decide) (fun _ h => by cases h) (p_assign rfl rfl) ?_
    clear hs a; intro a hs
    refine hK4 _ _ ?_
    refine wpIn_seq_k fun K5 hK5 => ?_
    refine wpIn_region_lit ?_
    refine tI_pure free_wide hs rfl rfl (by decide) (fun _ h => by cases h) (p_move rfl rfl) ?_
    clear hs a; intro a hs
    refine tI_pure free_wide hs rfl rfl (by decide) (fun _ h => by cases h) (p_move rfl rfl) ?_
    clear hs a; intro a hs
    obtain ⟨l1, hg, h⟩ := h
    refine tI_yield hs rfl rfl (by decide) (fun _ h => by cases h) (e_yield rfl (congrArg some hg) rfl) h ?_
    clear hs a h hg
    intro v a w hk hs
    obtain ⟨t12, rfl, h⟩ := hk
    refine tI_pure free_wide hs rfl rfl (by decide) (fun _ h => by cases h) (p_not rfl rfl) ?_
    clear hs a; intro a hs
    refine hK5 _ _ ?_
    refine cI_cond hs rfl (fun hb => ?_) (fun hb => ?_)
    · replace h := h.1 hb
      clear hb
      refine wpIn_ret ?_
      refine fI_ret (fn := Try.f125) hs (fun a hs => r_many hs (rs := []) (vs := []) rfl (by decide) trivial) ⟨rfl, h⟩
    · replace h := h.2 hb
      clear hb
      refine wpIn_skip ?_
      rw [← hX1] at h
      exact ⟨(), hs.to ⟨rfl, rfl, trivial⟩, h⟩
  · replace h := h.2 hb
    clear hb
    refine wpIn_exit ?_
    refine fI_end (fn := Try.f125) hs (fun a hs => r_many hs (rs := []) (vs := []) rfl (by decide) trivial) ⟨rfl, h⟩
end Go.Proofs.Ytdpepgjbambinaa
