/- Texts of the claim LocksLeave, one behind the other. -/
import Derived.Test.YtfjjocopmknhgaaGreatLocksLeaveM3
/- slices.Sorted of a map's keys (locks gates). -/
namespace Go.Proofs.YtfjjocopmknhgaaGreat
open Go Go.Sep
set_option linter.unusedSimpArgs false
set_option linter.unusedVariables false
set_option maxRecDepth 100000

theorem mapFL : mapIs Tryz.prog ty_map_string_p_locks_gate .string ty_p_locks_gate := ⟨ty_string, by kernel_rfl, by kernel_rfl⟩
section
variable {B w : World} {Γ : List HProp} {β : Type} {cV : β → Value}

theorem slices_Collect_keysL {mb t1 : Nat} {m : List (List UInt8 × β)} {k : Sl → K} (hm : m.length ≤ 1000000) (h : Holds B (blk t1 (.cells #[.map (some mb)] ty_map_string_p_locks_gate (0, 0)) :: MapR strV cV mb m :: Γ) w)
    (hk : ∀ s ss w, ss.Perm (m.map Prod.fst) → Holds B (SlS s ss :: MapR strV cV mb m :: Γ) w → k s w) : slices_Collect_string.call (.func (.func 115) #[] #[.pointer (some ⟨t1, 0, none⟩)]) k w := by
  refine slices_Collect_string_ok _ _ _ ?_
  unfold slices_Collect_string
  refine slices_AppendSeq_s_string_string_ok _ _ _ _ ?_
  unfold slices_AppendSeq_s_string_string
  refine r_new h ?_
  clear h
  intro s2 w h
  try simp only [add_mk, Nat.zero_add, Nat.reduceAdd]
  refine r_rangeF h rfl (by kernel_rfl) fun D l r w hr1 hr2 h hy => ?_
  refine ret_mono (maps_Keys_map_string_locks_gate_string_locks_gate_1_ok (yv l) ⟨t1, 0, none⟩ (fun w3 => ∃ Δ, Holds B (blk l (.loop r) :: Δ) w3 ∧ ∀ w, Holds B Δ w → (Ld ⟨s2, 0, none⟩ Sl.val fun t12 => TakeD D (k t12)) w) w ?_) fun v w h => h.2
  unfold maps_Keys_map_string_locks_gate_string_locks_gate_1
  refine r_ld (x := (some mb)) h rfl (by first | with_reducible exact M0 | with_reducible exact M1 | with_reducible exact M2 | with_reducible exact M3 | with_reducible exact M4 | with_reducible exact M5 | with_reducible exact M6 | with_reducible exact M7 | with_reducible exact M8 | with_reducible exact M9 | with_reducible exact M10 | with_reducible exact M11 | with_reducible exact M12) ?_ ?_
  · exact rfl
  replace h := P3 h
  replace h := P3 h
  replace h := P3 h
  replace h := P3 h
  replace h := P4 h
  try simp only [N1, N2, N3, N4, N5, N6, N7] at h
  refine r_range mapFL h fun r2 w h => ?_
  replace h := h.del 4 at4
  try simp only [N1, N2, N3, N4, N5, N6, N7] at h
  have h0 := (h.nilSl ty_string 1)
  refine LoopK.of (fun _ w => ∃ (o : Sl) (ss : List (List UInt8)) (left : List (List UInt8 × β)) (cur : Option (List UInt8 × β)), (ss ++ left.map Prod.fst).Perm (m.map Prod.fst) ∧
      Holds B (blk l (.loop r) :: blk D (.deferred (some [])) :: blk s2 (.cells #[o.val] ty_s_string (0, 0)) :: SlS o ss :: MapIt strV cV mb r2 m left cur :: Γ) w)
    (fun _ w => itCount r2 m.length w) ⟨⟨none, 0, 0⟩, [], m, none, List.Perm.refl _, ?_⟩ ?_
  · replace h := h0
    replace h := P1 h
    replace h := P1 h
    replace h := P4 h
    replace h := P4 h
    replace h := P4 h
    try simp only [N1, N2, N3, N4, N5, N6, N7] at h
    exact h
  clear h h0
  rintro _ w ⟨o, ss, left, cur, hperm, h⟩
  have hcnt := it_count (h.pick 4 at4)
  have hlen := hperm.length_eq
  simp only [List.length_append, List.length_map] at hlen
  unfold maps_Keys_map_string_locks_gate_string_locks_gate_1.b1
  replace h := P3 h
  replace h := P3 h
  replace h := P3 h
  replace h := P3 h
  replace h := P4 h
  try simp only [N1, N2, N3, N4, N5, N6, N7] at h
  refine r_next h (fun hl0 w h => ?_) (fun l1 p l2 w hl1 hpm h => ?_)
  · refine ⟨_, false, rfl, rfl, ?_⟩
    refine r_ite_f rfl ?_
    replace h := P4 h
    replace h := P4 h
    replace h := P4 h
    replace h := P4 h
    try simp only [N1, N2, N3, N4, N5, N6, N7] at h
    refine ⟨_, h, fun w h => ?_⟩
    refine r_ld (x := o) h rfl (by first | with_reducible exact M0 | with_reducible exact M1 | with_reducible exact M2 | with_reducible exact M3 | with_reducible exact M4 | with_reducible exact M5 | with_reducible exact M6 | with_reducible exact M7 | with_reducible exact M8 | with_reducible exact M9 | with_reducible exact M10 | with_reducible exact M11 | with_reducible exact M12) ?_ ?_
    · exact rfl
    refine r_takeD h fun w h => ?_
    replace h := P2 h
    replace h := P2 h
    replace h := D2 h
    try simp only [N1, N2, N3, N4, N5, N6, N7] at h
    rw [hl0] at hperm
    simp only [List.map_nil, List.append_nil] at hperm
    exact hk o ss _ hperm h
  · refine ⟨_, true, rfl, rfl, ?_⟩
    refine r_ite_t rfl ?_
    refine r_entry h ?_
    refine ⟨_, bs p.1, rfl, rfl, ?_⟩
    replace h := P4 h
    replace h := P4 h
    replace h := P4 h
    replace h := P4 h
    try simp only [N1, N2, N3, N4, N5, N6, N7] at h
    refine callY_mono (hy (bs p.1) (fun w => ∃ o', Holds B (blk l (.loop r) :: blk D (.deferred (some [])) :: blk s2 (.cells #[Sl.val o'] ty_s_string (0, 0)) :: SlS o' (ss ++ [p.1]) :: MapIt strV cV mb r2 m (l1 ++ l2) (some p) :: Γ) w) w _ h fun W h => ?_) fun v w hv => ?_
    · have hon : ss.length = o.n := by have := (h.pick 3 at3).slCap.1; simpa using this
      refine r_ld (x := o) h rfl (by first | with_reducible exact M0 | with_reducible exact M1 | with_reducible exact M2 | with_reducible exact M3 | with_reducible exact M4 | with_reducible exact M5 | with_reducible exact M6 | with_reducible exact M7 | with_reducible exact M8 | with_reducible exact M9 | with_reducible exact M10 | with_reducible exact M11 | with_reducible exact M12) ?_ ?_
      · exact rfl
      refine r_new h ?_
      clear h
      intro t10 w h
      try simp only [add_mk, Nat.zero_add, Nat.reduceAdd]
      refine r_append (us := [strV p.1]) (h.pick 4 at4) (by kernel_rfl) (by kernel_rfl) (by' := 16) (by kernel_rfl) zero_ty_string rfl (RdC.of_blk (E := ty_string) (b := t10) (n := 1) (vs := [strV p.1]) (cs := #[strV p.1]) h List.mem_cons_self rfl rfl 1) (by simp [flatV]) (by simp only; omega) (by decide) fun o' w h _ _ => ?_
      try simp only [N1, N2, N3, N4, N5, N6, N7] at h
      first | refine S0 h rfl ?_ rfl ?_ | refine S1 h rfl ?_ rfl ?_ | refine S2 h rfl ?_ rfl ?_ | refine S3 h rfl ?_ rfl ?_ | refine S4 h rfl ?_ rfl ?_ | refine S5 h rfl ?_ rfl ?_ | refine S6 h rfl ?_ rfl ?_ | refine S7 h rfl ?_ rfl ?_ | refine S8 h rfl ?_ rfl ?_
      · first | exact Nat.lt_of_ble_eq_true rfl | (simp; done) | (simp; omega)
      clear h
      intro w h
      try simp only [N1, N2, N3, N4, N5, N6, N7] at h
      replace h := P5 h
      replace h := P1 h
      replace h := P5 h
      replace h := P5 h
      replace h := P5 h
      replace h := D5 h
      try simp only [N1, N2, N3, N4, N5, N6, N7] at h
      refine r_endR h fun w h => ?_
      have e : ({ ({ r with state := .busy } : Loop) with state := .ready, pending := none } : Loop) = r := by
        cases r
        simp only at hr1 hr2
        simp only [hr1, hr2]
      rw [e] at h
      refine ⟨o', ?_⟩
      have e2 : ss.map strV ++ [strV p.1] = (ss ++ [p.1]).map strV := by simp
      rw [e2] at h
      exact h
    · obtain ⟨rfl, o', h⟩ := hv
      refine ⟨true, rfl, ?_⟩
      refine r_ite_f rfl ?_
      have hcnt2 := it_count (h.pick 4 at4)
      refine ⟨⟨o', _, _, _, ?_, h⟩, ?_⟩
      · refine List.Perm.trans ?_ hperm
        rw [hl1]
        simp only [List.map_append, List.map_cons, List.append_assoc]
        refine List.Perm.append_left _ ?_
        show (p.1 :: (l1.map Prod.fst ++ l2.map Prod.fst)).Perm _
        exact List.perm_middle.symm
      · rw [hcnt, hcnt2, hl1]
        simp

theorem sorted_keys_specL {mb : Nat} {m : List (List UInt8 × β)} {k : Sl → K} (hm : m.length ≤ 1000000) (h : Holds B (MapR strV cV mb m :: Γ) w)
    (hk : ∀ s w, Holds B (SlS s (sortL (m.map Prod.fst)) :: MapR strV cV mb m :: Γ) w → k s w) :
    maps_Keys_map_string_locks_gate_string_locks_gate.call (some mb) (fun t7 => slices_Sorted_string.call t7 k) w := by
  refine maps_Keys_map_string_locks_gate_string_locks_gate_ok _ _ _ ?_
  unfold maps_Keys_map_string_locks_gate_string_locks_gate
  refine r_new h ?_
  clear h
  intro m1 w h
  try simp only [add_mk, Nat.zero_add, Nat.reduceAdd]
  refine slices_Sorted_string_ok _ _ _ ?_
  unfold slices_Sorted_string
  refine slices_Collect_keysL hm h fun s ss w hp h => ?_
  have hl := hp.length_eq
  rw [List.length_map] at hl
  refine slices_Sort_spec (by omega) h fun w h => ?_
  rw [sortL_perm hp] at h
  exact hk _ _ h
end
end Go.Proofs.YtfjjocopmknhgaaGreat
/- Plain forms of functions, and that their code comes to them (package locks). -/
namespace Go.Proofs.YtfjjocopmknhgaaGreat
open Go Go.Sep
set_option linter.unusedVariables false
set_option linter.unusedSimpArgs false
set_option maxRecDepth 100000
set_option maxHeartbeats 4000000
attribute [local irreducible] G Gp Cx Tx Ex Sx Dx Ox Ax Lx Rx Fx Bx Bj Al Do Ld LdN St StN New CallF Ar DoU Rd Rd2 Pu Cd Ite Fv CallV CallY Ans0 Ans1 Ans2 Ans3 Ans4 Ans5 Ext Dead Dr WithS Sv LdS LdNS RdS Rd2S Nn Idx IdxA IdxS Fld Bld Slc SlcS Cat All LoopK RangeF RangeJ TakeD
namespace F_IRLocks
instance at_105 : AT Tryz.prog 105 3 := ⟨by kernel_rfl⟩
instance at_167 : AT Tryz.prog 167 7 := ⟨by kernel_rfl⟩
instance at_39 : AT Tryz.prog 39 4 := ⟨by kernel_rfl⟩
instance at_47 : AT Tryz.prog 47 4 := ⟨by kernel_rfl⟩
instance cb_108 : CB Tryz.prog 108 := ⟨by kernel_rfl⟩
instance cb_14 : CB Tryz.prog 14 := ⟨by kernel_rfl⟩
instance cb_35 : CB Tryz.prog 35 := ⟨by kernel_rfl⟩
instance cb_36 : CB Tryz.prog 36 := ⟨by kernel_rfl⟩
instance cb_44 : CB Tryz.prog 44 := ⟨by kernel_rfl⟩
instance cb_60 : CB Tryz.prog 60 := ⟨by kernel_rfl⟩
instance cb_77 : CB Tryz.prog 77 := ⟨by kernel_rfl⟩
instance cb_78 : CB Tryz.prog 78 := ⟨by kernel_rfl⟩
instance cb_80 : CB Tryz.prog 80 := ⟨by kernel_rfl⟩
instance cb_81 : CB Tryz.prog 81 := ⟨by kernel_rfl⟩
instance cb_82 : CB Tryz.prog 82 := ⟨by kernel_rfl⟩
instance cb_83 : CB Tryz.prog 83 := ⟨by kernel_rfl⟩
instance cb_84 : CB Tryz.prog 84 := ⟨by kernel_rfl⟩
instance cb_85 : CB Tryz.prog 85 := ⟨by kernel_rfl⟩
instance cb_86 : CB Tryz.prog 86 := ⟨by kernel_rfl⟩
instance ct_150 : CT Tryz.prog 150 := ⟨by kernel_rfl⟩
instance ct_151 : CT Tryz.prog 151 := ⟨by kernel_rfl⟩
instance ct_159 : CT Tryz.prog 159 := ⟨by kernel_rfl⟩
instance ct_160 : CT Tryz.prog 160 := ⟨by kernel_rfl⟩
instance ct_83 : CT Tryz.prog 83 := ⟨by kernel_rfl⟩
instance ct_9 : CT Tryz.prog 9 := ⟨by kernel_rfl⟩
instance ft_105_0 : FT Tryz.prog 105 0 0 1 := ⟨by kernel_rfl⟩
instance ft_153_0 : FT Tryz.prog 153 0 0 1 := ⟨by kernel_rfl⟩
instance ft_153_1 : FT Tryz.prog 153 1 1 1 := ⟨by kernel_rfl⟩
instance ft_162_0 : FT Tryz.prog 162 0 0 1 := ⟨by kernel_rfl⟩
instance ft_162_1 : FT Tryz.prog 162 1 1 1 := ⟨by kernel_rfl⟩
instance ft_167_0 : FT Tryz.prog 167 0 0 4 := ⟨by kernel_rfl⟩
instance ft_167_1 : FT Tryz.prog 167 1 4 3 := ⟨by kernel_rfl⟩
instance mx : MX Tryz.prog := ⟨mixed⟩
instance pl_153 : PLT Tryz.prog 153 [(0, 1), (1, 1)] := ⟨_, Tryz.underlying153, by kernel_rfl⟩
instance pl_162 : PLT Tryz.prog 162 [(0, 1), (1, 1)] := ⟨_, Tryz.underlying162, by kernel_rfl⟩
instance pl_167 : PLT Tryz.prog 167 [(0, 4), (4, 3)] := ⟨_, Tryz.underlying167, by kernel_rfl⟩
instance sl_160 : SLT Tryz.prog 160 167 7 := ⟨by kernel_rfl⟩
instance sl_23 : SLT Tryz.prog 23 9 1 := ⟨by kernel_rfl⟩
instance sl_40 : SLT Tryz.prog 40 105 3 := ⟨by kernel_rfl⟩
instance sl_88 : SLT Tryz.prog 88 39 4 := ⟨by kernel_rfl⟩
instance sz_105 : SZ Tryz.prog 105 3 := ⟨by kernel_rfl⟩
instance sz_159 : SZ Tryz.prog 159 1 := ⟨by kernel_rfl⟩
instance sz_160 : SZ Tryz.prog 160 1 := ⟨by kernel_rfl⟩
instance sz_167 : SZ Tryz.prog 167 7 := ⟨by kernel_rfl⟩
instance sz_39 : SZ Tryz.prog 39 4 := ⟨by kernel_rfl⟩
instance sz_47 : SZ Tryz.prog 47 4 := ⟨by kernel_rfl⟩
instance un_159 : UN Tryz.prog 159 (.pointer 162) := ⟨Tryz.underlying159⟩
instance zt_105 : ZT Tryz.prog 105 (.agg #[(.string ⟨#[]⟩), (.int .i64 0), (.int .u64 0)]) := ⟨Tryz.t105, by kernel_rfl, by kernel_rfl⟩
instance zt_153 : ZT Tryz.prog 153 (.agg #[(.map none), (.map none)]) := ⟨Tryz.t153, by kernel_rfl, by kernel_rfl⟩
instance zt_159 : ZT Tryz.prog 159 (.pointer none) := ⟨Tryz.t159, by kernel_rfl, by kernel_rfl⟩
instance zt_162 : ZT Tryz.prog 162 (.agg #[(Sl.val ⟨none, 0, 0⟩), (Sl.val ⟨none, 0, 0⟩)]) := ⟨Tryz.t162, by kernel_rfl, by kernel_rfl⟩
instance zt_167 : ZT Tryz.prog 167 (.agg #[(.int .i64 0), (.int .u64 0), (.int .u64 0), (.int .i64 0), (.string ⟨#[]⟩), (.int .i64 0), (.int .u64 0)]) := ⟨Tryz.t167, by kernel_rfl, by kernel_rfl⟩
instance zt_39 : ZT Tryz.prog 39 (.agg #[(.int .i64 0), (.int .u64 0), (.int .u64 0), (.int .i64 0)]) := ⟨Tryz.t39, by kernel_rfl, by kernel_rfl⟩
instance zt_47 : ZT Tryz.prog 47 (.agg #[(.bool false), (Sl.val ⟨none, 0, 0⟩), (.int .i64 0), (.int .u64 0)]) := ⟨Tryz.t47, by kernel_rfl, by kernel_rfl⟩
end F_IRLocks
def locks_New  (Q : (Option Addr) → K) : K :=
  Do Tryz.prog (Instr.makeMap 150 none) Value.map fun t1 =>
  Do Tryz.prog (Instr.makeMap 151 none) Value.map fun t2 =>
  New 153 #[(.map t1), (.map t2)] fun t4 =>
  Q (some t4)
theorem locks_New_ok  (Q : (Option Addr) → K) (w : World) (h : locks_New  Q w) : locks_New.call  Q w := by
  exact g_walk 5 h Tryz.func32
def locks_Locks_Keys (l0 : (Option Addr)) (Q : Sl → K) : K :=
  New 83 #[(.pointer l0)] fun l1 =>
  Ld l1 Value.pointer fun t3 =>
  Nn t3 fun t4 =>
  Ld t4 Value.map fun t6 =>
  maps_Keys_map_string_locks_gate_string_locks_gate.call t6 fun t7 =>
  slices_Sorted_string.call t7 fun t8 =>
  slices_DeleteFunc_s_string_string.call t8 (.func (.func 79) #[] #[(.pointer (some l1))]) fun t10 =>
  Q t10
theorem locks_Locks_Keys_ok (l0 : (Option Addr)) (Q : Sl → K) (w : World) (h : locks_Locks_Keys l0 Q w) : locks_Locks_Keys.call l0 Q w := by
  exact g_walk 11 h Tryz.func35
def locks_Locks_Queue (l0 : (Option Addr)) (key1 : ByteArray) (Q : Sl → K) : K :=
  Nn l0 fun t7 =>
  Ld t7 Value.map fun t9 =>
  Rd Tryz.prog (Instr.lookup 150 (.map t9) (.string key1) false) Value.pointer fun t11 =>
  Ite (!(t11).isNone)
    (Nn t11 fun t15 =>
    Ld t15 Sl.val fun t17 =>
    locks_tags.call t17 fun t18 =>
    Q t18)
    (Q (Sl.mk none 0 0))
theorem locks_Locks_Queue_ok (l0 : (Option Addr)) (key1 : ByteArray) (Q : Sl → K) (w : World) (h : locks_Locks_Queue l0 key1 Q w) : locks_Locks_Queue.call l0 key1 Q w := by
  exact g_walk 19 h Tryz.func36
def locks_Locks_Leave.b1 (Q : K)  (X1 : K) (l0_1 : Addr) (tag3_1 : Addr) (t10_1 : (Option Addr))  : K :=
  Do Tryz.prog (Instr.next (.pointer t10_1) false 0) id fun t11 =>
  Ext t11 0 Value.bool fun t12 =>
  Ite t12
    (Do Tryz.prog (Instr.entry (.pointer t10_1)) id fun t13 =>
    Ext t13 1 Value.pointer fun t14 =>
    Dr <| WithS fun S =>
    Nn t14 fun t17 =>
    LdS S t17 Sl.val fun t19 =>
    LdNS S tag3_1 4 fun t20 =>
    locks_of.call t20 fun t21 =>
    Sv S <|
    slices_DeleteFunc_s_locks_claim_locks_claim.call t19 t21 fun t22 =>
    St t17 (Sl.val t22) <|
    Dr <| WithS fun S =>
    LdS S (t17.add 1) Sl.val fun t29 =>
    LdNS S tag3_1 4 fun t30 =>
    locks_of.call t30 fun t31 =>
    Sv S <|
    slices_DeleteFunc_s_locks_claim_locks_claim.call t29 t31 fun t32 =>
    St (t17.add 1) (Sl.val t32) <|
    X1)
    (Dr <|
    Ld (l0_1.add 1) Value.map fun t38 =>
    LdN tag3_1 4 fun t39 =>
    Do Tryz.prog (Builtin.delete_ #[151, 39] 0 #[(.map t38), (.agg t39)]) id fun _ =>
    Q)
def locks_Locks_Leave (l0 : (Option Addr)) (tag1 : (Array Value)) (Q : K) : K :=
  New 39 tag1 fun tag3 =>
  Nn l0 fun t7 =>
  Ld t7 Value.map fun t9 =>
  Do Tryz.prog (Instr.range 150 (.map t9)) Value.pointer fun t10 =>
  LoopK (α := Unit) (fun X x => locks_Locks_Leave.b1 Q (X ()) t7 tag3 t10) ()
theorem locks_Locks_Leave_ok (l0 : (Option Addr)) (tag1 : (Array Value)) (Q : K) (w : World) (h : locks_Locks_Leave l0 tag1 Q w) : locks_Locks_Leave.call l0 tag1 Q w := by
  have hD5 : DH 5 2 [7, 10] (.s [0, 1, 2, 3, 4, 5] (.a [(6, 1, .a [(7, 0, .s [8, 9] (.a [(10, 0, .e)]))])])) := by intros; exact ⟨⟩
  have hD4 : DH 4 2 [7, 10] (.s [0, 1, 2, 3, 4, 5] (.a [(6, 1, .a [(7, 0, .s [8, 9] (.a [(10, 0, .e)]))])])) := by intros; exact ⟨⟩
  have hD6 : DH 6 1 [5] (.s [0, 1, 2, 3, 4] (.a [(5, 0, .e)])) := by intros; exact ⟨⟩
  have hL2 : ∀ (l0_1 : Addr) (tag3_1 : Addr) (t10_1 : (Option Addr)), LH 2 (fun x : Unit => [(0, (.pointer (some l0_1))), (3, (.pointer (some tag3_1))), (10, (.pointer t10_1))]) (fun X x => locks_Locks_Leave.b1 Q (X ()) l0_1 tag3_1 t10_1) := by intros; exact ⟨⟩
  exact g_walk 40 h Tryz.func37
def locks_Locks_Ahead.s3 (Q : Sl → K) (X1 : Sl → Int → K) (X2 : Sl → Int → K) (l0_3 : (Option Addr)) (tag3_3 : Addr) (out4_3 : Sl) (t12_3 : Sl) (t13_3 : Int) (t14_3 : Int) (t27_3 : Sl) (t28_3 : Int) (t29_3 : Int) : K :=
  Ar (IntKind.wrap .i64 (t29_3 + 1)) fun t41 =>
  X2 out4_3 t41
def locks_Locks_Ahead.b2 (Q : Sl → K) (X1 : Sl → Int → K) (X2 : Sl → Int → K) (l0_2 : (Option Addr)) (tag3_2 : Addr) (t12_2 : Sl) (t13_2 : Int) (t14_2 : Int) (t27_2 : Sl) (t28_2 : Int) (out4_2 : Sl) (t29_2 : Int) : K :=
  Ite (decide (t29_2 < t28_2))
    (Idx t27_2 t29_2 4 fun t31 =>
    LdN t31 4 fun t32 =>
    New 39 #[(.int .i64 0), (.int .u64 0), (.int .u64 0), (.int .i64 0)] fun t10 =>
    StN t10 4 t32 <|
    LdN t10 4 fun t34 =>
    slices_Contains_s_api_Tag_api_Tag.call out4_2 t34 fun t35 =>
    Ite (!t35)
      (LdN t10 4 fun t38 =>
      Bld #[(.int .i64 0), (.int .u64 0), (.int .u64 0), (.int .i64 0)] (fun i => some (i * 4, 4)) [(0, (.agg t38))] fun ct39 =>
      New 39 ct39 fun t39 =>
      Do Tryz.prog (Builtin.append_ #[88, 88] 88 #[(Sl.val out4_2), (Sl.val (Sl.mk (some t39) 1 1))]) Sl.val fun t40 =>
      locks_Locks_Ahead.s3 Q X1 X2 l0_2 tag3_2 t40 t12_2 t13_2 t14_2 t27_2 t28_2 t29_2)
      (locks_Locks_Ahead.s3 Q X1 X2 l0_2 tag3_2 out4_2 t12_2 t13_2 t14_2 t27_2 t28_2 t29_2))
    (Ar (IntKind.wrap .i64 (t14_2 + 1)) fun t42 =>
    X1 out4_2 t42)
def locks_Locks_Ahead.b1 (Q : Sl → K)  (X1 : Sl → Int → K) (l0_1 : (Option Addr)) (tag3_1 : Addr) (t12_1 : Sl) (t13_1 : Int) (out4_1 : Sl) (t14_1 : Int) : K :=
  Ite (decide (t14_1 < t13_1))
    (Idx t12_1 t14_1 1 fun t16 =>
    Ld t16 Value.string fun t17 =>
    locks_Locks_Queue.call l0_1 t17 fun t20 =>
    LdN tag3_1 4 fun t22 =>
    slices_Index_s_api_Tag_api_Tag.call t20 t22 fun t23 =>
    Ar (if (0 : Int) > t23 then 0 else t23) fun t26 =>
    Slc t20 0 t26 (t20.c : Int) 4 fun t27 =>
    LoopK (α := Sl × Int) (fun X x => locks_Locks_Ahead.b2 Q X1 (fun out4_2 t29_2 => X (out4_2, t29_2)) l0_1 tag3_1 t12_1 t13_1 t14_1 t27 (t27.n : Int) x.1 x.2) (out4_1, 0))
    (Q out4_1)
def locks_Locks_Ahead (l0 : (Option Addr)) (tag1 : (Array Value)) (Q : Sl → K) : K :=
  New 39 tag1 fun tag3 =>
  locks_Locks_Keys.call l0 fun t12 =>
  LoopK (α := Sl × Int) (fun X x => locks_Locks_Ahead.b1 Q (fun out4_1 t14_1 => X (out4_1, t14_1)) l0 tag3 t12 (t12.n : Int) x.1 x.2) ((Sl.mk none 0 0), 0)
theorem locks_Locks_Ahead_ok (l0 : (Option Addr)) (tag1 : (Array Value)) (Q : Sl → K) (w : World) (h : locks_Locks_Ahead l0 tag1 Q w) : locks_Locks_Ahead.call l0 tag1 Q w := by
  have hJ11 : ∀ (X1 : (Sl × Int) → K), XH 2 X1 → ∀ (X2 : (Sl × Int) → K), XH 7 X2 → JH 11 fun D => ∃ (l0_3 : (Option Addr)) (tag3_3 : Addr) (t12_3 : Sl) (t13_3 : Int) (t14_3 : Int) (t27_3 : Sl) (t28_3 : Int) (t29_3 : Int), D [(0, (.pointer l0_3)), (3, (.pointer (some tag3_3))), (12, (Sl.val t12_3)), (13, (.int .i64 t13_3)), (14, (.int .i64 t14_3)), (27, (Sl.val t27_3)), (28, (.int .i64 t28_3)), (29, (.int .i64 t29_3))] (fun C => ∀ (out4_3 : Sl), C [(0, (.pointer l0_3)), (3, (.pointer (some tag3_3))), (4, (Sl.val out4_3)), (12, (Sl.val t12_3)), (13, (.int .i64 t13_3)), (14, (.int .i64 t14_3)), (27, (Sl.val t27_3)), (28, (.int .i64 t28_3)), (29, (.int .i64 t29_3))] (locks_Locks_Ahead.s3 Q (fun out4_1 t14_1 => X1 (out4_1, t14_1)) (fun out4_2 t29_2 => X2 (out4_2, t29_2)) l0_3 tag3_3 out4_3 t12_3 t13_3 t14_3 t27_3 t28_3 t29_3)) := by intros; exact ⟨fun _ ⟨_, _, _, _, _, _, _, _, h⟩ => ⟨_, _, h⟩⟩
  have hL7 : ∀ (X1 : (Sl × Int) → K), XH 2 X1 → ∀ (l0_2 : (Option Addr)) (tag3_2 : Addr) (t12_2 : Sl) (t13_2 : Int) (t14_2 : Int) (t27_2 : Sl) (t28_2 : Int), LH 7 (fun x : Sl × Int => [(0, (.pointer l0_2)), (3, (.pointer (some tag3_2))), (4, (Sl.val x.1)), (12, (Sl.val t12_2)), (13, (.int .i64 t13_2)), (14, (.int .i64 t14_2)), (27, (Sl.val t27_2)), (28, (.int .i64 t28_2)), (29, (.int .i64 x.2))]) (fun X x => locks_Locks_Ahead.b2 Q (fun out4_1 t14_1 => X1 (out4_1, t14_1)) (fun out4_2 t29_2 => X (out4_2, t29_2)) l0_2 tag3_2 t12_2 t13_2 t14_2 t27_2 t28_2 x.1 x.2) := by intros; exact ⟨⟩
  have hL2 : ∀ (l0_1 : (Option Addr)) (tag3_1 : Addr) (t12_1 : Sl) (t13_1 : Int), LH 2 (fun x : Sl × Int => [(0, (.pointer l0_1)), (3, (.pointer (some tag3_1))), (4, (Sl.val x.1)), (12, (Sl.val t12_1)), (13, (.int .i64 t13_1)), (14, (.int .i64 x.2))]) (fun X x => locks_Locks_Ahead.b1 Q (fun out4_1 t14_1 => X (out4_1, t14_1)) l0_1 tag3_1 t12_1 t13_1 x.1 x.2) := by intros; exact ⟨⟩
  exact g_walk 44 h Tryz.func38
def locks_Locks_Doomed (l0 : (Option Addr)) (tag1 : (Array Value)) (Q : Bool → K) : K :=
  New 39 tag1 fun tag3 =>
  Dr <|
  Nn l0 fun t6 =>
  Ld (t6.add 1) Value.map fun t8 =>
  LdN tag3 4 fun t9 =>
  Rd Tryz.prog (Instr.lookup 151 (.map t8) (.agg t9) false) (Value.int .i64) fun t10 =>
  Q (decide ((0 : Int) < t10))
theorem locks_Locks_Doomed_ok (l0 : (Option Addr)) (tag1 : (Array Value)) (Q : Bool → K) (w : World) (h : locks_Locks_Doomed l0 tag1 Q w) : locks_Locks_Doomed.call l0 tag1 Q w := by
  exact g_walk 12 h Tryz.func39
def locks_Locks_Ready.s2 (Q : Bool → K) (X1 : K) (tag3_2 : Addr) (t11_2 : (Option Addr)) (t32_2 : Bool) : K :=
  Ite t32_2
    (Q false)
    (X1)
def locks_Locks_Ready.b1 (Q : Bool → K)  (X1 : K) (tag3_1 : Addr) (t11_1 : (Option Addr))  : K :=
  Do Tryz.prog (Instr.next (.pointer t11_1) false 0) id fun t12 =>
  Ext t12 0 Value.bool fun t13 =>
  Ite t13
    (Do Tryz.prog (Instr.entry (.pointer t11_1)) id fun t14 =>
    Ext t14 1 Value.pointer fun t15 =>
    Dr <| WithS fun S =>
    Nn t15 fun t17 =>
    LdS S (t17.add 1) Sl.val fun t19 =>
    LdNS S tag3_1 4 fun t20 =>
    locks_of.call t20 fun t21 =>
    Sv S <|
    slices_ContainsFunc_s_locks_claim_locks_claim.call t19 t21 fun t22 =>
    Sv S <|
    Ite t22
      (locks_Locks_Ready.s2 Q X1 tag3_1 t11_1 true)
      (LdS S t17 Sl.val fun t27 =>
      LdNS S tag3_1 4 fun t28 =>
      locks_of.call t28 fun t29 =>
      Sv S <|
      slices_IndexFunc_s_locks_claim_locks_claim.call t27 t29 fun t30 =>
      locks_Locks_Ready.s2 Q X1 tag3_1 t11_1 (decide ((0 : Int) < t30))))
    (Q true)
def locks_Locks_Ready (l0 : (Option Addr)) (tag1 : (Array Value)) (Q : Bool → K) : K :=
  New 39 tag1 fun tag3 =>
  Nn l0 fun t8 =>
  Ld t8 Value.map fun t10 =>
  Do Tryz.prog (Instr.range 150 (.map t10)) Value.pointer fun t11 =>
  LoopK (α := Unit) (fun X x => locks_Locks_Ready.b1 Q (X ()) tag3 t11) ()
theorem locks_Locks_Ready_ok (l0 : (Option Addr)) (tag1 : (Array Value)) (Q : Bool → K) (w : World) (h : locks_Locks_Ready l0 tag1 Q w) : locks_Locks_Ready.call l0 tag1 Q w := by
  have hJ5 : ∀ (X1 : Unit → K), XH 2 X1 → JH 5 fun D => ∃ (tag3_2 : Addr) (t11_2 : (Option Addr)), D [(3, (.pointer (some tag3_2))), (11, (.pointer t11_2))] (fun C => ∀ (t32_2 : Bool), C [(3, (.pointer (some tag3_2))), (11, (.pointer t11_2)), (32, (.bool t32_2))] (locks_Locks_Ready.s2 Q (X1 ()) tag3_2 t11_2 t32_2)) := by intros; exact ⟨fun _ ⟨_, _, h⟩ => ⟨_, _, h⟩⟩
  have hD4 : DH 4 2 [14] (.s [0, 1, 2, 3, 4] (.a [(5, 1, .a [(6, 1, .s [7] (.i (.s [8, 9, 10, 11, 12, 13, 14, 15, 16] .e) (.s [8, 9, 10, 11, 12] (.a [(13, 1, .a [(14, 0, .s [15, 16] .e)])]))))])])) := by intros; exact ⟨⟩
  have hL2 : ∀ (tag3_1 : Addr) (t11_1 : (Option Addr)), LH 2 (fun x : Unit => [(3, (.pointer (some tag3_1))), (11, (.pointer t11_1))]) (fun X x => locks_Locks_Ready.b1 Q (X ()) tag3_1 t11_1) := by intros; exact ⟨⟩
  exact g_walk 33 h Tryz.func40
def locks_Locks_Parked (l0 : (Option Addr)) (key1 : ByteArray) (Q : Sl → K) : K :=
  Nn l0 fun t7 =>
  Ld t7 Value.map fun t9 =>
  Rd Tryz.prog (Instr.lookup 150 (.map t9) (.string key1) false) Value.pointer fun t11 =>
  Ite (!(t11).isNone)
    (Nn t11 fun t15 =>
    Ld (t15.add 1) Sl.val fun t17 =>
    locks_tags.call t17 fun t18 =>
    Q t18)
    (Q (Sl.mk none 0 0))
theorem locks_Locks_Parked_ok (l0 : (Option Addr)) (key1 : ByteArray) (Q : Sl → K) (w : World) (h : locks_Locks_Parked l0 key1 Q w) : locks_Locks_Parked.call l0 key1 Q w := by
  exact g_walk 19 h Tryz.func43
def locks_Locks_Enter.s2 (Q : K) (X1 : Int → K) (l0_2 : (Option Addr)) (s1_2 : (Option Addr)) (tag6_2 : Addr) (t11_2 : Sl) (t12_2 : Int) (t13_2 : Int) : K :=
  Ar (IntKind.wrap .i64 (t13_2 + 1)) fun t76 =>
  X1 t76
def locks_Locks_Enter.s3 (Q : K) (X1 : Int → K) (l0_3 : (Option Addr)) (s1_3 : (Option Addr)) (tag6_3 : Addr) (m9_3 : Addr) (g10_3 : (Option Addr)) (t11_3 : Sl) (t12_3 : Int) (t13_3 : Int) (t36_3 : Bool) : K :=
  Ite t36_3
    (locks_Locks_Enter.s2 Q X1 l0_3 s1_3 tag6_3 t11_3 t12_3 t13_3)
    (Dr <| WithS fun S =>
    LdS S m9_3 Value.string fun t39 =>
    LdNS S m9_3 3 fun t41 =>
    store_Store_Get.call s1_3 t39 fun t40 =>
    Sv S <|
    route_Look.call t40 t41 fun t42 =>
    Ite (decide (t42 = 0))
      (Dr <| WithS fun S =>
      Nn g10_3 fun t52 =>
      LdS S t52 Sl.val fun t54 =>
      LdNS S tag6_3 4 fun t55 =>
      LdNS S m9_3 3 fun t56 =>
      Bld #[(.int .i64 0), (.int .u64 0), (.int .u64 0), (.int .i64 0), (.string ⟨#[]⟩), (.int .i64 0), (.int .u64 0)] ([(0, 4), (4, 3)][·]?) [(0, (.agg t55)), (1, (.agg t56))] fun t57 =>
      Bld #[(.int .i64 0), (.int .u64 0), (.int .u64 0), (.int .i64 0), (.string ⟨#[]⟩), (.int .i64 0), (.int .u64 0)] (fun i => some (i * 7, 7)) [(0, (.agg t57))] fun ct58 =>
      New 167 ct58 fun t58 =>
      Sv S <|
      Do Tryz.prog (Builtin.append_ #[160, 160] 160 #[(Sl.val t54), (Sl.val (Sl.mk (some t58) 1 1))]) Sl.val fun t59 =>
      St t52 (Sl.val t59) <|
      locks_Locks_Enter.s2 Q X1 l0_3 s1_3 tag6_3 t11_3 t12_3 t13_3)
      (Ite (decide (t42 = 1))
        (Dr <| WithS fun S =>
        Nn g10_3 fun t66 =>
        LdS S (t66.add 1) Sl.val fun t68 =>
        LdNS S tag6_3 4 fun t69 =>
        LdNS S m9_3 3 fun t70 =>
        Bld #[(.int .i64 0), (.int .u64 0), (.int .u64 0), (.int .i64 0), (.string ⟨#[]⟩), (.int .i64 0), (.int .u64 0)] ([(0, 4), (4, 3)][·]?) [(0, (.agg t69)), (1, (.agg t70))] fun t71 =>
        Bld #[(.int .i64 0), (.int .u64 0), (.int .u64 0), (.int .i64 0), (.string ⟨#[]⟩), (.int .i64 0), (.int .u64 0)] (fun i => some (i * 7, 7)) [(0, (.agg t71))] fun ct72 =>
        New 167 ct72 fun t72 =>
        Sv S <|
        Do Tryz.prog (Builtin.append_ #[160, 160] 160 #[(Sl.val t68), (Sl.val (Sl.mk (some t72) 1 1))]) Sl.val fun t73 =>
        St (t66.add 1) (Sl.val t73) <|
        locks_Locks_Enter.s2 Q X1 l0_3 s1_3 tag6_3 t11_3 t12_3 t13_3)
        (Dr <|
        Nn l0_3 fun t44 =>
        Ld (t44.add 1) Value.map fun t46 =>
        LdN tag6_3 4 fun t47 =>
        DoU Tryz.prog (Instr.mapUpdate 151 (.map t46) (.agg t47) (.int .i64 1)) <|
        locks_Locks_Enter.s2 Q X1 (some t44) s1_3 tag6_3 t11_3 t12_3 t13_3)))
def locks_Locks_Enter.b1 (Q : K)  (X1 : Int → K) (l0_1 : (Option Addr)) (s1_1 : (Option Addr)) (tag6_1 : Addr) (t11_1 : Sl) (t12_1 : Int) (t13_1 : Int) : K :=
  Ite (decide (t13_1 < t12_1))
    (Idx t11_1 t13_1 3 fun t15 =>
    LdN t15 3 fun t16 =>
    New 105 #[(.string ⟨#[]⟩), (.int .i64 0), (.int .u64 0)] fun m9 =>
    StN m9 3 t16 <|
    Ld m9 Value.string fun t19 =>
    locks_Locks_gate.call l0_1 t19 fun t20 =>
    Dr <| WithS fun S =>
    Nn t20 fun t22 =>
    LdS S t22 Sl.val fun t24 =>
    LdNS S tag6_1 4 fun t25 =>
    locks_of.call t25 fun t26 =>
    Sv S <|
    slices_ContainsFunc_s_locks_claim_locks_claim.call t24 t26 fun t27 =>
    Sv S <|
    Ite t27
      (locks_Locks_Enter.s3 Q X1 l0_1 s1_1 tag6_1 m9 (some t22) t11_1 t12_1 t13_1 true)
      (LdS S (t22.add 1) Sl.val fun t32 =>
      LdNS S tag6_1 4 fun t33 =>
      locks_of.call t33 fun t34 =>
      Sv S <|
      slices_ContainsFunc_s_locks_claim_locks_claim.call t32 t34 fun t35 =>
      locks_Locks_Enter.s3 Q X1 l0_1 s1_1 tag6_1 m9 (some t22) t11_1 t12_1 t13_1 t35))
    (Q)
def locks_Locks_Enter (l0 : (Option Addr)) (s1 : (Option Addr)) (tag2 : (Array Value)) (marks3 : Sl) (Q : K) : K :=
  New 39 tag2 fun tag6 =>
  LoopK (α := Int) (fun X x => locks_Locks_Enter.b1 Q X l0 s1 tag6 marks3 (marks3.n : Int) x) 0
theorem locks_Locks_Enter_ok (l0 : (Option Addr)) (s1 : (Option Addr)) (tag2 : (Array Value)) (marks3 : Sl) (Q : K) (w : World) (h : locks_Locks_Enter l0 s1 tag2 marks3 Q w) : locks_Locks_Enter.call l0 s1 tag2 marks3 Q w := by
  have hJ12 : ∀ (X1 : Int → K), XH 2 X1 → JH 12 fun D => ∃ (l0_2 : (Option Addr)) (s1_2 : (Option Addr)) (tag6_2 : Addr) (t11_2 : Sl) (t12_2 : Int) (t13_2 : Int), D [(0, (.pointer l0_2)), (1, (.pointer s1_2)), (6, (.pointer (some tag6_2))), (11, (Sl.val t11_2)), (12, (.int .i64 t12_2)), (13, (.int .i64 t13_2))] (fun C => C [(0, (.pointer l0_2)), (1, (.pointer s1_2)), (6, (.pointer (some tag6_2))), (11, (Sl.val t11_2)), (12, (.int .i64 t12_2)), (13, (.int .i64 t13_2))] (locks_Locks_Enter.s2 Q X1 l0_2 s1_2 tag6_2 t11_2 t12_2 t13_2)) := by intros; exact ⟨fun _ ⟨_, _, _, _, _, _, h⟩ => ⟨_, _, h⟩⟩
  have hD9 : DH 9 2 [9, 12] (.s [0, 1, 2, 3, 4, 5, 6, 7] (.a [(8, 1, .a [(9, 0, .s [10, 11] (.a [(12, 0, .e)]))])])) := by intros; exact ⟨⟩
  have hD11 : DH 11 2 [9, 12] (.s [0, 1, 2, 3, 4, 5, 6, 7] (.a [(8, 1, .a [(9, 0, .s [10, 11] (.a [(12, 0, .e)]))])])) := by intros; exact ⟨⟩
  have hD7 : DH 7 1 [5] (.s [0, 1, 2, 3, 4] (.a [(5, 0, .e)])) := by intros; exact ⟨⟩
  have hD6 : DH 6 2 [5] (.s [0, 1, 2, 4] (.a [(3, 1, .a [(5, 0, .e)])])) := by intros; exact ⟨⟩
  have hJ1000005 : ∀ (X1 : Int → K), XH 2 X1 → JH 1000005 fun D => ∃ (l0_3 : (Option Addr)) (s1_3 : (Option Addr)) (tag6_3 : Addr) (m9_3 : Addr) (g10_3 : (Option Addr)) (t11_3 : Sl) (t12_3 : Int) (t13_3 : Int), D [(0, (.pointer l0_3)), (1, (.pointer s1_3)), (6, (.pointer (some tag6_3))), (9, (.pointer (some m9_3))), (10, (.pointer g10_3)), (11, (Sl.val t11_3)), (12, (.int .i64 t12_3)), (13, (.int .i64 t13_3))] (fun C => ∀ (t36_3 : Bool), C [(0, (.pointer l0_3)), (1, (.pointer s1_3)), (6, (.pointer (some tag6_3))), (9, (.pointer (some m9_3))), (10, (.pointer g10_3)), (11, (Sl.val t11_3)), (12, (.int .i64 t12_3)), (13, (.int .i64 t13_3)), (36, (.bool t36_3))] (locks_Locks_Enter.s3 Q X1 l0_3 s1_3 tag6_3 m9_3 g10_3 t11_3 t12_3 t13_3 t36_3)) := by intros; exact ⟨fun _ ⟨_, _, _, _, _, _, _, _, h⟩ => ⟨_, _, h⟩⟩
  have hD5 : DH 5 2 [14] (.s [0, 1, 2, 3, 4] (.a [(5, 1, .a [(6, 1, .s [7] (.i (.s [8, 9, 10, 11, 12, 13, 14, 15] .e) (.s [8, 9, 10, 11, 12] (.a [(13, 1, .a [(14, 0, .s [15] .e)])]))))])])) := by intros; exact ⟨⟩
  have hL2 : ∀ (l0_1 : (Option Addr)) (s1_1 : (Option Addr)) (tag6_1 : Addr) (t11_1 : Sl) (t12_1 : Int), LH 2 (fun x : Int => [(0, (.pointer l0_1)), (1, (.pointer s1_1)), (6, (.pointer (some tag6_1))), (11, (Sl.val t11_1)), (12, (.int .i64 t12_1)), (13, (.int .i64 x))]) (fun X x => locks_Locks_Enter.b1 Q X l0_1 s1_1 tag6_1 t11_1 t12_1 x) := by intros; exact ⟨⟩
  exact g_walk 77 h Tryz.func70
def locks_Locks_Moved.s2 (Q : K) (X1 : Int → K) (l3_2 : Addr) (g6_2 : Addr) (r7_2 : Addr) (t19_2 : Sl) (t20_2 : Int) (t21_2 : Int) : K :=
  Ar (IntKind.wrap .i64 (t21_2 + 1)) fun t36 =>
  X1 t36
def locks_Locks_Moved.b1 (Q : K)  (X1 : Int → K) (l3_1 : Addr) (g6_1 : Addr) (r7_1 : Addr) (t19_1 : Sl) (t20_1 : Int) (t21_1 : Int) : K :=
  Ite (decide (t21_1 < t20_1))
    (Idx t19_1 t21_1 7 fun t23 =>
    LdN t23 7 fun t24 =>
    New 167 #[(.int .i64 0), (.int .u64 0), (.int .u64 0), (.int .i64 0), (.string ⟨#[]⟩), (.int .i64 0), (.int .u64 0)] fun c9 =>
    StN c9 7 t24 <|
    LdN r7_1 4 fun t25 =>
    LdN (c9.add 4) 3 fun t27 =>
    route_Look.call t25 t27 fun t28 =>
    Ite (decide (t28 ≠ 0))
      (Dr <|
      Ld l3_1 Value.pointer fun t30 =>
      Nn t30 fun t31 =>
      Ld (t31.add 1) Value.map fun t33 =>
      LdN c9 4 fun t35 =>
      DoU Tryz.prog (Instr.mapUpdate 151 (.map t33) (.agg t35) (.int .i64 1)) <|
      locks_Locks_Moved.s2 Q X1 l3_1 g6_1 r7_1 t19_1 t20_1 t21_1)
      (locks_Locks_Moved.s2 Q X1 l3_1 g6_1 r7_1 t19_1 t20_1 t21_1))
    (Dr <| WithS fun S =>
    LdS S g6_1 Value.pointer fun t37 =>
    LdS S g6_1 Value.pointer fun t38 =>
    Nn t38 fun t39 =>
    LdS S (t39.add 1) Sl.val fun t41 =>
    slices_DeleteFunc_s_locks_claim_locks_claim.call t41 (.func (.func 110) #[] #[(.pointer (some r7_1)), (.pointer (some g6_1)), (.pointer (some l3_1))]) fun t43 =>
    Sv S <|
    Nn t37 fun t44 =>
    St (t44.add 1) (Sl.val t43) <|
    Q)
def locks_Locks_Moved (l0 : (Option Addr)) (s1 : (Option Addr)) (key2 : ByteArray) (Q : K) : K :=
  New 83 #[(.pointer l0)] fun l3 =>
  Ld l3 Value.pointer fun t10 =>
  locks_Locks_gate.call t10 key2 fun t12 =>
  store_Store_Get.call s1 key2 fun t15 =>
  New 159 #[(.pointer none)] fun g6 =>
  New 47 #[(.bool false), (Sl.val ⟨none, 0, 0⟩), (.int .i64 0), (.int .u64 0)] fun r7 =>
  St g6 (.pointer t12) <|
  StN r7 4 t15 <|
  Ld g6 Value.pointer fun t16 =>
  Nn t16 fun t17 =>
  Ld t17 Sl.val fun t19 =>
  LoopK (α := Int) (fun X x => locks_Locks_Moved.b1 Q X l3 g6 r7 t19 (t19.n : Int) x) 0
theorem locks_Locks_Moved_ok (l0 : (Option Addr)) (s1 : (Option Addr)) (key2 : ByteArray) (Q : K) (w : World) (h : locks_Locks_Moved l0 s1 key2 Q w) : locks_Locks_Moved.call l0 s1 key2 Q w := by
  have hJ7 : ∀ (X1 : Int → K), XH 3 X1 → JH 7 fun D => ∃ (l3_2 : Addr) (g6_2 : Addr) (r7_2 : Addr) (t19_2 : Sl) (t20_2 : Int) (t21_2 : Int), D [(3, (.pointer (some l3_2))), (6, (.pointer (some g6_2))), (7, (.pointer (some r7_2))), (19, (Sl.val t19_2)), (20, (.int .i64 t20_2)), (21, (.int .i64 t21_2))] (fun C => C [(3, (.pointer (some l3_2))), (6, (.pointer (some g6_2))), (7, (.pointer (some r7_2))), (19, (Sl.val t19_2)), (20, (.int .i64 t20_2)), (21, (.int .i64 t21_2))] (locks_Locks_Moved.s2 Q X1 l3_2 g6_2 r7_2 t19_2 t20_2 t21_2)) := by intros; exact ⟨fun _ ⟨_, _, _, _, _, _, h⟩ => ⟨_, _, h⟩⟩
  have hD6 : DH 6 1 [6] (.s [4, 0, 1, 2, 3, 5] (.a [(6, 0, .e)])) := by intros; exact ⟨⟩
  have hD8 : DH 8 2 [9] (.s [5, 0, 1, 2, 3, 4] (.a [(6, 1, .s [7, 8] (.a [(9, 0, .e)]))])) := by intros; exact ⟨⟩
  have hL3 : ∀ (l3_1 : Addr) (g6_1 : Addr) (r7_1 : Addr) (t19_1 : Sl) (t20_1 : Int), LH 3 (fun x : Int => [(3, (.pointer (some l3_1))), (6, (.pointer (some g6_1))), (7, (.pointer (some r7_1))), (19, (Sl.val t19_1)), (20, (.int .i64 t20_1)), (21, (.int .i64 x))]) (fun X x => locks_Locks_Moved.b1 Q X l3_1 g6_1 r7_1 t19_1 t20_1 x) := by intros; exact ⟨⟩
  exact g_walk 46 h Tryz.func74
def locks_Locks_Keys_1 (key0 : ByteArray) (t1 : Addr) (Q : Bool → K) : K :=
  Ld t1 Value.pointer fun t5 =>
  Nn t5 fun t6 =>
  Ld t6 Value.map fun t8 =>
  Rd Tryz.prog (Instr.lookup 150 (.map t8) (.string key0) false) Value.pointer fun t10 =>
  Dr <|
  Nn t10 fun t12 =>
  Ld t12 Sl.val fun t14 =>
  Ld (t12.add 1) Sl.val fun t19 =>
  Ar (IntKind.wrap .i64 ((t14.n : Int) + (t19.n : Int))) fun t21 =>
  Q (decide (t21 = 0))
theorem locks_Locks_Keys_1_ok (key0 : ByteArray) (t1 : Addr) (Q : Bool → K) (w : World) (h : locks_Locks_Keys_1 key0 t1 Q w) : locks_Locks_Keys_1.call key0 t1 Q w := by
  exact g_walk 23 h Tryz.func79
def locks_tags.b1 (Q : Sl → K)  (X1 : Sl → Int → K) (t5_1 : Sl) (t6_1 : Int) (out2_1 : Sl) (t7_1 : Int) : K :=
  Ite (decide (t7_1 < t6_1))
    (Idx t5_1 t7_1 7 fun t9 =>
    LdN t9 7 fun t10 =>
    New 167 #[(.int .i64 0), (.int .u64 0), (.int .u64 0), (.int .i64 0), (.string ⟨#[]⟩), (.int .i64 0), (.int .u64 0)] fun c4 =>
    StN c4 7 t10 <|
    LdN c4 4 fun t13 =>
    Bld #[(.int .i64 0), (.int .u64 0), (.int .u64 0), (.int .i64 0)] (fun i => some (i * 4, 4)) [(0, (.agg t13))] fun ct14 =>
    New 39 ct14 fun t14 =>
    Do Tryz.prog (Builtin.append_ #[88, 88] 88 #[(Sl.val out2_1), (Sl.val (Sl.mk (some t14) 1 1))]) Sl.val fun t15 =>
    Ar (IntKind.wrap .i64 (t7_1 + 1)) fun t16 =>
    X1 t15 t16)
    (Q out2_1)
def locks_tags (list0 : Sl) (Q : Sl → K) : K :=
  LoopK (α := Sl × Int) (fun X x => locks_tags.b1 Q (fun out2_1 t7_1 => X (out2_1, t7_1)) list0 (list0.n : Int) x.1 x.2) ((Sl.mk none 0 0), 0)
theorem locks_tags_ok (list0 : Sl) (Q : Sl → K) (w : World) (h : locks_tags list0 Q w) : locks_tags.call list0 Q w := by
  have hL2 : ∀ (t5_1 : Sl) (t6_1 : Int), LH 2 (fun x : Sl × Int => [(2, (Sl.val x.1)), (5, (Sl.val t5_1)), (6, (.int .i64 t6_1)), (7, (.int .i64 x.2))]) (fun X x => locks_tags.b1 Q (fun out2_1 t7_1 => X (out2_1, t7_1)) t5_1 t6_1 x.1 x.2) := by intros; exact ⟨⟩
  exact g_walk 18 h Tryz.func80
def locks_of (tag0 : (Array Value)) (Q : Value → K) : K :=
  New 39 tag0 fun tag1 =>
  Q (.func (.func 116) #[] #[(.pointer (some tag1))])
theorem locks_of_ok (tag0 : (Array Value)) (Q : Value → K) (w : World) (h : locks_of tag0 Q w) : locks_of.call tag0 Q w := by
  exact g_walk 4 h Tryz.func82
def locks_Locks_gate.s1 (Q : (Option Addr) → K)  (l0_1 : (Option Addr)) (key1_1 : ByteArray) : K :=
  Nn l0_1 fun t20 =>
  Ld t20 Value.map fun t22 =>
  Rd Tryz.prog (Instr.lookup 150 (.map t22) (.string key1_1) false) Value.pointer fun t24 =>
  Q t24
def locks_Locks_gate (l0 : (Option Addr)) (key1 : ByteArray) (Q : (Option Addr) → K) : K :=
  Nn l0 fun t6 =>
  Ld t6 Value.map fun t8 =>
  Rd Tryz.prog (Instr.lookup 150 (.map t8) (.string key1) false) Value.pointer fun t10 =>
  Ite ((t10).isNone)
    (Ld t6 Value.map fun t15 =>
    New 162 #[(Sl.val ⟨none, 0, 0⟩), (Sl.val ⟨none, 0, 0⟩)] fun t18 =>
    DoU Tryz.prog (Instr.mapUpdate 150 (.map t15) (.string key1) (.pointer (some t18))) <|
    locks_Locks_gate.s1 Q (some t6) key1)
    (locks_Locks_gate.s1 Q (some t6) key1)
theorem locks_Locks_gate_ok (l0 : (Option Addr)) (key1 : ByteArray) (Q : (Option Addr) → K) (w : World) (h : locks_Locks_gate l0 key1 Q w) : locks_Locks_gate.call l0 key1 Q w := by
  have hJ3 : JH 3 fun D => ∃ (l0_1 : (Option Addr)) (key1_1 : ByteArray), D [(0, (.pointer l0_1)), (1, (.string key1_1))] (fun C => C [(0, (.pointer l0_1)), (1, (.string key1_1))] (locks_Locks_gate.s1 Q l0_1 key1_1)) := by intros; exact ⟨fun _ ⟨_, _, h⟩ => ⟨_, _, h⟩⟩
  exact g_walk 25 h Tryz.func108
def locks_Locks_Moved_1.s1 (Q : Bool → K)  (how6_1 : Int) : K :=
  Q (decide (how6_1 ≠ 1))
def locks_Locks_Moved_1 (c0 : (Array Value)) (t1 : Addr) (t2 : Addr) (t3 : Addr) (Q : Bool → K) : K :=
  New 167 c0 fun c4 =>
  LdN t1 4 fun t7 =>
  LdN (c4.add 4) 3 fun t9 =>
  route_Look.call t7 t9 fun t10 =>
  Ite (decide (t10 = 0))
    (Dr <| WithS fun S =>
    LdS S t2 Value.pointer fun t14 =>
    LdS S t2 Value.pointer fun t15 =>
    Nn t15 fun t16 =>
    LdS S t16 Sl.val fun t18 =>
    LdNS S c4 7 fun t19 =>
    Bld #[(.int .i64 0), (.int .u64 0), (.int .u64 0), (.int .i64 0), (.string ⟨#[]⟩), (.int .i64 0), (.int .u64 0)] (fun i => some (i * 7, 7)) [(0, (.agg t19))] fun ct20 =>
    New 167 ct20 fun t20 =>
    Sv S <|
    Do Tryz.prog (Builtin.append_ #[160, 160] 160 #[(Sl.val t18), (Sl.val (Sl.mk (some t20) 1 1))]) Sl.val fun t21 =>
    Sv S <|
    Nn t14 fun t22 =>
    St t22 (Sl.val t21) <|
    locks_Locks_Moved_1.s1 Q t10)
    (Ite (decide (t10 = 2))
      (Dr <|
      Ld t3 Value.pointer fun t26 =>
      Nn t26 fun t27 =>
      Ld (t27.add 1) Value.map fun t29 =>
      LdN c4 4 fun t31 =>
      DoU Tryz.prog (Instr.mapUpdate 151 (.map t29) (.agg t31) (.int .i64 1)) <|
      locks_Locks_Moved_1.s1 Q t10)
      (locks_Locks_Moved_1.s1 Q t10))
theorem locks_Locks_Moved_1_ok (c0 : (Array Value)) (t1 : Addr) (t2 : Addr) (t3 : Addr) (Q : Bool → K) (w : World) (h : locks_Locks_Moved_1 c0 t1 t2 t3 Q w) : locks_Locks_Moved_1.call c0 t1 t2 t3 Q w := by
  have hJ7 : JH 7 fun D => ∃ (how6_1 : Int), D [(6, (.int .i64 how6_1))] (fun C => C [(6, (.int .i64 how6_1))] (locks_Locks_Moved_1.s1 Q how6_1)) := by intros; exact ⟨fun _ ⟨_, h⟩ => ⟨_, _, h⟩⟩
  have hD4 : DH 4 2 [10] (.s [0, 1, 2, 3, 4, 5] (.a [(6, 1, .a [(7, 1, .s [8, 9] (.a [(10, 0, .e)]))])])) := by intros; exact ⟨⟩
  have hD6 : DH 6 1 [6] (.s [4, 0, 1, 2, 3, 5] (.a [(6, 0, .e)])) := by intros; exact ⟨⟩
  exact g_walk 34 h Tryz.func110
def locks_of_1 (c0 : (Array Value)) (t1 : Addr) (Q : Bool → K) : K :=
  New 167 c0 fun c2 =>
  LdN c2 4 fun t5 =>
  LdN t1 4 fun t6 =>
  Pu Tryz.prog (do eqGuard .eql 39 (.tmp 5) (.tmp 6) (.agg t5) (.agg t6); binOp .eql 39 (.agg t5) (.agg t6) : Sem Value) Value.bool fun t7 =>
  Q t7
theorem locks_of_1_ok (c0 : (Array Value)) (t1 : Addr) (Q : Bool → K) (w : World) (h : locks_of_1 c0 t1 Q w) : locks_of_1.call c0 t1 Q w := by
  exact g_walk 8 h Tryz.func116
end Go.Proofs.YtfjjocopmknhgaaGreat
/- Locks: gates and claims; Enter, Doomed, Leave. -/
namespace Go.Proofs.YtfjjocopmknhgaaGreat
open Go Go.Sep Go.Sep.Bt
set_option linter.unusedSimpArgs false
set_option linter.unusedVariables false
set_option linter.unusedSectionVars false
set_option maxRecDepth 100000

structure TagM where
  node : Int
  epoch : Int
  seq : Int
  tr : Int
deriving DecidableEq
abbrev tagF (t : TagM) : List Value := [.int .i64 t.node, .int .u64 t.epoch, .int .u64 t.seq, .int .i64 t.tr]
structure MarkM where
  key : List UInt8
  home : Int
  cnt : Int
deriving DecidableEq
abbrev markF (m : MarkM) : List Value := [strV m.key, .int .i64 m.home, .int .u64 m.cnt]
abbrev Claim := TagM × MarkM
abbrev clF (c : Claim) : List Value := [.int .i64 c.1.node, .int .u64 c.1.epoch, .int .u64 c.1.seq, .int .i64 c.1.tr, strV c.2.key, .int .i64 c.2.home, .int .u64 c.2.cnt]
theorem clF_len (c : Claim) : (clF c).length = 7 := rfl
theorem markF_len (c : MarkM) : (markF c).length = 3 := rfl
theorem tagF_len (c : TagM) : (tagF c).length = 4 := rfl
theorem clF_fl (L : List Claim) : ∀ v ∈ L.flatMap clF, flatV v = true := fun v hv => by
  obtain ⟨x, _, hx⟩ := List.mem_flatMap.1 hv
  simp only [clF, List.mem_cons, List.not_mem_nil, or_false] at hx
  rcases hx with rfl | rfl | rfl | rfl | rfl | rfl | rfl <;> rfl
theorem tagF_inj {a b : TagM} : tagF a = tagF b ↔ a = b := by
  cases a; cases b; simp [tagF]
theorem mapFD : Tryz.prog.underlying ty_map_api_Tag_int = some (.map ty_api_Tag ty_int) := by kernel_rfl
abbrev tagK : List Ck := [.int .i64, .int .u64, .int .u64, .int .i64]
theorem keyS_tag : KeyS Tryz.prog ty_api_Tag tagF := ⟨by kernel_rfl, ⟨tagK, by kernel_rfl, fun _ => rfl⟩, fun a b h => tagF_inj.1 h, fun a => by simp [Instr.sameBits]⟩

/-! ### the model -/
abbrev GM := List (List UInt8 × (List Claim × List Claim))
abbrev DM := TagM → Bool
abbrev KeysU {ν : Type} (W : List (List UInt8 × ν)) : Prop := (W.map Prod.fst).Nodup
def gateM (k : List UInt8) (M : GM) : GM := if (mget k M).isNone then M ++ [(k, ([], []))] else M
def atM (k : List UInt8) (M : GM) : List Claim × List Claim := (mget k M).getD ([], [])
def hasT (tag : TagM) (L : List Claim) : Bool := L.any fun c => decide (c.1 = tag)
def dset (dm : DM) (tag : TagM) (b : Bool) : DM := fun t => if t = tag then b else dm t
def markLook (n : Nat) (S : Recs) (m : MarkM) : Int := lookS (sGet n S (bs m.key)).cnt m.cnt (sGet n S (bs m.key)).home m.home
def enter1 (n : Nat) (S : Recs) (tag : TagM) (x : GM × DM) (m : MarkM) : GM × DM :=
  if hasT tag (atM m.key x.1).1 || hasT tag (atM m.key x.1).2 then (gateM m.key x.1, x.2)
  else if markLook n S m = 0 then (mset m.key ((atM m.key x.1).1 ++ [(tag, m)], (atM m.key x.1).2) (gateM m.key x.1), x.2)
  else if markLook n S m = 1 then (mset m.key ((atM m.key x.1).1, (atM m.key x.1).2 ++ [(tag, m)]) (gateM m.key x.1), x.2)
  else (gateM m.key x.1, dset x.2 tag true)
def enterM (n : Nat) (S : Recs) (tag : TagM) (ms : List MarkM) (x : GM × DM) : GM × DM := ms.foldl (enter1 n S tag) x
def noT (tag : TagM) (L : List Claim) : List Claim := L.filter fun c => !decide (c.1 = tag)
def leaveM (tag : TagM) (x : GM × DM) : GM × DM := (x.1.map fun p => (p.1, (noT tag p.2.1, noT tag p.2.2)), dset x.2 tag false)
/-- How much there is. -/
def gsz (M : GM) (N : Nat) : Prop := M.length ≤ N ∧ ∀ p ∈ M, p.2.1.length ≤ N ∧ p.2.2.length ≤ N
theorem gsz_le {M : GM} {a b : Nat} (h : gsz M a) (hab : a ≤ b) : gsz M b := ⟨by have := h.1; omega, fun p hp => by have := h.2 p hp; omega⟩
theorem gsz_at {M : GM} {k : List UInt8} {N : Nat} (h : gsz M N) : (atM k M).1.length ≤ N ∧ (atM k M).2.length ≤ N := by
  unfold atM
  cases hm : mget k M with
  | none => simp
  | some v => exact h.2 _ (mget_some hm)
theorem gsz_gate {M : GM} {k : List UInt8} {N : Nat} (h : gsz M N) : gsz (gateM k M) (N + 1) := by
  unfold gateM
  split
  · refine ⟨by simp; exact h.1, fun p hp => ?_⟩
    rcases List.mem_append.1 hp with hp | hp
    · have := h.2 p hp; omega
    · rw [List.mem_singleton.1 hp]; simp
  · exact gsz_le h (by omega)
theorem mset_len {M : GM} {k : List UInt8} {v : List Claim × List Claim} (h : (mget k M).isSome = true) : (mset k v M).length = M.length := by
  rcases mfind k M with ⟨h1, _⟩ | ⟨j, x, hj, _, _, _, h2, _⟩
  · rw [h1] at h; cases h
  · rw [h2]; simp
theorem gate_some {M : GM} {k : List UInt8} : (mget k (gateM k M)).isSome = true := by
  unfold gateM
  split
  · rename_i h
    have h' : mget k M = none := by simpa using h
    have := mset_none (v := ([], [])) h'
    rw [← this, mget_mset]; simp
  · rename_i h; simpa [Option.isNone_iff_eq_none, Option.isSome_iff_ne_none] using h
theorem mem_mset {ν : Type} {M : List (List UInt8 × ν)} {k : List UInt8} {v : ν} {p : List UInt8 × ν} (h : p ∈ mset k v M) : p = (k, v) ∨ p ∈ M := by
  rcases mfind k M with ⟨_, h2, _⟩ | ⟨j, x, hj, _, _, _, h2, _⟩
  · rw [h2] at h
    rcases List.mem_append.1 h with h | h
    · exact .inr h
    · exact .inl (List.mem_singleton.1 h)
  · rw [h2] at h
    rcases List.mem_or_eq_of_mem_set h with h | h
    · exact .inr h
    · exact .inl h
theorem gsz_mset {M : GM} {k : List UInt8} {v : List Claim × List Claim} {N : Nat} (h : gsz M N) (hs : (mget k M).isSome = true) (h1 : v.1.length ≤ N) (h2 : v.2.length ≤ N) : gsz (mset k v M) N :=
  ⟨by rw [mset_len hs]; exact h.1, fun p hp => by
    rcases mem_mset hp with rfl | hp
    · exact ⟨h1, h2⟩
    · exact h.2 p hp⟩
theorem gsz_enter {n : Nat} {S : Recs} {tag : TagM} {x : GM × DM} {m : MarkM} {N : Nat} (h : gsz x.1 N) : gsz (enter1 n S tag x m).1 (N + 1) := by
  have h1 := gsz_gate (k := m.key) h
  have h2 := gsz_at (k := m.key) h
  unfold enter1
  split
  · exact h1
  · split
    · exact gsz_mset h1 gate_some (by simp; omega) (by simp only; omega)
    · split
      · exact gsz_mset h1 gate_some (by simp only; omega) (by simp; omega)
      · exact h1
theorem gate_keys {ν : Type} {M : List (List UInt8 × ν)} {k : List UInt8} {v : ν} (h : KeysU M) (hk : mget k M = none) : KeysU (M ++ [(k, v)]) := by
  have e := mset_none (v := v) hk
  have h2 := mset_keys M k v
  unfold KeysU
  rw [← e, h2]
  split
  · exact h
  · rename_i hk
    refine List.nodup_append.2 ⟨h, by simp, fun a ha b hb => ?_⟩
    rw [List.mem_singleton.1 hb]
    exact fun e => hk (e ▸ ha)
theorem mget_split {ν : Type} {M : List (List UInt8 × ν)} {k : List UInt8} {v : ν} (h : mget k M = some v) : ∃ A C, M = A ++ (k, v) :: C := by
  induction M with
  | nil => cases h
  | cons p M ih =>
    unfold mget at h
    split at h
    · rename_i e; injection h with h; exact ⟨[], M, by rw [e, ← h]; rfl⟩
    · obtain ⟨A, C, rfl⟩ := ih h; exact ⟨p :: A, C, rfl⟩
theorem once_mid {ν : Type} {A C : List (List UInt8 × ν)} {k : List UInt8} {v : ν} (h : KeysU (A ++ (k, v) :: C)) : (∀ p ∈ A, p.1 ≠ k) ∧ ∀ p ∈ C, p.1 ≠ k := by
  unfold KeysU at h
  rw [List.map_append, List.map_cons] at h
  obtain ⟨_, h2, h3⟩ := List.nodup_append.1 h
  refine ⟨fun p hp => h3 _ (List.mem_map.2 ⟨p, hp, rfl⟩) _ List.mem_cons_self, fun p hp e => (List.nodup_cons.1 h2).1 (e ▸ List.mem_map.2 ⟨p, hp, rfl⟩)⟩
theorem mget_mid {ν : Type} {A C : List (List UInt8 × ν)} {k : List UInt8} {v : ν} (h : ∀ p ∈ A, p.1 ≠ k) : mget k (A ++ (k, v) :: C) = some v := by
  induction A with
  | nil => simp [mget]
  | cons p A ih =>
    rw [List.cons_append, mget, if_neg (fun e => h p List.mem_cons_self e.symm)]
    exact ih fun q hq => h q (List.mem_cons_of_mem _ hq)
theorem mset_mid {ν : Type} {A C : List (List UInt8 × ν)} {k : List UInt8} {v v' : ν} (h : ∀ p ∈ A, p.1 ≠ k) : mset k v' (A ++ (k, v) :: C) = A ++ (k, v') :: C := by
  induction A with
  | nil => simp [mset]
  | cons p A ih =>
    rw [List.cons_append, mset, if_neg (fun e => h p List.mem_cons_self e.symm), ih fun q hq => h q (List.mem_cons_of_mem _ hq)]
    rfl

/-! ### what is owned -/
structure GateX where
  b : Nat
  ls : Sl
  ps : Sl
  line : List Claim
  park : List Claim
abbrev gV (g : GateX) : Value := .pointer (some ⟨g.b, 0, none⟩)
abbrev gL (g : GateX) (Γ : List HProp) : List HProp := blk g.b (.cells [g.ls.val, g.ps.val].toArray ty_locks_gate (0, 0)) :: SlC ty_locks_claim 7 g.ls (g.line.flatMap clF) :: SlC ty_locks_claim 7 g.ps (g.park.flatMap clF) :: Γ
abbrev gB (x : List UInt8 × GateX) : HProp := Sep.stars (gL x.2 [])
abbrev GX := List (List UInt8 × GateX)
abbrev modG (X : GX) : GM := X.map fun p => (p.1, (p.2.line, p.2.park))
abbrev lockF (l gm db : Nat) (X Y : GX) (D : List (TagM × Int)) (Γ : List HProp) : List HProp :=
  blk l (.cells [.map (some gm), .map (some db)].toArray ty_locks_Locks (0, 0)) :: MapR strV gV gm X :: Sep.stars (Y.map gB) :: MapR (kyS tagF) (Value.int .i64) db D :: Γ
structure LF (M : GM) (dm : DM) (X : GX) (D : List (TagM × Int)) : Prop where
  mod : modG X = M
  once : KeysU X
  doom : ∀ t, dm t = decide (0 < (mget t D).getD 0)
  nd : (D.map Prod.fst).Nodup
def LocksR (l : Nat) (M : GM) (dm : DM) : HProp := ex fun gm => ex fun db => ex fun X : GX => ex fun D => Sep.stars (pur (LF M dm X D) :: lockF l gm db X X D [])
section
variable {B : World} {Γ Δ : List HProp} {k : K} {l gm db st n : Nat} {M : GM} {dm : DM} {X : GX} {D : List (TagM × Int)} {S : Recs} {tag : TagM}
instance (priority := high) own_locks : Sep.Own l (LocksR l M dm :: Γ) (LocksR l M dm) Γ := ⟨.refl _⟩
theorem s_locks (h : ∀ gm db X D, LF M dm X D → HG B (lockF l gm db X X D Γ) k) : HG B (LocksR l M dm :: Γ) k :=
  s_ex fun gm => s_ex fun db => s_ex fun X => s_ex fun D => s_flat <| s_pur fun h1 => h gm db X D h1
theorem s_mkLocks (h1 : LF M dm X D) (h : HG B (LocksR l M dm :: Γ) k) : HG B (lockF l gm db X X D Γ) k := fun w hw => by
  refine h w ?_
  have h3 : Holds B (Sep.stars (pur (LF M dm X D) :: lockF l gm db X X D []) :: Γ) w := Holds.flat.2 (Holds.pur.2 ⟨h1, hw⟩)
  exact h3.imp fun g hg => ⟨gm, db, X, D, hg⟩
theorem mapR_cong {α β : Type} [DecidableEq α] {enc : α → Value} {cV : β → Value} {b : Nat} {m m' : List (α × β)} (h : (m.map fun p => (enc p.1, cV p.2)) = m'.map fun p => (enc p.1, cV p.2)) : ∀ g, MapR enc cV b m g → MapR enc cV b m' g := fun g hg => by
  obtain ⟨es, c, ⟨h1, h2⟩, h3⟩ := hg
  exact ⟨es, c, ⟨by unfold mrel at h1 ⊢; rw [h1, h], h2⟩, h3⟩
/-- One gate is looked at. -/
theorem s_gate {A C : GX} {key : List UInt8} {g : GateX} (hX : X = A ++ (key, g) :: C) (h : HG B (gL g (lockF l gm db X (A ++ C) D Γ)) k) : HG B (lockF l gm db X X D Γ) k := by
  refine s_pick (Sep.stars (X.map gB)) ?_
  rw [show Sep.stars (X.map gB) = Sep.stars ((A ++ (key, g) :: C).map gB) by rw [hX]]
  refine s_mid ?_
  refine s_flat ?_
  show HG B (gL g (_ :: _ :: _ :: _ :: Γ)) k
  exact s_end h
theorem s_ungate {A C : GX} {key : List UInt8} {g g' : GateX} {dm' : DM} {D' : List (TagM × Int)} (hX : X = A ++ (key, g) :: C) (hb : g'.b = g.b) (hf : LF M dm X D) (hd : (∀ t, dm' t = decide (0 < (mget t D').getD 0)) ∧ (D'.map Prod.fst).Nodup)
    (h : HG B (LocksR l (mset key (g'.line, g'.park) M) dm' :: Γ) k) : HG B (gL g' (lockF l gm db X (A ++ C) D' Γ)) k := by
  have ho := hf.once
  rw [hX] at ho
  have hA := (once_mid ho).1
  refine s_unflat (Δ := gL g' []) ?_
  refine s_pick (Sep.stars ((A ++ C).map gB)) ?_
  refine s_pick (Sep.stars (gL g' [])) ?_
  refine s_unmid (F := gB) (x := (key, g')) ?_
  refine s_pick (MapR strV gV gm X) ?_
  refine s_conv (mapR_cong (m' := A ++ (key, g') :: C) ?_) ?_
  · rw [hX]; simp [gV, hb]
  refine s_pick (MapR (kyS tagF) (Value.int .i64) db D') ?_
  refine s_pick (Sep.stars ((A ++ (key, g') :: C).map gB)) ?_
  refine s_pick (MapR strV gV gm (A ++ (key, g') :: C)) ?_
  refine s_own l ?_
  refine s_mkLocks ⟨?_, ?_, hd.1, hd.2⟩ h
  · rw [← hf.mod, hX]
    simp only [modG, List.map_append, List.map_cons]
    rw [mset_mid]
    intro p hp
    obtain ⟨q, hq, rfl⟩ := List.mem_map.1 hp
    exact hA q hq
  · unfold KeysU at ho ⊢
    simpa using ho
theorem lf_at {A C : GX} {key : List UInt8} {g : GateX} (hX : X = A ++ (key, g) :: C) (hf : LF M dm X D) : atM key M = (g.line, g.park) := by
  have ho := hf.once
  rw [hX] at ho
  unfold atM
  rw [← hf.mod, hX]
  simp only [modG, List.map_append, List.map_cons]
  rw [mget_mid]; rfl
  intro p hp
  obtain ⟨q, hq, rfl⟩ := List.mem_map.1 hp
  exact (once_mid ho).1 q hq
abbrev g0 (gb : Nat) : GateX := ⟨gb, ⟨none, 0, 0⟩, ⟨none, 0, 0⟩, [], []⟩
theorem zero_gate : zeroT Tryz.prog ty_p_locks_gate (.pointer none) := zero_ty_p_locks_gate
/-- A key's gate. -/
theorem gate_hg {key : List UInt8} {Q : Option Addr → K} (h : ∀ gm db X D A g C, LF (gateM key M) dm X D → X = A ++ (key, g) :: C → HG B (gL g (lockF l gm db X (A ++ C) D Γ)) (Q (some ⟨g.b, 0, none⟩))) :
    HG B (LocksR l M dm :: Γ) (locks_Locks_gate.call (some ⟨l, 0, none⟩) (bs key) Q) := by
  refine fun w hw => locks_Locks_gate_ok _ _ _ _ ?_
  refine hg hw ?_
  clear hw w
  refine s_locks fun gm db X D hf => ?_
  unfold locks_Locks_gate
  repeat refine s_nx ?_
  have hl : ∀ {Γ : List HProp} {q : Option Addr → K} {X : GX} {Δ : List HProp} [p : Sep.Own gm Γ (MapR strV gV gm X) Δ], HG B Γ (q ((mget key X).map fun g => ⟨g.b, 0, none⟩)) → HG B Γ (Rd Tryz.prog (Instr.lookup ty_map_string_p_locks_gate (.map (some gm)) (strV key) false) Value.pointer q) := fun {Γ q X Δ p} h w hw => by
    obtain ⟨es, c, ⟨hr, hst⟩, h1⟩ := MapR.opens (hw.perm p.perm)
    have := run_lookZ (a := key) mapFL keyE_str zero_gate h1.block hr false
    refine ⟨(mget key X).map fun g => ⟨g.b, 0, none⟩, ?_, h w hw⟩
    rw [this]
    cases mget key X <;> rfl
  have fin : ∀ {Γ : List HProp} (M2 : GM) (X : GX) (g : GateX), mget key X = some g → LF M2 dm X D → (∀ A C, X = A ++ (key, g) :: C → HG B (gL g (lockF l gm db X (A ++ C) D Γ)) (Q (some ⟨g.b, 0, none⟩))) → HG B (lockF l gm db X X D Γ) (locks_Locks_gate.s1 Q (some ⟨l, 0, none⟩) (bs key)) := fun M2 X g hg hf hk => by
    unfold locks_Locks_gate.s1
    repeat refine s_nx ?_
    refine hl (X := X) ?_
    rw [hg]
    obtain ⟨A, C, hX⟩ := mget_split hg
    exact s_gate hX (hk A C hX)
  refine hl (X := X) ?_
  have hmm : mget key M = (mget key X).map fun g => (g.line, g.park) := by rw [← hf.mod]; exact mget_map (fun g : GateX => (g.line, g.park)) key X
  cases hm : mget key X with
  | none =>
    rw [hm] at hmm
    have hgm : gateM key M = M ++ [(key, ([], []))] := by unfold gateM; rw [hmm]; rfl
    rw [hgm] at h
    refine s_t ?_
    repeat refine s_nx ?_
    refine s_new fun gb => ?_
    refine s_upd (cG := Value.bool) (b := gm) (enc := strV) (cV := gV) (v := g0 gb) rfl mapFL keyE_str ?_
    have hms := mset_none (v := g0 gb) hm
    rw [hms]
    refine fun w hw => ?_
    refine hg (show Holds B (SlC ty_locks_claim 7 ⟨none, 0, 0⟩ [] :: _) w from hw.nilSl _ _) ?_
    clear hw w
    refine fun w hw => ?_
    refine hg (show Holds B (SlC ty_locks_claim 7 ⟨none, 0, 0⟩ [] :: _) w from hw.nilSl _ _) ?_
    clear hw w
    refine s_own gb ?_
    show HG B (gL (g0 gb) (MapR strV gV gm (X ++ [(key, g0 gb)]) :: blk l (.cells [.map (some gm), .map (some db)].toArray ty_locks_Locks (0, 0)) :: Sep.stars (X.map gB) :: MapR (kyS tagF) (Value.int .i64) db D :: Γ)) _
    refine s_unflat (Δ := gL (g0 gb) []) ?_
    refine s_pick (Sep.stars (X.map gB)) ?_
    refine s_pick (Sep.stars (gL (g0 gb) [])) ?_
    rw [show Sep.stars (X.map gB) = Sep.stars ((X ++ []).map gB) by rw [List.append_nil]]
    refine s_unmid (F := gB) (x := (key, g0 gb)) ?_
    refine s_own db ?_
    refine s_pick (Sep.stars ((X ++ [(key, g0 gb)]).map gB)) ?_
    refine s_own gm ?_
    refine s_own l ?_
    have hf' : LF (M ++ [(key, ([], []))]) dm (X ++ [(key, g0 gb)]) D := ⟨by simp [modG, ← hf.mod], gate_keys hf.once hm, hf.doom, hf.nd⟩
    refine fin _ _ (g0 gb) ?_ hf' fun A C hX => h gm db _ D A _ C hf' hX
    rw [← hms, mget_mset]; simp
  | some g =>
    rw [hm] at hmm
    have hgm : gateM key M = M := by unfold gateM; rw [hmm]; rfl
    rw [hgm] at h
    refine s_f ?_
    exact fin M X g hm hf fun A C hX => h gm db X D A g C hf hX

/-! ### of -/
abbrev ofV (b : Nat) : Value := .func (.func 116) #[] #[.pointer (some ⟨b, 0, none⟩)]
theorem ofCall_hg {Q : Value → K} (h : ∀ b, HG B (blk b (.cells (tagF tag).toArray ty_api_Tag (0, 0)) :: Γ) (Q (ofV b))) : HG B Γ (locks_of.call (tagF tag).toArray Q) := by
  refine fun w hw => locks_of_ok _ _ _ ?_
  refine hg hw ?_
  clear hw w
  unfold locks_of
  exact s_new fun b => h b
theorem of_hg {b : Nat} {c : Claim} {q : Bool → K} (h : HG B Γ (q (decide (c.1 = tag)))) [p : Sep.Own b Γ (blk b (.cells (tagF tag).toArray ty_api_Tag (0, 0))) Δ] :
    HG B Γ (CallV Tryz.prog (ofV b) [.agg (clF c).toArray] (Ans1 (fun (t : Bool) => Value.bool t) q)) := by
  refine s_callvC (cs := [.pointer (some ⟨b, 0, none⟩)]) ?_
  refine fun w hw => locks_of_1_ok _ _ _ _ ?_
  refine hg hw ?_
  clear hw w
  unfold locks_of_1
  refine s_new fun c2 => ?_
  repeat refine s_nx ?_
  refine s_eqS (xs := tagF c.1) (ys := tagF tag) (ks := tagK) tagF_inj ?_
  exact s_end h
theorem indexC {s : Sl} {L : List Claim} {b : Nat} {Δ2 : List HProp} {Q : Int → K} (hL : L.length < 1000000000) (h : HG B Γ (Q (idxI (L.findIdx? fun c => decide (c.1 = tag))))) [o : OwnS s Γ (SlC ty_locks_claim 7 s (L.flatMap clF)) Δ2] [p : Sep.Own b Γ (blk b (.cells (tagF tag).toArray ty_api_Tag (0, 0))) Δ] :
    HG B Γ (slices_IndexFunc_s_locks_claim_locks_claim.call s (ofV b) Q) := by
  refine s_cap s fun a1 a2 a3 a4 => ?_
  rw [flatMap_len _ 7 clF_len] at a1
  refine fun w hw => slices_IndexFunc_s_locks_claim_locks_claim_ok _ _ _ _ ?_
  refine hg hw ?_
  clear hw w
  show HG B Γ (idxFK Tryz.prog (accN 7) s (ofV b) Q)
  exact s_idxFp (vV := fun c => .agg (clF c).toArray) (L := L) (fun c => decide (c.1 = tag)) (by omega) hL (fun i x k hx hk => acc_own (s := s) clF_len (by omega) hx hk) (fun x q _ hq => of_hg hq) h
theorem containsC {s : Sl} {L : List Claim} {b : Nat} {Δ2 : List HProp} {Q : Bool → K} (hL : L.length < 1000000000) (h : HG B Γ (Q (hasT tag L))) [o : OwnS s Γ (SlC ty_locks_claim 7 s (L.flatMap clF)) Δ2] [p : Sep.Own b Γ (blk b (.cells (tagF tag).toArray ty_api_Tag (0, 0))) Δ] :
    HG B Γ (slices_ContainsFunc_s_locks_claim_locks_claim.call s (ofV b) Q) := by
  refine fun w hw => slices_ContainsFunc_s_locks_claim_locks_claim_ok _ _ _ _ ?_
  refine hg hw ?_
  clear hw w
  unfold slices_ContainsFunc_s_locks_claim_locks_claim
  refine indexC (tag := tag) (L := L) hL ?_
  rw [idxI_nonneg, any_idx]
  exact h
theorem deleteC {s : Sl} {L : List Claim} {b : Nat} {Q : Sl → K} (hL : L.length < 1000000000) (h : ∀ s', HG B (SlC ty_locks_claim 7 s' ((noT tag L).flatMap clF) :: Γ) (Q s')) [p : Sep.Own b Γ (blk b (.cells (tagF tag).toArray ty_api_Tag (0, 0))) Δ] :
    HG B (SlC ty_locks_claim 7 s (L.flatMap clF) :: Γ) (slices_DeleteFunc_s_locks_claim_locks_claim.call s (ofV b) Q) := by
  refine fun w hw => slices_DeleteFunc_s_locks_claim_locks_claim_ok _ _ _ _ ?_
  refine hg hw ?_
  clear hw w
  show HG B _ (delFN Tryz.prog slices_IndexFunc_s_locks_claim_locks_claim.call ty_locks_claim ty_s_locks_claim 0 7 [(.int .i64 0), (.int .u64 0), (.int .u64 0), (.int .i64 0), (.string ⟨#[]⟩), (.int .i64 0), (.int .u64 0)] s (ofV b) Q)
  refine s_delFN (R := fun _ => Γ) (L := L) (f := clF) (fun (_ : Unit) c => decide (c.1 = tag)) (fun _ _ => ()) () (fun _ _ => True) trivial (fun _ _ _ _ => trivial) (fun s fv Q w h => slices_IndexFunc_s_locks_claim_locks_claim_ok _ _ _ _ h) clF_len (by omega) (fun _ => rfl) rfl hL (fun Ξ g x C q _ _ hq => of_hg hq) fun s' _ => ?_
  rw [delG_pure]
  exact h s'

/-! ### Enter -/
theorem locksNew_hg {Q : Option Addr → K} (h : ∀ l, HG B (LocksR l [] (fun _ => false) :: Γ) (Q (some ⟨l, 0, none⟩))) : HG B Γ (locks_New.call Q) := by
  refine fun w hw => locks_New_ok _ _ ?_
  refine hg hw ?_
  clear hw w
  unfold locks_New
  refine s_mkMap (enc := strV) (cV := gV) fun gm => ?_
  refine s_mkMap (enc := kyS tagF) (cV := Value.int .i64) fun db => ?_
  refine s_new fun l => ?_
  refine fun w hw => ?_
  refine hg (show Holds B (Sep.stars (([] : GX).map gB) :: _) w from Holds.flat.2 hw) ?_
  clear hw w
  refine s_own db ?_
  refine s_pick (Sep.stars (([] : GX).map gB)) ?_
  refine s_own gm ?_
  refine s_own l ?_
  exact s_mkLocks ⟨rfl, by simp [KeysU], fun t => by simp [mget], by simp⟩ (h l)
theorem doom_set (hf : ∀ t, dm t = decide (0 < (mget t D).getD 0)) : ∀ t, dset dm tag true t = decide (0 < (mget t (mset tag 1 D)).getD 0) := fun t => by
  rw [mget_mset]
  unfold dset
  split
  · simp
  · exact hf t
theorem nd_set {v : Int} (h : (D.map Prod.fst).Nodup) : ((mset tag v D).map Prod.fst).Nodup := by
  rw [mset_keys]
  split
  · exact h
  · rename_i hk
    refine List.nodup_append.2 ⟨h, by simp, fun a ha b hb => ?_⟩
    rw [List.mem_singleton.1 hb]
    exact fun e => hk (e ▸ ha)
theorem mset_self {ν : Type} {M : List (List UInt8 × ν)} {key : List UInt8} {v : ν} (h : mget key M = some v) : mset key v M = M := by
  induction M with
  | nil => cases h
  | cons p M ih =>
    unfold mget at h
    unfold mset
    split
    · rename_i e
      rw [if_pos e] at h
      injection h with h
      rw [e, ← h]
    · rename_i e
      rw [if_neg e] at h
      rw [ih h]
theorem at_gate {key : List UInt8} : atM key (gateM key M) = atM key M := by
  unfold gateM
  split
  · rename_i h
    have h' : mget key M = none := by simpa using h
    unfold atM
    rw [h', ← mset_none (v := ([], [])) h', mget_mset]; simp
  · rfl
theorem mset_at {key : List UInt8} : mset key (atM key M) (gateM key M) = gateM key M := by
  refine mset_self ?_
  have h := gate_some (M := M) (k := key)
  rw [← at_gate]
  unfold atM
  cases hm : mget key (gateM key M) with
  | none => rw [hm] at h; cases h
  | some v => rfl
theorem enter_hg {ms : Sl} {L : List MarkM} {N : Nat} {Q : K} (hr : ∀ w, Holds B Γ w → RdC w ms 3 (L.flatMap markF)) (hk : ∀ m ∈ L, m.key.length < 1000000000) (hN : gsz M N) (hNl : N + L.length ≤ 1000000)
    (h : HG B (LocksR l (enterM n S tag L (M, dm)).1 (enterM n S tag L (M, dm)).2 :: StoreR st n S :: Γ) Q) :
    HG B (LocksR l M dm :: StoreR st n S :: Γ) (locks_Locks_Enter.call (some ⟨l, 0, none⟩) (some ⟨st, 0, none⟩) (tagF tag).toArray ms Q) := fun w hw => by
  refine locks_Locks_Enter_ok _ _ _ _ _ _ ?_
  have hlen : ms.n = L.length := rd_len markF_len (by omega) (hr w hw.tail.tail)
  refine hg hw ?_
  clear hw w
  unfold locks_Locks_Enter
  refine s_new fun t6 => ?_
  refine s_loop (α := Int) (ι := (GM × DM) × Nat) (fun x i => x = (i.2 : Int) ∧ i.2 ≤ L.length ∧ gsz i.1.1 (N + i.2) ∧ enterM n S tag (L.drop i.2) i.1 = enterM n S tag L (M, dm))
    (fun x i => blk t6 (.cells (tagF tag).toArray ty_api_Tag (0, 0)) :: LocksR l i.1.1 i.1.2 :: StoreR st n S :: Γ) (fun x i => L.length - i.2) ((M, dm), 0) ⟨rfl, Nat.zero_le _, hN, rfl⟩ ?_
  rintro k' _ ⟨⟨M1, d1⟩, j⟩ ⟨rfl, hj, hz, he⟩ hk'
  simp only at hj hz he hk' ⊢
  unfold locks_Locks_Enter.b1
  refine s_ite (fun hb => ?_) fun hb => ?_
  · have hjl : j < L.length := by simp only [decide_eq_true_eq] at hb; omega
    have hge : L[j]? = some L[j] := List.getElem?_eq_getElem hjl
    have hmem : L[j] ∈ L := List.getElem_mem hjl
    rw [List.drop_eq_getElem_cons hjl] at he
    generalize L[j] = m at hge hmem he
    have hkl := hk m hmem
    have hz2 := gsz_enter (n := n) (S := S) (tag := tag) (x := (M1, d1)) (m := m) hz
    have he2 : enterM n S tag (L.drop (j + 1)) (enter1 n S tag (M1, d1) m) = enterM n S tag L (M, dm) := he
    refine s_idxN markF markF_len (fun w hw => hr w hw.drops) hge ?_
    refine s_new fun m9 => ?_
    repeat refine s_nx ?_
    refine s_own l ?_
    refine gate_hg fun gm db X D A g C hf hX => ?_
    have hat := lf_at hX hf
    rw [at_gate] at hat
    have hgz := gsz_at (k := m.key) hz
    rw [hat] at hgz
    simp only at hgz
    refine s_cap g.ls fun c1 c2 c3 c4 => ?_
    refine s_cap g.ps fun e1 e2 e3 e4 => ?_
    rw [flatMap_len _ 7 clF_len] at c1 e1
    -- the end of a round
    have fin : ∀ {Δ : List HProp} {g' : GateX} {d' : DM} {D' : List (TagM × Int)}, enter1 n S tag (M1, d1) m = (mset m.key (g'.line, g'.park) (gateM m.key M1), d') → g'.b = g.b → ((∀ t, d' t = decide (0 < (mget t D').getD 0)) ∧ (D'.map Prod.fst).Nodup) → HG B (gL g' (lockF l gm db X (A ++ C) D' (blk t6 (.cells (tagF tag).toArray ty_api_Tag (0, 0)) :: StoreR st n S :: Γ))) (locks_Locks_Enter.s2 Q k' (some ⟨l, 0, none⟩) (some ⟨st, 0, none⟩) ⟨t6, 0, none⟩ ms (ms.n : Int) (j : Int)) := fun {Δ g' d' D'} e1 e2 e3 => by
      refine s_ungate hX e2 hf e3 ?_
      unfold locks_Locks_Enter.s2
      refine s_ai ?_
      have h := hk' ((j : Int) + 1) (enter1 n S tag (M1, d1) m, j + 1) ⟨by simp, hjl, hz2, he2⟩ (by simp only; omega)
      rw [e1] at h
      exact s_end h
    have keep : (hasT tag g.line || hasT tag g.park) = true → enter1 n S tag (M1, d1) m = (mset m.key (g.line, g.park) (gateM m.key M1), d1) := fun hh => by
      unfold enter1
      rw [hat, if_pos hh, show (g.line, g.park) = atM m.key M1 from hat.symm, mset_at]
    repeat refine s_nx ?_
    refine ofCall_hg fun b1 => ?_
    repeat refine s_nx ?_
    refine containsC (tag := tag) (L := g.line) (by omega) ?_
    repeat refine s_nx ?_
    have rest : ∀ (b : Nat) (hh : Bool), hh = (hasT tag g.line || hasT tag g.park) → HG B (gL g (lockF l gm db X (A ++ C) D (blk m9 (.cells (markF m).toArray ty_api_Mark (0, 0)) :: blk t6 (.cells (tagF tag).toArray ty_api_Tag (0, 0)) :: StoreR st n S :: Γ))) (locks_Locks_Enter.s3 Q k' (some ⟨l, 0, none⟩) (some ⟨st, 0, none⟩) ⟨t6, 0, none⟩ ⟨m9, 0, none⟩ (some ⟨g.b, 0, none⟩) ms (ms.n : Int) (j : Int) hh) := fun b hh hhe => by
      unfold locks_Locks_Enter.s3
      refine s_ite (fun hb2 => ?_) fun hb2 => ?_
      · exact s_end (fin (Δ := Γ) (keep (by rw [← hhe]; exact hb2)) rfl ⟨hf.doom, hf.nd⟩)
      rw [hb2] at hhe
      have hno : ¬ (hasT tag g.line || hasT tag g.park) = true := by rw [← hhe]; simp
      repeat refine s_nx ?_
      refine s_own st ?_
      refine storeGet_spec (k := bs m.key) (by show m.key.length < _; omega) fun s _ => ?_
      repeat refine s_nx ?_
      refine lookHg ?_
      have hlk : lookS (sGet n S (bs m.key)).cnt m.cnt (sGet n S (bs m.key)).home m.home = markLook n S m := rfl
      rw [hlk]
      refine s_ite (fun h0 => ?_) fun h0 => ?_
      · have h0' : markLook n S m = 0 := by simpa using h0
        repeat refine s_nx ?_
        refine s_new fun t => ?_
        repeat refine s_nx ?_
        refine s_append (s := g.ls) (esz := 7) (us := clF (tag, m)) (blk_rd rfl) (by intro v hv; exact clF_fl [(tag, m)] v (by simpa using hv)) (by simp only; omega) fun ls' _ => ?_
        rw [show g.line.flatMap clF ++ clF (tag, m) = (g.line ++ [(tag, m)]).flatMap clF by simp]
        repeat refine s_nx ?_
        refine s_end (fin (Δ := Γ) (g' := { g with ls := ls', line := g.line ++ [(tag, m)] }) ?_ rfl ⟨hf.doom, hf.nd⟩)
        unfold enter1
        rw [hat, if_neg hno, if_pos h0']
      · have h0' : ¬ markLook n S m = 0 := by simpa using h0
        refine s_ite (fun h1 => ?_) fun h1 => ?_
        · have h1' : markLook n S m = 1 := by simpa using h1
          repeat refine s_nx ?_
          refine s_new fun t => ?_
          repeat refine s_nx ?_
          refine s_append (s := g.ps) (esz := 7) (us := clF (tag, m)) (blk_rd rfl) (by intro v hv; exact clF_fl [(tag, m)] v (by simpa using hv)) (by simp only; omega) fun ps' _ => ?_
          rw [show g.park.flatMap clF ++ clF (tag, m) = (g.park ++ [(tag, m)]).flatMap clF by simp]
          repeat refine s_nx ?_
          refine s_end (fin (Δ := Γ) (g' := { g with ps := ps', park := g.park ++ [(tag, m)] }) ?_ rfl ⟨hf.doom, hf.nd⟩)
          unfold enter1
          rw [hat, if_neg hno, if_neg h0', if_pos h1']
        · have h1' : ¬ markLook n S m = 1 := by simpa using h1
          repeat refine s_nx ?_
          refine s_updS (b := db) (cel := tagF) (a := tag) (v := 1) keyS_tag rfl ?_ mapFD
          refine s_end (fin (Δ := Γ) (g' := g) (d' := dset d1 tag true) ?_ rfl ⟨doom_set hf.doom, nd_set hf.nd⟩)
          unfold enter1
          rw [hat, if_neg hno, if_neg h0', if_neg h1', show (g.line, g.park) = atM m.key M1 from hat.symm, mset_at]
    refine s_ite (fun hb2 => ?_) fun hb2 => ?_
    · exact s_end (rest b1 true (by rw [hb2]; rfl))
    repeat refine s_nx ?_
    refine ofCall_hg fun b2 => ?_
    repeat refine s_nx ?_
    refine containsC (tag := tag) (L := g.park) (by omega) ?_
    exact s_end (rest b2 _ (by rw [hb2]; rfl))
  · have hjl : j = L.length := by simp only [decide_eq_false_iff_not] at hb; omega
    rw [hjl, List.drop_length] at he
    have he' : (M1, d1) = enterM n S tag L (M, dm) := he
    rw [← he'] at h
    exact s_end h
end
end Go.Proofs.YtfjjocopmknhgaaGreat
/- Locks: Doomed, Leave, Ready, Queue, Parked, Keys, Ahead. -/
namespace Go.Proofs.YtfjjocopmknhgaaGreat
open Go Go.Sep Go.Sep.Bt
set_option linter.unusedSimpArgs false
set_option linter.unusedVariables false
set_option linter.unusedSectionVars false
set_option maxRecDepth 100000

section
variable {B : World} {Γ Δ : List HProp} {k : K} {l gm db st n : Nat} {M : GM} {dm : DM} {X : GX} {D : List (TagM × Int)} {S : Recs} {tag : TagM}
theorem doomed_hg {Q : Bool → K} (h : HG B (LocksR l M dm :: Γ) (Q (dm tag))) : HG B (LocksR l M dm :: Γ) (locks_Locks_Doomed.call (some ⟨l, 0, none⟩) (tagF tag).toArray Q) := by
  refine fun w hw => locks_Locks_Doomed_ok _ _ _ _ ?_
  refine hg hw ?_
  clear hw w
  refine s_locks fun gm db X D hf => ?_
  unfold locks_Locks_Doomed
  refine s_new fun t3 => ?_
  repeat refine s_nx ?_
  refine s_look1S (b := db) (cel := tagF) (a := tag) (z := 0) keyS_tag zero_ty_int ?_ mapFD
  rw [← hf.doom]
  refine s_own db ?_
  refine s_pick (Sep.stars (X.map gB)) ?_
  refine s_own gm ?_
  refine s_own l ?_
  exact s_mkLocks hf (s_end h)

/-! ### Leave -/
theorem mget_del {m : List (TagM × Int)} {a b : TagM} (h : (m.map Prod.fst).Nodup) : mget b (mdel a m) = if b = a then none else mget b m := by
  induction m with
  | nil => simp [mdel, mget]
  | cons p m ih =>
    have h1 := List.nodup_cons.1 (show (p.1 :: m.map Prod.fst).Nodup from h)
    unfold mdel
    split
    · rename_i e
      split
      · rename_i e2
        have hn : ∀ m : List (TagM × Int), p.1 ∉ m.map Prod.fst → mget p.1 m = none := fun m => by
          induction m with
          | nil => intro _; rfl
          | cons q m ih => intro hq; simp only [List.map_cons, List.mem_cons, not_or] at hq; unfold mget; rw [if_neg hq.1]; exact ih hq.2
        rw [e2, e]; exact hn m h1.1
      · rename_i e2
        simp only [mget]
        rw [if_neg (fun e3 => e2 (by rw [e3, e]))]
    · rename_i e
      by_cases h2 : b = p.1
      · have h3 : ¬ b = a := fun h4 => e (by rw [← h4, h2])
        simp only [mget, h2, if_true]
        rw [if_neg (by rw [← h2]; exact h3)]
      · simp only [mget, h2, if_false]
        exact ih h1.2
theorem nd_del {m : List (TagM × Int)} (h : (m.map Prod.fst).Nodup) : ((mdel tag m).map Prod.fst).Nodup := by
  rcases mfind tag m with ⟨_, _, h3, _⟩ | ⟨j, x, _, _, _, _, _, h3⟩
  · rw [h3]; exact h
  · rw [h3]
    exact List.Pairwise.sublist ((List.eraseIdx_sublist m j).map Prod.fst) h
/-- A map that is split, and one with the same keys and places. -/
theorem split_like {X Y : GX} {A C : GX} {p : List UInt8 × GateX} (hY : (Y.map fun q => (q.1, q.2.b)) = X.map fun q => (q.1, q.2.b)) (hX : X = A ++ p :: C) : ∃ A' g C', Y = A' ++ (p.1, g) :: C' ∧ g.b = p.2.b ∧ A'.length = A.length ∧ (A'.map Prod.fst) = A.map Prod.fst ∧ C'.map Prod.fst = C.map Prod.fst := by
  rw [hX, List.map_append, List.map_cons] at hY
  obtain ⟨A', Y2, rfl, h1, h2⟩ := List.map_eq_append_iff.1 hY
  obtain ⟨⟨k, g⟩, C', rfl, h3, h4⟩ := List.map_eq_cons_iff.1 h2
  simp only [Prod.mk.injEq] at h3
  obtain ⟨rfl, h5⟩ := h3
  refine ⟨A', g, C', rfl, h5, by simpa using congrArg List.length h1, ?_, ?_⟩
  · have := congrArg (List.map Prod.fst) h1; simpa [Function.comp_def] using this
  · have := congrArg (List.map Prod.fst) h4; simpa [Function.comp_def] using this
theorem s_pickG {Y A' C' : GX} {key : List UInt8} {g : GateX} (hY : Y = A' ++ (key, g) :: C') (h : HG B (gL g (Sep.stars ((A' ++ C').map gB) :: Γ)) k) : HG B (Sep.stars (Y.map gB) :: Γ) k := by
  rw [hY]
  refine s_mid ?_
  refine s_flat ?_
  exact h
theorem s_unpickG {A' C' : GX} {key : List UInt8} {g : GateX} (h : HG B (Sep.stars ((A' ++ (key, g) :: C').map gB) :: Γ) k) : HG B (gL g (Sep.stars ((A' ++ C').map gB) :: Γ)) k := by
  refine s_unflat (Δ := gL g []) ?_
  exact s_unmid (F := gB) (x := (key, g)) h
theorem leave_hg {N : Nat} {Q : K} (hN : gsz M N) (hNl : N ≤ 1000000) (h : HG B (LocksR l (leaveM tag (M, dm)).1 (leaveM tag (M, dm)).2 :: Γ) Q) :
    HG B (LocksR l M dm :: Γ) (locks_Locks_Leave.call (some ⟨l, 0, none⟩) (tagF tag).toArray Q) := by
  refine fun w hw => locks_Locks_Leave_ok _ _ _ _ ?_
  refine hg hw ?_
  clear hw w
  refine s_locks fun gm db X D hf => ?_
  have hsz : ∀ p ∈ X, p.2.line.length ≤ N ∧ p.2.park.length ≤ N := fun p hp => hN.2 (p.1, (p.2.line, p.2.park)) (by rw [← hf.mod]; exact List.mem_map.2 ⟨p, hp, rfl⟩)
  unfold locks_Locks_Leave
  refine s_new fun t3 => ?_
  repeat refine s_nx ?_
  refine s_range mapFL fun r => ?_
  let cl : List (List UInt8) → List UInt8 × (List Claim × List Claim) → List UInt8 × (List Claim × List Claim) := fun ks p => if p.1 ∈ ks then p else (p.1, (noT tag p.2.1, noT tag p.2.2))
  refine s_loop (α := Unit) (ι := GX × GX × Option (List UInt8 × GateX)) (fun _ i => (i.1.map fun q => (q.1, q.2.b)) = (X.map fun q => (q.1, q.2.b)) ∧ modG i.1 = (modG X).map (cl (i.2.1.map Prod.fst)) ∧ (i.2.1.map Prod.fst).Nodup)
    (fun _ i => MapIt strV gV gm r X i.2.1 i.2.2 :: Sep.stars (i.1.map gB) :: blk t3 (.cells (tagF tag).toArray ty_api_Tag (0, 0)) :: blk l (.cells [.map (some gm), .map (some db)].toArray ty_locks_Locks (0, 0)) :: MapR (kyS tagF) (Value.int .i64) db D :: Γ)
    (fun _ i => i.2.1.length) (X, X, none) ⟨rfl, ?_, hf.once⟩ ?_ |> fun h => s_end h
  · simp only
    rw [List.map_congr_left (g := id)]
    · simp
    · intro p hp
      simp only [cl, id]
      rw [if_pos]
      obtain ⟨q, hq, rfl⟩ := List.mem_map.1 hp
      exact List.mem_map.2 ⟨q, hq, rfl⟩
  rintro k' _ ⟨Y, left, cur⟩ ⟨hYb, hYm, hnd⟩ hk'
  simp only at hYb hYm hnd hk' ⊢
  unfold locks_Locks_Leave.b1
  refine s_next (r := r) (fun hl0 => ?_) fun l1 p l2 hl1 hp => ?_
  · repeat refine s_nx ?_
    refine s_mdeleteS (b := db) (cel := tagF) (a := tag) keyS_tag ?_ mapFD
    subst hl0
    refine s_own gm ?_
    refine s_conv (mapR_cong (m' := Y) ?_) ?_
    · have := congrArg (List.map fun q : List UInt8 × Nat => (strV q.1, Value.pointer (some ⟨q.2, 0, none⟩))) hYb
      simpa [gV, Function.comp_def] using this.symm
    refine s_own db ?_
    refine s_pick (Sep.stars (Y.map gB)) ?_
    refine s_own gm ?_
    refine s_own l ?_
    refine s_mkLocks (M := (leaveM tag (M, dm)).1) (dm := (leaveM tag (M, dm)).2) ⟨?_, ?_, fun t => ?_, nd_del hf.nd⟩ (s_end h)
    · rw [hYm, hf.mod]
      simp [leaveM, cl]
    · unfold KeysU
      have := congrArg (List.map Prod.fst) hYb
      simp only [List.map_map, Function.comp_def] at this
      rw [this]; exact hf.once
    · show dset dm tag false t = _
      unfold dset
      rw [mget_del hf.nd]
      split
      · simp
      · exact hf.doom t
  · obtain ⟨A, C, hX⟩ := List.append_of_mem hp
    obtain ⟨A', g, C', hY, hgb, _, hA1, hC1⟩ := split_like hYb hX
    have hpl : p.1 ∈ left.map Prod.fst := by rw [hl1]; simp
    have hXo := hf.once
    rw [hX] at hXo
    have hmid := once_mid (v := p.2) hXo
    have hgm2 : (g.line, g.park) = (p.2.line, p.2.park) := by
      rw [hY, hX] at hYm
      simp only [modG, List.map_append, List.map_cons] at hYm
      have hlen : (A'.map fun p : List UInt8 × GateX => (p.1, (p.2.line, p.2.park))).length = ((A.map fun p : List UInt8 × GateX => (p.1, (p.2.line, p.2.park))).map (cl (left.map Prod.fst))).length := by
        have := congrArg List.length hA1; simpa using this
      have h2 := (List.append_inj hYm hlen).2
      simp only [List.cons.injEq, cl] at h2
      rw [if_pos hpl] at h2
      exact (Prod.mk.inj h2.1).2
    simp only [Prod.mk.injEq] at hgm2
    have hps := hsz p hp
    repeat refine s_nx ?_
    refine s_entry (r := r) (q := p) ?_
    refine s_nx ?_
    refine s_pick (Sep.stars (Y.map gB)) ?_
    refine s_pickG hY ?_
    rw [← hgb]
    repeat refine s_nx ?_
    refine ofCall_hg fun b1 => ?_
    repeat refine s_nx ?_
    refine s_ownS g.ls ?_
    refine deleteC (tag := tag) (L := g.line) (b := b1) (by rw [hgm2.1]; omega) fun ls' => ?_
    repeat refine s_nx ?_
    refine ofCall_hg fun b2 => ?_
    repeat refine s_nx ?_
    refine s_ownS g.ps ?_
    refine deleteC (tag := tag) (L := g.park) (b := b2) (by rw [hgm2.2]; omega) fun ps' => ?_
    repeat refine s_nx ?_
    refine s_pick (Sep.stars ((A' ++ C').map gB)) ?_
    refine s_ownS ps' ?_
    refine s_ownS ls' ?_
    refine s_own g.b ?_
    refine s_unpickG (key := p.1) (g := ⟨g.b, ls', ps', noT tag g.line, noT tag g.park⟩) ?_
    refine s_end (hk' () (A' ++ (p.1, ⟨g.b, ls', ps', noT tag g.line, noT tag g.park⟩) :: C', l1 ++ l2, some p) ⟨?_, ?_, ?_⟩ (by rw [hl1]; simp))
    · rw [← hYb, hY]; simp
    · simp only
      have hne : ∀ q : List UInt8, q ≠ p.1 → (q ∈ l1.map Prod.fst ++ l2.map Prod.fst ↔ q ∈ left.map Prod.fst) := fun q hq => by
        rw [hl1]; simp only [List.map_append, List.map_cons, List.mem_append, List.mem_cons]
        constructor
        · rintro (h | h)
          · exact .inl h
          · exact .inr (.inr h)
        · rintro (h | h | h)
          · exact .inl h
          · exact absurd h hq
          · exact .inr h
      have hpn : p.1 ∉ l1.map Prod.fst ++ l2.map Prod.fst := fun h5 => by
        rw [hl1, List.map_append, List.map_cons] at hnd
        obtain ⟨_, h6, h7⟩ := List.nodup_append.1 hnd
        rcases List.mem_append.1 h5 with h5 | h5
        · exact h7 _ h5 _ List.mem_cons_self rfl
        · exact (List.nodup_cons.1 h6).1 h5
      rw [hY, hX] at hYm
      rw [hX]
      simp only [modG, List.map_append, List.map_cons] at hYm ⊢
      have hlen : (A'.map fun p : List UInt8 × GateX => (p.1, (p.2.line, p.2.park))).length = ((A.map fun p : List UInt8 × GateX => (p.1, (p.2.line, p.2.park))).map (cl (left.map Prod.fst))).length := by
        have := congrArg List.length hA1; simpa using this
      obtain ⟨h8, h9⟩ := List.append_inj hYm hlen
      simp only [List.cons.injEq] at h9
      rw [h8, h9.2]
      congr 1
      · refine List.map_congr_left fun q hq => ?_
        obtain ⟨q, hq', rfl⟩ := List.mem_map.1 hq
        have hq2 := hmid.1 q hq'
        simp only [cl]
        by_cases h10 : q.1 ∈ left.map Prod.fst
        · rw [if_pos h10, if_pos ((hne _ hq2).2 h10)]
        · rw [if_neg h10, if_neg fun h11 => h10 ((hne _ hq2).1 h11)]
      · congr 1
        · simp only [cl]
          rw [if_neg hpn, hgm2.1, hgm2.2]
        · refine List.map_congr_left fun q hq => ?_
          obtain ⟨q, hq', rfl⟩ := List.mem_map.1 hq
          have hq2 := hmid.2 q hq'
          simp only [cl]
          by_cases h10 : q.1 ∈ left.map Prod.fst
          · rw [if_pos h10, if_pos ((hne _ hq2).2 h10)]
          · rw [if_neg h10, if_neg fun h11 => h10 ((hne _ hq2).1 h11)]
    · rw [hl1, List.map_append, List.map_cons] at hnd
      rw [List.map_append]
      obtain ⟨h5, h6, h7⟩ := List.nodup_append.1 hnd
      exact List.nodup_append.2 ⟨h5, (List.nodup_cons.1 h6).2, fun a ha b hb => h7 a ha b (List.mem_cons_of_mem _ hb)⟩

/-! ### Ready -/
def readyG (tag : TagM) (p : List Claim × List Claim) : Bool := !hasT tag p.2 && !decide (0 < idxI (p.1.findIdx? fun c => decide (c.1 = tag)))
def readyM (tag : TagM) (M : GM) : Bool := M.all fun p => readyG tag p.2
theorem ready_hg {N : Nat} {Q : Bool → K} (hN : gsz M N) (hNl : N ≤ 1000000) (h : HG B (LocksR l M dm :: Γ) (Q (readyM tag M))) : HG B (LocksR l M dm :: Γ) (locks_Locks_Ready.call (some ⟨l, 0, none⟩) (tagF tag).toArray Q) := by
  refine fun w hw => locks_Locks_Ready_ok _ _ _ _ ?_
  refine hg hw ?_
  clear hw w
  refine s_locks fun gm db X D hf => ?_
  have hsz : ∀ p ∈ X, p.2.line.length ≤ N ∧ p.2.park.length ≤ N := fun p hp => hN.2 (p.1, (p.2.line, p.2.park)) (by rw [← hf.mod]; exact List.mem_map.2 ⟨p, hp, rfl⟩)
  have hrm : readyM tag M = X.all fun p => readyG tag (p.2.line, p.2.park) := by unfold readyM; rw [← hf.mod]; simp [modG, Function.comp_def]
  unfold locks_Locks_Ready
  refine s_new fun t3 => ?_
  repeat refine s_nx ?_
  refine s_range mapFL fun r => ?_
  refine s_loop (α := Unit) (ι := GX × Option (List UInt8 × GateX)) (fun _ i => (∀ p ∈ X, p ∈ i.1 ∨ readyG tag (p.2.line, p.2.park) = true))
    (fun _ i => MapIt strV gV gm r X i.1 i.2 :: Sep.stars (X.map gB) :: blk t3 (.cells (tagF tag).toArray ty_api_Tag (0, 0)) :: blk l (.cells [.map (some gm), .map (some db)].toArray ty_locks_Locks (0, 0)) :: MapR (kyS tagF) (Value.int .i64) db D :: Γ)
    (fun _ i => i.1.length) (X, none) (fun p hp => .inl hp) ?_ |> fun h => s_end h
  rintro k' _ ⟨left, cur⟩ hJ hk'
  simp only at hJ hk' ⊢
  unfold locks_Locks_Ready.b1
  refine s_next (r := r) (fun hl0 => ?_) fun l1 p l2 hl1 hp => ?_
  · repeat refine s_nx ?_
    subst hl0
    have e : readyM tag M = true := by
      rw [hrm, List.all_eq_true]
      intro p hp
      rcases hJ p hp with h1 | h1
      · cases h1
      · exact h1
    rw [e] at h
    refine s_own db ?_
    refine s_pick (Sep.stars (X.map gB)) ?_
    refine s_own gm ?_
    refine s_own l ?_
    exact s_mkLocks hf (s_end h)
  · obtain ⟨A, C, hX⟩ := List.append_of_mem hp
    have hps := hsz p hp
    repeat refine s_nx ?_
    refine s_entry (r := r) (q := p) ?_
    refine s_nx ?_
    have bad : readyG tag (p.2.line, p.2.park) = false → HG B (MapIt strV gV gm r X (l1 ++ l2) (some p) :: Sep.stars (X.map gB) :: blk t3 (.cells (tagF tag).toArray ty_api_Tag (0, 0)) :: blk l (.cells [.map (some gm), .map (some db)].toArray ty_locks_Locks (0, 0)) :: MapR (kyS tagF) (Value.int .i64) db D :: Γ) (Q false) := fun hb => by
      have e : readyM tag M = false := by
        rw [hrm, List.all_eq_false]
        exact ⟨p, hp, by simp [hb]⟩
      rw [e] at h
      refine s_itEnd (r := r) ?_
      refine s_own db ?_
      refine s_pick (Sep.stars (X.map gB)) ?_
      refine s_own gm ?_
      refine s_own l ?_
      exact s_mkLocks hf (s_end h)
    refine s_pick (Sep.stars (X.map gB)) ?_
    refine s_pickG (key := p.1) (g := p.2) hX ?_
    have back : ∀ (b : Bool), readyG tag (p.2.line, p.2.park) = !b → HG B (gL p.2 (Sep.stars ((A ++ C).map gB) :: MapIt strV gV gm r X (l1 ++ l2) (some p) :: blk t3 (.cells (tagF tag).toArray ty_api_Tag (0, 0)) :: blk l (.cells [.map (some gm), .map (some db)].toArray ty_locks_Locks (0, 0)) :: MapR (kyS tagF) (Value.int .i64) db D :: Γ)) (locks_Locks_Ready.s2 Q (k' ()) ⟨t3, 0, none⟩ (some ⟨r, 0, none⟩) b) := fun b hb => by
      refine s_unpickG (key := p.1) ?_
      rw [show A ++ (p.1, p.2) :: C = X from hX.symm]
      unfold locks_Locks_Ready.s2
      refine s_ite (fun h2 => ?_) fun h2 => ?_
      · exact s_end (bad (by rw [hb, h2]; rfl))
      · refine s_end (hk' () (l1 ++ l2, some p) (fun q hq => ?_) (by rw [hl1]; simp))
        rcases hJ q hq with h3 | h3
        · rw [hl1] at h3
          rcases List.mem_append.1 h3 with h3 | h3
          · exact .inl (List.mem_append_left _ h3)
          · rcases List.mem_cons.1 h3 with rfl | h3
            · exact .inr (by rw [hb, h2]; rfl)
            · exact .inl (List.mem_append_right _ h3)
        · exact .inr h3
    repeat refine s_nx ?_
    refine ofCall_hg fun b1 => ?_
    repeat refine s_nx ?_
    refine containsC (tag := tag) (L := p.2.park) (by omega) ?_
    repeat refine s_nx ?_
    refine s_ite (fun h2 => ?_) fun h2 => ?_
    · exact s_end (back true (by unfold readyG; rw [h2]; rfl))
    repeat refine s_nx ?_
    refine ofCall_hg fun b2 => ?_
    repeat refine s_nx ?_
    refine indexC (tag := tag) (L := p.2.line) (by omega) ?_
    exact s_end (back _ (by unfold readyG; rw [h2]; rfl))

/-! ### tags, Queue, Parked -/
theorem tags_hg {s : Sl} {L : List Claim} {Q : Sl → K} (hL : L.length ≤ 10000000) (hr : ∀ w, Holds B Γ w → RdC w s 7 (L.flatMap clF)) (h : ∀ s', HG B (SlC ty_api_Tag 4 s' ((L.map Prod.fst).flatMap tagF) :: Γ) (Q s')) : HG B Γ (locks_tags.call s Q) := fun w hw => by
  refine locks_tags_ok _ _ _ ?_
  have hlen : s.n = L.length := rd_len clF_len (by omega) (hr w hw)
  refine hg (show Holds B (SlC ty_api_Tag 4 ⟨none, 0, 0⟩ [] :: Γ) w from hw.nilSl _ _) ?_
  clear hw w
  unfold locks_tags
  refine s_loop (α := Sl × Int) (ι := Nat) (fun x i => x.2 = (i : Int) ∧ i ≤ L.length) (fun x i => SlC ty_api_Tag 4 x.1 (((L.take i).map Prod.fst).flatMap tagF) :: Γ) (fun x i => L.length - i) 0 ⟨rfl, Nat.zero_le _⟩ ?_
  rintro k' ⟨o, _⟩ i ⟨rfl, hi⟩ hk'
  simp only at hi hk' ⊢
  unfold locks_tags.b1
  refine s_ite (fun hb => ?_) fun hb => ?_
  · have hil : i < L.length := by simp only [decide_eq_true_eq] at hb; omega
    have hge : L[i]? = some L[i] := List.getElem?_eq_getElem hil
    have htk : L.take (i + 1) = L.take i ++ [L[i]] := List.take_succ_eq_append_getElem hil
    generalize L[i] = c at hge htk
    refine s_cap o fun a1 a2 a3 a4 => ?_
    rw [flatMap_len _ 4 tagF_len, List.length_map, List.length_take, Nat.min_eq_left hi] at a1
    refine s_idxN clF clF_len (fun w hw => hr w hw.tail) hge ?_
    refine s_new fun c4 => ?_
    repeat refine s_nx ?_
    refine s_new fun t => ?_
    refine s_append (s := o) (esz := 4) (us := tagF c.1) (blk_rd rfl) (by simp [flatV]) (by simp only; omega) fun o' _ => ?_
    refine s_ai ?_
    rw [show ((L.take i).map Prod.fst).flatMap tagF ++ tagF c.1 = ((L.take (i + 1)).map Prod.fst).flatMap tagF by rw [htk]; simp only [List.map_append, List.flatMap_append, List.map_cons, List.map_nil, List.flatMap_cons, List.flatMap_nil, List.append_nil]]
    exact s_end (hk' (o', (i : Int) + 1) (i + 1) ⟨by simp, hil⟩ (by omega))
  · have hil : i = L.length := by simp only [decide_eq_false_iff_not] at hb; omega
    rw [hil, List.take_length]
    exact h o
theorem gate_at (hf : LF M dm X D) {key : List UInt8} : atM key M = ((mget key X).map fun g => (g.line, g.park)).getD ([], []) := by
  unfold atM
  rw [← hf.mod, show mget key (modG X) = (mget key X).map fun g => (g.line, g.park) from mget_map (fun g : GateX => (g.line, g.park)) key X]
theorem gateLook {key : List UInt8} {q : Option Addr → K} (h : HG B Γ (q ((mget key X).map fun g => ⟨g.b, 0, none⟩))) [p : Sep.Own gm Γ (MapR strV gV gm X) Δ] : HG B Γ (Rd Tryz.prog (Instr.lookup ty_map_string_p_locks_gate (.map (some gm)) (strV key) false) Value.pointer q) := fun w hw => by
  obtain ⟨es, c, ⟨hr, hst⟩, h1⟩ := MapR.opens (hw.perm p.perm)
  have := run_lookZ (a := key) mapFL keyE_str zero_gate h1.block hr false
  refine ⟨(mget key X).map fun g => ⟨g.b, 0, none⟩, ?_, h w hw⟩
  rw [this]
  cases mget key X <;> rfl
theorem queue_hg {key : List UInt8} {N : Nat} {Q : Sl → K} (hN : gsz M N) (hNl : N ≤ 1000000) (h : ∀ s, HG B (SlC ty_api_Tag 4 s (((atM key M).1.map Prod.fst).flatMap tagF) :: LocksR l M dm :: Γ) (Q s)) : HG B (LocksR l M dm :: Γ) (locks_Locks_Queue.call (some ⟨l, 0, none⟩) (bs key) Q) := by
  refine fun w hw => locks_Locks_Queue_ok _ _ _ _ ?_
  refine hg hw ?_
  clear hw w
  have hz := gsz_at (k := key) hN
  refine s_locks fun gm db X D hf => ?_
  unfold locks_Locks_Queue
  repeat refine s_nx ?_
  refine gateLook (X := X) ?_
  rw [gate_at hf] at h hz
  cases hm : mget key X with
  | none =>
    rw [hm] at h
    simp only [Option.map_none, Option.getD_none, List.map_nil, List.flatMap_nil] at h
    refine s_f ?_
    refine fun w hw => ?_
    refine hg (show Holds B (SlC ty_api_Tag 4 ⟨none, 0, 0⟩ [] :: _) w from hw.nilSl _ _) ?_
    clear hw w
    refine s_own db ?_
    refine s_pick (Sep.stars (X.map gB)) ?_
    refine s_own gm ?_
    refine s_own l ?_
    exact s_mkLocks hf (s_end (h ⟨none, 0, 0⟩))
  | some g =>
    rw [hm] at h hz
    simp only [Option.map_some, Option.getD_some] at h hz
    obtain ⟨A, C, hX⟩ := mget_split hm
    simp only [Option.map_some]
    refine s_t ?_
    refine s_pick (Sep.stars (X.map gB)) ?_
    refine s_pickG hX ?_
    repeat refine s_nx ?_
    refine tags_hg (L := g.line) (by omega) (fun w hw => (own_rd (s := g.ls) hw).1) fun s' => ?_
    refine s_pick (Sep.stars ((A ++ C).map gB)) ?_
    refine s_ownS g.ps ?_
    refine s_ownS g.ls ?_
    refine s_own g.b ?_
    refine s_unpickG (key := key) ?_
    rw [← hX]
    refine s_own db ?_
    refine s_pick (Sep.stars (X.map gB)) ?_
    refine s_own gm ?_
    refine s_own l ?_
    exact s_mkLocks hf (s_end (h s'))
/-! ### Keys -/
def keysM (M : GM) : List (List UInt8) := (sortL (M.map Prod.fst)).filter fun k => !decide ((atM k M).1.length + (atM k M).2.length = 0)
theorem keys_hg {N : Nat} {Q : Sl → K} (hN : gsz M N) (hNl : N ≤ 1000000) (h : ∀ s, HG B (SlS s (keysM M) :: LocksR l M dm :: Γ) (Q s)) : HG B (LocksR l M dm :: Γ) (locks_Locks_Keys.call (some ⟨l, 0, none⟩) Q) := by
  refine fun w hw => locks_Locks_Keys_ok _ _ _ ?_
  refine hg hw ?_
  clear hw w
  have hz := fun k => gsz_at (k := k) hN
  refine s_locks fun gm db X D hf => ?_
  have hXl : X.length ≤ 1000000 := by have := hN.1; rw [← hf.mod] at this; simp at this; omega
  have hkm : X.map Prod.fst = M.map Prod.fst := by rw [← hf.mod]; simp [modG, Function.comp_def]
  unfold locks_Locks_Keys
  refine s_new fun l1 => ?_
  repeat refine s_nx ?_
  refine s_own gm ?_
  refine fun w hw => sorted_keys_specL hXl hw fun ks w hw => ?_
  refine hg hw ?_
  clear hw w
  rw [hkm]
  have hkl : (sortL (M.map Prod.fst)).length ≤ 1000000 := by rw [sortL_len, List.length_map]; have := hN.1; omega
  refine fun w hw => slices_DeleteFunc_s_string_string_ok _ _ _ _ ?_
  refine hg hw ?_
  clear hw w
  show HG B _ (delF1 Tryz.prog slices_IndexFunc_s_string_string.call ty_s_string 0 Value.string ks (.func (.func 79) #[] #[.pointer (some ⟨l1, 0, none⟩)]) Q)
  rw [show SlS ks (sortL (M.map Prod.fst)) = SlC ty_string 1 ks (((sortL (M.map Prod.fst)).map bs).map Value.string) by simp [SlS, Function.comp_def]]
  refine s_delF1 (γ := Unit) (R := fun _ => MapR strV gV gm X :: blk l1 (.cells [.pointer (some ⟨l, 0, none⟩)].toArray ty_p_locks_Locks (0, 0)) :: blk l (.cells [.map (some gm), .map (some db)].toArray ty_locks_Locks (0, 0)) :: Sep.stars (X.map gB) :: MapR (kyS tagF) (Value.int .i64) db D :: Γ) (E := ty_string) (c := Value.string) (L := (sortL (M.map Prod.fst)).map bs) (fun (_ : Unit) x => decide ((atM x.data.toList M).1.length + (atM x.data.toList M).2.length = 0)) (fun _ _ => ()) () (fun _ _ => True) trivial (fun _ _ _ _ => trivial) (fun s fv Q w h => slices_IndexFunc_s_string_string_ok _ _ _ _ h) (fun _ => rfl) (by rw [List.length_map]; omega) (fun Ξ g x C q hx _ hq => ?_) (fun s' _ => ?_) |> fun h => s_end h
  · obtain ⟨key, hkey, rfl⟩ := List.mem_map.1 hx
    refine s_callvC (cs := [.pointer (some ⟨l1, 0, none⟩)]) ?_
    refine fun w hw => locks_Locks_Keys_1_ok _ _ _ _ ?_
    refine hg hw ?_
    clear hw w
    unfold locks_Locks_Keys_1
    repeat refine s_nx ?_
    refine gateLook (X := X) ?_
    have hkz := hz key
    have hq2 : (bs key).data.toList = key := by simp
    simp only [hq2] at hq
    rw [gate_at hf] at hq hkz
    rw [sortL_mem, ← hkm] at hkey
    cases hm : mget key X with
    | none =>
      exfalso
      rcases mfind key X with ⟨_, _, _, h5⟩ | ⟨_, _, _, _, _, h5, _⟩
      · obtain ⟨p, hp, e⟩ := List.mem_map.1 hkey
        exact h5 p hp e
      · rw [hm] at h5; cases h5
    | some g =>
      rw [hm] at hq hkz
      simp only [Option.map_some, Option.getD_some] at hq hkz
      obtain ⟨A, C, hX⟩ := mget_split hm
      simp only [Option.map_some]
      refine s_pick (Sep.stars (X.map gB)) ?_
      refine s_pickG hX ?_
      refine s_cap g.ls fun c1 c2 c3 c4 => ?_
      refine s_cap g.ps fun e1 e2 e3 e4 => ?_
      rw [flatMap_len _ 7 clF_len] at c1 e1
      repeat first | refine s_nx ?_ | refine s_ai ?_
      rw [show decide ((g.ls.n : Int) + (g.ps.n : Int) = 0) = decide (g.line.length + g.park.length = 0) from decide_eq_decide.2 (by omega)]
      refine s_pick (Sep.stars ((A ++ C).map gB)) ?_
      refine s_ownS g.ps ?_
      refine s_ownS g.ls ?_
      refine s_own g.b ?_
      refine s_unpickG (key := key) ?_
      rw [← hX]
      exact s_end hq
  · rw [delG_pure]
    have e : (((sortL (M.map Prod.fst)).map bs).filter fun x => !decide ((atM x.data.toList M).1.length + (atM x.data.toList M).2.length = 0)).map Value.string = (keysM M).map strV := by
      unfold keysM
      rw [List.filter_map, List.map_map]
      rfl
    rw [e]
    refine s_own db ?_
    refine s_pick (Sep.stars (X.map gB)) ?_
    refine s_own gm ?_
    refine s_own l ?_
    exact s_mkLocks hf (s_end (h s'))
end
end Go.Proofs.YtfjjocopmknhgaaGreat
/- Locks: Ahead, Moved. -/
namespace Go.Proofs.YtfjjocopmknhgaaGreat
open Go Go.Sep Go.Sep.Bt
set_option linter.unusedSimpArgs false
set_option linter.unusedVariables false
set_option linter.unusedSectionVars false
set_option maxRecDepth 100000

section
variable {B : World} {Γ Δ : List HProp} {k : K} {l gm db st n : Nat} {M : GM} {dm : DM} {X : GX} {D : List (TagM × Int)} {S : Recs} {tag : TagM}
theorem indexT {s : Sl} {L : List TagM} {Q : Int → K} (hL : L.length < 1000000000) (hr : ∀ w, Holds B Γ w → RdC w s 4 (L.flatMap tagF)) (h : HG B Γ (Q (idxI (L.findIdx? fun t => decide (t = tag))))) : HG B Γ (slices_Index_s_api_Tag_api_Tag.call s (tagF tag).toArray Q) := fun w hw => by
  refine slices_Index_s_api_Tag_api_Tag_ok _ _ _ _ ?_
  have hlen : s.n = L.length := rd_len tagF_len (by omega) (hr w hw)
  refine hg hw ?_
  clear hw w
  unfold slices_Index_s_api_Tag_api_Tag
  refine s_new fun v3 => ?_
  refine s_loopC (α := Int) (fun x => ∃ i : Nat, x = (i : Int) ∧ i ≤ L.length ∧ L.findIdx? (fun t => decide (t = tag)) = ((L.drop i).findIdx? fun t => decide (t = tag)).map (· + i)) (fun x => L.length - x.toNat) ⟨0, rfl, Nat.zero_le _, by simp⟩ fun k' x hx hk' => ?_
  obtain ⟨i, rfl, hi, he⟩ := hx
  unfold slices_Index_s_api_Tag_api_Tag.b1
  refine s_ite (fun hb => ?_) fun hb => ?_
  · have hil : i < L.length := by simp only [decide_eq_true_eq] at hb; omega
    have hge : L[i]? = some L[i] := List.getElem?_eq_getElem hil
    rw [List.drop_eq_getElem_cons hil, List.findIdx?_cons] at he
    generalize L[i] = t at hge he
    repeat refine s_nx ?_
    refine s_idxN tagF tagF_len (fun w hw => hr w hw.tail) hge ?_
    refine s_eqS (xs := tagF tag) (ys := tagF t) (ks := tagK) (p := t = tag) (by rw [tagF_inj]; exact eq_comm) ?_
    refine s_ite (fun hp => ?_) fun hp => ?_
    · rw [if_pos hp] at he
      rw [he] at h
      simpa [idxI] using s_end h
    · rw [if_neg (by simp [hp])] at he
      refine s_ai ?_
      refine hk' _ ⟨i + 1, by simp, hil, ?_⟩ (by omega)
      rw [he, Option.map_map]
      congr 1
      funext y
      simp only [Function.comp]; omega
  · have hil : i = L.length := by simp only [decide_eq_false_iff_not] at hb; omega
    rw [hil, List.drop_length] at he
    rw [he] at h
    simpa [idxI] using s_end h
theorem containsT {s : Sl} {L : List TagM} {Q : Bool → K} (hL : L.length < 1000000000) (hr : ∀ w, Holds B Γ w → RdC w s 4 (L.flatMap tagF)) (h : HG B Γ (Q (decide (tag ∈ L)))) : HG B Γ (slices_Contains_s_api_Tag_api_Tag.call s (tagF tag).toArray Q) := by
  refine fun w hw => slices_Contains_s_api_Tag_api_Tag_ok _ _ _ _ ?_
  refine hg hw ?_
  clear hw w
  unfold slices_Contains_s_api_Tag_api_Tag
  refine s_new fun v3 => ?_
  repeat refine s_nx ?_
  refine indexT (L := L) hL (fun w hw => hr w hw.tail) ?_
  rw [idxI_nonneg, any_idx, show (L.any fun t => decide (t = tag)) = decide (tag ∈ L) by rw [Bool.eq_iff_iff]; simp]
  exact s_end h

/-! ### Ahead -/
def addT (out : List TagM) (t : TagM) : List TagM := if t ∈ out then out else out ++ [t]
def lineT (M : GM) (key : List UInt8) : List TagM := (atM key M).1.map Prod.fst
def fore (tag : TagM) (L : List TagM) : List TagM := L.take ((L.findIdx? fun t => decide (t = tag)).getD 0)
def aheadM (tag : TagM) (M : GM) : List TagM := (keysM M).foldl (fun out key => (fore tag (lineT M key)).foldl addT out) []
theorem addT_len (L out : List TagM) : (L.foldl addT out).length ≤ out.length + L.length := by
  induction L generalizing out with
  | nil => simp
  | cons t L ih =>
    have h1 := ih (addT out t)
    have h2 : (addT out t).length ≤ out.length + 1 := by unfold addT; split <;> simp
    simp only [List.foldl_cons, List.length_cons]; omega
theorem ahead_hg {N : Nat} {Q : Sl → K} (hN : gsz M N) (hNl : N ≤ 5000) (h : ∀ s, HG B (SlC ty_api_Tag 4 s ((aheadM tag M).flatMap tagF) :: LocksR l M dm :: Γ) (Q s)) : HG B (LocksR l M dm :: Γ) (locks_Locks_Ahead.call (some ⟨l, 0, none⟩) (tagF tag).toArray Q) := by
  refine fun w hw => locks_Locks_Ahead_ok _ _ _ _ ?_
  refine hg hw ?_
  clear hw w
  unfold locks_Locks_Ahead
  refine s_new fun t3 => ?_
  refine s_own l ?_
  refine keys_hg hN (by omega) fun ks => ?_
  have hkl : (keysM M).length ≤ N := by
    have h1 := List.length_filter_le (fun k => !decide ((atM k M).1.length + (atM k M).2.length = 0)) (sortL (M.map Prod.fst))
    rw [sortL_len, List.length_map] at h1
    have := hN.1
    unfold keysM; omega
  refine s_cap ks fun a1 a2 a3 a4 => ?_
  have hkn : ks.n = (keysM M).length := by simpa using a1.symm
  refine fun w hw => ?_
  refine hg (show Holds B (SlC ty_api_Tag 4 ⟨none, 0, 0⟩ (([] : List TagM).flatMap tagF) :: _) w from hw.nilSl _ _) ?_
  clear hw w
  refine s_loop (α := Sl × Int) (ι := List TagM × Nat) (fun x i => x.2 = (i.2 : Int) ∧ i.2 ≤ (keysM M).length ∧ i.1.length ≤ i.2 * N ∧ ((keysM M).drop i.2).foldl (fun out key => (fore tag (lineT M key)).foldl addT out) i.1 = aheadM tag M)
    (fun x i => SlC ty_api_Tag 4 x.1 (i.1.flatMap tagF) :: SlS ks (keysM M) :: LocksR l M dm :: blk t3 (.cells (tagF tag).toArray ty_api_Tag (0, 0)) :: Γ) (fun x i => (keysM M).length - i.2) ([], 0) ⟨rfl, Nat.zero_le _, by simp, rfl⟩ ?_
  rintro k' ⟨o, _⟩ ⟨out, j⟩ ⟨rfl, hj, hol, he⟩ hk'
  simp only at hj hol he hk' ⊢
  unfold locks_Locks_Ahead.b1
  refine s_ite (fun hb => ?_) fun hb => ?_
  · have hjl : j < (keysM M).length := by simp only [decide_eq_true_eq] at hb; omega
    have hge : (keysM M)[j]? = some (keysM M)[j] := List.getElem?_eq_getElem hjl
    rw [List.drop_eq_getElem_cons hjl, List.foldl_cons] at he
    generalize (keysM M)[j] = key at hge he
    have hz := gsz_at (k := key) hN
    have hll : (lineT M key).length ≤ N := by unfold lineT; rw [List.length_map]; exact hz.1
    have hol2 : out.length ≤ 25000000 := by
      have : j * N ≤ 5000 * 5000 := Nat.mul_le_mul (by omega) hNl
      omega
    refine s_idxS (L := keysM M) (fun w hw => (own_rd (s := ks) hw).1) hge ?_
    refine s_own l ?_
    refine queue_hg hN (by omega) fun q => ?_
    show HG B (SlC ty_api_Tag 4 q ((lineT M key).flatMap tagF) :: _) _
    repeat refine s_nx ?_
    refine s_cap q fun c1 c2 c3 c4 => ?_
    rw [flatMap_len _ 4 tagF_len] at c1
    refine indexT (L := lineT M key) (by omega) (fun w hw => (own_rd (s := q) hw).1) ?_
    have hat : ∃ a : Nat, (if (0 : Int) > idxI ((lineT M key).findIdx? fun t => decide (t = tag)) then 0 else idxI ((lineT M key).findIdx? fun t => decide (t = tag))) = (a : Int) ∧ a ≤ (lineT M key).length ∧ fore tag (lineT M key) = (lineT M key).take a := by
      unfold fore
      cases hf : (lineT M key).findIdx? fun t => decide (t = tag) with
      | none => exact ⟨0, by simp [idxI], Nat.zero_le _, by simp⟩
      | some a =>
        have := (List.findIdx?_eq_some_iff_findIdx_eq.1 hf).1
        exact ⟨a, by show (if (0 : Int) > (a : Int) then 0 else (a : Int)) = a; rw [if_neg (by omega)], by omega, by simp⟩
    obtain ⟨a, ha, hal, hfo⟩ := hat
    refine s_ar ha ?_
    refine s_slc (lo := 0) (hi := a) (mx := q.c) ?_
    rw [cut0 c3]
    rw [hfo] at he
    have hend : ∀ (o' : Sl) (out' : List TagM), out' = ((lineT M key).take a).foldl addT out → HG B (SlC ty_api_Tag 4 o' (out'.flatMap tagF) :: SlS ks (keysM M) :: LocksR l M dm :: blk t3 (.cells (tagF tag).toArray ty_api_Tag (0, 0)) :: Γ) (k' (o', (j : Int) + 1)) := fun o' out' ho => by
      have h3 := addT_len ((lineT M key).take a) out
      rw [← ho, List.length_take] at h3
      refine hk' (o', (j : Int) + 1) (out', j + 1) ⟨by simp, hjl, ?_, ?_⟩ (by simp only; omega)
      · simp only; rw [Nat.add_mul]; omega
      · simp only; rw [ho]; exact he
    refine s_loop (α := Sl × Int) (ι := List TagM × Nat) (fun x i => x.2 = (i.2 : Int) ∧ i.2 ≤ a ∧ i.1 = ((lineT M key).take i.2).foldl addT out)
      (fun x i => SlC ty_api_Tag 4 x.1 (i.1.flatMap tagF) :: SlC ty_api_Tag 4 q ((lineT M key).flatMap tagF) :: SlS ks (keysM M) :: LocksR l M dm :: blk t3 (.cells (tagF tag).toArray ty_api_Tag (0, 0)) :: Γ) (fun x i => a - i.2) (out, 0) ⟨rfl, Nat.zero_le _, by simp⟩ ?_ |> fun h => s_end h
    rintro k2 ⟨o2, _⟩ ⟨out2, i⟩ ⟨rfl, hi, ho2⟩ hk2
    simp only at hi ho2 hk2 ⊢
    unfold locks_Locks_Ahead.b2
    simp only [Nat.sub_zero]
    refine s_ite (fun hb2 => ?_) fun hb2 => ?_
    · have hil : i < a := by simp only [decide_eq_true_eq] at hb2; omega
      have hil2 : i < (lineT M key).length := by omega
      have hge2 : (lineT M key)[i]? = some (lineT M key)[i] := List.getElem?_eq_getElem hil2
      have htk : (lineT M key).take (i + 1) = (lineT M key).take i ++ [(lineT M key)[i]] := List.take_succ_eq_append_getElem hil2
      generalize (lineT M key)[i] = t at hge2 htk
      have h3 := addT_len ((lineT M key).take i) out
      rw [← ho2, List.length_take] at h3
      have hge3 : ((lineT M key).take a)[i]? = some t := by rw [List.getElem?_take, if_pos hil, hge2]
      refine s_idxN (L := (lineT M key).take a) tagF tagF_len (fun w hw => ?_) hge3 ?_
      · have h4 := ((own_rd (s := q) hw).1).take (m := a) (c := q.c) (by omega)
        rwa [flatMap_tk tagF_len] at h4
      refine s_new fun t10 => ?_
      repeat refine s_nx ?_
      refine containsT (L := out2) (by omega) (fun w hw => (own_rd (s := o2) hw).1) ?_
      unfold locks_Locks_Ahead.s3
      refine s_cap o2 fun d1 d2 d3 d4 => ?_
      rw [flatMap_len _ 4 tagF_len] at d1
      refine s_ite (fun hb3 => ?_) fun hb3 => ?_
      · have hm : ¬ t ∈ out2 := by simpa using hb3
        repeat refine s_nx ?_
        refine s_new fun t39 => ?_
        refine s_append (s := o2) (esz := 4) (us := tagF t) (blk_rd rfl) (by simp [flatV]) (by simp only; omega) fun o3 _ => ?_
        rw [show out2.flatMap tagF ++ tagF t = (addT out2 t).flatMap tagF by unfold addT; rw [if_neg hm]; simp only [List.flatMap_append, List.flatMap_cons, List.flatMap_nil, List.append_nil]]
        refine s_ai ?_
        refine s_end (hk2 (o3, (i : Int) + 1) (addT out2 t, i + 1) ⟨by simp, hil, ?_⟩ (by simp only; omega))
        simp only; rw [htk, List.foldl_append, ← ho2]; rfl
      · have hm : t ∈ out2 := by simpa using hb3
        refine s_ai ?_
        refine s_end (hk2 (o2, (i : Int) + 1) (out2, i + 1) ⟨by simp, hil, ?_⟩ (by simp only; omega))
        simp only; rw [htk, List.foldl_append, ← ho2]
        show out2 = addT out2 t
        unfold addT; rw [if_pos hm]
    · have hil : i = a := by simp only [decide_eq_false_iff_not] at hb2; omega
      refine s_ai ?_
      rw [hil] at ho2
      exact s_end (hend o2 out2 ho2)
  · have hjl : j = (keysM M).length := by simp only [decide_eq_false_iff_not] at hb; omega
    rw [hjl, List.drop_length] at he
    rw [List.foldl_nil] at he
    rw [he]
    exact s_end (h o)

/-! ### Moved -/
def clLook (r : Rec) (c : Claim) : Int := lookS r.cnt c.2.cnt r.home c.2.home
def doomL (r : Rec) (L : List Claim) (dm : DM) : DM := L.foldl (fun d c => if clLook r c ≠ 0 then dset d c.1 true else d) dm
def mvP (r : Rec) (_ : List Claim × DM) (c : Claim) : Bool := decide (clLook r c ≠ 1)
def mvS (r : Rec) (x : List Claim × DM) (c : Claim) : List Claim × DM := if clLook r c = 0 then (x.1 ++ [c], x.2) else if clLook r c = 2 then (x.1, dset x.2 c.1 true) else x
def movedM (n : Nat) (S : Recs) (key : List UInt8) (x : GM × DM) : GM × DM :=
  (mset key ((delG (mvP (sGet n S (bs key))) (mvS (sGet n S (bs key))) ((atM key x.1).1, doomL (sGet n S (bs key)) (atM key x.1).1 x.2) (atM key x.1).2).1.1, (delG (mvP (sGet n S (bs key))) (mvS (sGet n S (bs key))) ((atM key x.1).1, doomL (sGet n S (bs key)) (atM key x.1).1 x.2) (atM key x.1).2).2) (gateM key x.1),
   (delG (mvP (sGet n S (bs key))) (mvS (sGet n S (bs key))) ((atM key x.1).1, doomL (sGet n S (bs key)) (atM key x.1).1 x.2) (atM key x.1).2).1.2)
theorem s_wsX {ι : Type} {k : (World → Prop) → K} (Γ0 : ι → List HProp) (i : ι) (h : HG B Γ (k fun w => ∃ i, Holds B (Γ0 i) w)) [d : Drops Γ (Γ0 i)] : HG B Γ (WithS k) := fun w hw => ⟨_, ⟨i, hw.drops⟩, h w hw⟩
theorem s_ldSX {ι : Type} {Γ0 : ι → List HProp} {α : Type} {a : Addr} {c : α → Value} {x : α} {k : α → K} (h0 : ∀ i w, Holds B (Γ0 i) w → w.cell? a = some (c x)) (h : HG B Γ (k x)) : HG B Γ (LdS (fun w => ∃ i, Holds B (Γ0 i) w) a c k) := fun w hw => ⟨x, fun w ⟨i, hi⟩ => h0 i w hi, h w hw⟩
theorem s_svX {ι : Type} {Γ0 : ι → List HProp} (i : ι) (h : HG B Γ k) [d : Drops Γ (Γ0 i)] : HG B Γ (Sv (fun w => ∃ i, Holds B (Γ0 i) w) k) := fun w hw => ⟨⟨i, hw.drops⟩, h w hw⟩
theorem lookS_3 (a b c d : Int) : lookS a b c d = 0 ∨ lookS a b c d = 1 ∨ lookS a b c d = 2 := by
  unfold lookS
  split
  · exact .inr (.inl rfl)
  · split
    · exact .inl rfl
    · exact .inr (.inr rfl)
abbrev doomB (db : Nat) (d : DM) : HProp := ex fun D : List (TagM × Int) => Sep.stars [pur ((∀ t, d t = decide (0 < (mget t D).getD 0)) ∧ (D.map Prod.fst).Nodup), MapR (kyS tagF) (Value.int .i64) db D]
theorem s_doomB {d : DM} (h : ∀ D, (∀ t, d t = decide (0 < (mget t D).getD 0)) → (D.map Prod.fst).Nodup → HG B (MapR (kyS tagF) (Value.int .i64) db D :: Γ) k) : HG B (doomB db d :: Γ) k :=
  s_ex fun D => s_flat <| s_pur fun ⟨h1, h2⟩ => h D h1 h2
theorem s_mkDoom {d : DM} {D : List (TagM × Int)} (h1 : ∀ t, d t = decide (0 < (mget t D).getD 0)) (h2 : (D.map Prod.fst).Nodup) (h : HG B (doomB db d :: Γ) k) : HG B (MapR (kyS tagF) (Value.int .i64) db D :: Γ) k := fun w hw => by
  refine h w ?_
  have h3 : Holds B (Sep.stars [pur ((∀ t, d t = decide (0 < (mget t D).getD 0)) ∧ (D.map Prod.fst).Nodup), MapR (kyS tagF) (Value.int .i64) db D] :: Γ) w := Holds.flat.2 (Holds.pur.2 ⟨⟨h1, h2⟩, hw⟩)
  exact h3.imp fun g hg => ⟨D, hg⟩
abbrev lineB (gb : Nat) (ps : Sl) (L : List Claim) : HProp := ex fun ls : Sl => Sep.stars [blk gb (.cells [ls.val, ps.val].toArray ty_locks_gate (0, 0)), SlC ty_locks_claim 7 ls (L.flatMap clF)]
theorem s_lineB {gb : Nat} {ps : Sl} {L : List Claim} (h : ∀ ls, HG B (blk gb (.cells [ls.val, ps.val].toArray ty_locks_gate (0, 0)) :: SlC ty_locks_claim 7 ls (L.flatMap clF) :: Γ) k) : HG B (lineB gb ps L :: Γ) k :=
  s_ex fun ls => s_flat (h ls)
theorem s_mkLine {gb : Nat} {ls ps : Sl} {L : List Claim} (h : HG B (lineB gb ps L :: Γ) k) : HG B (blk gb (.cells [ls.val, ps.val].toArray ty_locks_gate (0, 0)) :: SlC ty_locks_claim 7 ls (L.flatMap clF) :: Γ) k :=
  s_unflat (Δ := [blk gb (.cells [ls.val, ps.val].toArray ty_locks_gate (0, 0)), SlC ty_locks_claim 7 ls (L.flatMap clF)]) (s_toEx (F := fun ls : Sl => Sep.stars [blk gb (.cells [ls.val, ps.val].toArray ty_locks_gate (0, 0)), SlC ty_locks_claim 7 ls (L.flatMap clF)]) ls h)
theorem mvS_len (r : Rec) (x : List Claim × DM) (c : Claim) : (mvS r x c).1.length ≤ x.1.length + 1 := by
  unfold mvS
  repeat' split
  all_goals simp
theorem delG_len (r : Rec) : ∀ (L : List Claim) (x : List Claim × DM), (delG (mvP r) (mvS r) x L).1.1.length ≤ x.1.length + L.length ∧ (delG (mvP r) (mvS r) x L).2.length ≤ L.length
  | [], x => by simp [delG]
  | c :: L, x => by
    rw [delG_cons]
    have h1 := delG_len r L (mvS r x c)
    have h2 := mvS_len r x c
    refine ⟨by simp only [List.length_cons]; omega, ?_⟩
    simp only
    split
    · simp; omega
    · simp; exact h1.2
theorem delC_hg {s : Sl} {fv : Value} {Q : Sl → K} (h : HG B Γ (delFN Tryz.prog slices_IndexFunc_s_locks_claim_locks_claim.call ty_locks_claim ty_s_locks_claim 0 7 [(.int .i64 0), (.int .u64 0), (.int .u64 0), (.int .i64 0), (.string ⟨#[]⟩), (.int .i64 0), (.int .u64 0)] s fv Q)) : HG B Γ (slices_DeleteFunc_s_locks_claim_locks_claim.call s fv Q) := fun w hw =>
  slices_DeleteFunc_s_locks_claim_locks_claim_ok _ _ _ _ (h w hw)
theorem moved_hg {key : List UInt8} {N : Nat} {Q : K} (hk : key.length < 1000000000) (hN : gsz M N) (hNl : N ≤ 1000000) (h : HG B (LocksR l (movedM n S key (M, dm)).1 (movedM n S key (M, dm)).2 :: StoreR st n S :: Γ) Q) :
    HG B (LocksR l M dm :: StoreR st n S :: Γ) (locks_Locks_Moved.call (some ⟨l, 0, none⟩) (some ⟨st, 0, none⟩) (bs key) Q) := by
  refine fun w hw => locks_Locks_Moved_ok _ _ _ _ _ ?_
  refine hg hw ?_
  clear hw w
  unfold locks_Locks_Moved
  refine s_new fun l3 => ?_
  repeat refine s_nx ?_
  refine s_own l ?_
  refine gate_hg fun gm db X D A g C hf hX => ?_
  have hat := lf_at hX hf
  rw [at_gate] at hat
  have hz := gsz_at (k := key) hN
  rw [hat] at hz
  simp only at hz
  refine s_own st ?_
  refine storeGet_spec (k := bs key) (by show key.length < _; omega) fun s hok => ?_
  have hmv : movedM n S key (M, dm) = movedM n S key (M, dm) := rfl
  conv at hmv => rhs; unfold movedM
  simp only [hat] at hmv
  rw [hmv] at h
  generalize sGet n S (bs key) = r at *
  refine s_new fun g6 => ?_
  refine s_new fun r7 => ?_
  repeat refine s_nx ?_
  have hcl : ∀ c : Claim, lookS r.cnt c.2.cnt r.home c.2.home = clLook r c := fun c => rfl
  refine s_cap g.ls fun a1 a2 a3 a4 => ?_
  refine s_cap g.ps fun b1 b2 b3 b4 => ?_
  rw [flatMap_len _ 7 clF_len] at a1 b1
  refine s_own db ?_
  refine s_mkDoom (d := doomL r (g.line.take 0) dm) hf.doom hf.nd ?_
  -- the line
  refine s_loop (α := Int) (ι := Nat) (fun x i => x = (i : Int) ∧ i ≤ g.line.length)
    (fun x i => doomB db (doomL r (g.line.take i) dm) :: blk r7 (.cells (recL r s).toArray ty_api_Record (0, 0)) :: blk g6 (.cells [.pointer (some ⟨g.b, 0, none⟩)].toArray ty_p_locks_gate (0, 0)) :: blk l3 (.cells [.pointer (some ⟨l, 0, none⟩)].toArray ty_p_locks_Locks (0, 0)) :: StoreR st n S :: gL g (blk l (.cells [.map (some gm), .map (some db)].toArray ty_locks_Locks (0, 0)) :: MapR strV gV gm X :: Sep.stars ((A ++ C).map gB) :: Γ)) (fun x i => g.line.length - i) 0 ⟨rfl, Nat.zero_le _⟩ ?_ |> fun h => s_end h
  rintro k' _ i ⟨rfl, hi⟩ hk'
  unfold locks_Locks_Moved.b1
  refine s_ite (fun hb => ?_) fun hb => ?_
  · have hil : i < g.line.length := by simp only [decide_eq_true_eq] at hb; omega
    have hge : g.line[i]? = some g.line[i] := List.getElem?_eq_getElem hil
    have htk : g.line.take (i + 1) = g.line.take i ++ [g.line[i]] := List.take_succ_eq_append_getElem hil
    generalize g.line[i] = c at hge htk
    have hdm : doomL r (g.line.take (i + 1)) dm = if clLook r c ≠ 0 then dset (doomL r (g.line.take i) dm) c.1 true else doomL r (g.line.take i) dm := by
      rw [htk]; unfold doomL; rw [List.foldl_append]; rfl
    refine s_idxN clF clF_len (fun w hw => (own_rd (s := g.ls) hw).1) hge ?_
    refine s_new fun c9 => ?_
    repeat refine s_nx ?_
    refine lookHg ?_
    rw [hcl]
    unfold locks_Locks_Moved.s2
    have h5 := hk' ((i : Int) + 1) (i + 1) ⟨by simp, hil⟩ (by omega)
    rw [hdm] at h5
    refine s_ite (fun h0 => ?_) fun h0 => ?_
    · rw [if_pos (by simpa using h0)] at h5
      refine s_pick (doomB db (doomL r (g.line.take i) dm)) ?_
      refine s_doomB fun D1 hd1 hd2 => ?_
      repeat refine s_nx ?_
      refine s_updS (b := db) (cel := tagF) (a := c.1) (v := 1) keyS_tag rfl ?_ mapFD
      refine s_mkDoom (doom_set hd1) (nd_set hd2) ?_
      refine s_ai ?_
      exact s_end h5
    · rw [if_neg (by simpa using h0)] at h5
      refine s_ai ?_
      exact s_end h5
  -- the parked ones
  have hil : i = g.line.length := by simp only [decide_eq_false_iff_not] at hb; omega
  rw [hil, List.take_length]
  clear hk' hb hi hil
  have hlen := delG_len r g.park (g.line, doomL r g.line dm)
  refine s_dr ?_
  refine s_wsX (fun ls : Sl => [blk g6 (.cells [.pointer (some ⟨g.b, 0, none⟩)].toArray ty_p_locks_gate (0, 0)), blk g.b (.cells [ls.val, g.ps.val].toArray ty_locks_gate (0, 0))]) g.ls ?_
  refine s_ldSX (x := some ⟨g.b, 0, none⟩) (fun ls w hw => cell_block (own_blkOf (b := g6) hw) rfl) ?_
  refine s_ldSX (x := some ⟨g.b, 0, none⟩) (fun ls w hw => cell_block (own_blkOf (b := g6) hw) rfl) ?_
  refine s_nn ?_
  refine s_ldSX (x := g.ps) (fun ls w hw => ?_) ?_
  · rw [add_mk]
    exact cell_block (own_blkOf (b := g.b) hw) rfl
  refine s_ownS g.ls ?_
  refine s_own g.b ?_
  refine s_mkLine ?_
  refine delC_hg ?_
  refine s_own l3 ?_
  refine s_own g6 ?_
  refine s_own r7 ?_
  refine s_pick (doomB db (doomL r g.line dm)) ?_
  refine s_pick (lineB g.b g.ps g.line) ?_
  refine s_ownS g.ps ?_
  refine s_end (Δ := SlC ty_locks_claim 7 g.ps (g.park.flatMap clF) :: lineB g.b g.ps g.line :: doomB db (doomL r g.line dm) :: blk r7 (.cells (recL r s).toArray ty_api_Record (0, 0)) :: blk g6 (.cells [.pointer (some ⟨g.b, 0, none⟩)].toArray ty_p_locks_gate (0, 0)) :: blk l3 (.cells [.pointer (some ⟨l, 0, none⟩)].toArray ty_p_locks_Locks (0, 0)) :: blk l (.cells [.map (some gm), .map (some db)].toArray ty_locks_Locks (0, 0)) :: StoreR st n S :: MapR strV gV gm X :: Sep.stars ((A ++ C).map gB) :: Γ) ?_
  refine s_delFN (γ := List Claim × DM) (R := fun x => lineB g.b g.ps x.1 :: doomB db x.2 :: blk r7 (.cells (recL r s).toArray ty_api_Record (0, 0)) :: blk g6 (.cells [.pointer (some ⟨g.b, 0, none⟩)].toArray ty_p_locks_gate (0, 0)) :: blk l3 (.cells [.pointer (some ⟨l, 0, none⟩)].toArray ty_p_locks_Locks (0, 0)) :: blk l (.cells [.map (some gm), .map (some db)].toArray ty_locks_Locks (0, 0)) :: StoreR st n S :: MapR strV gV gm X :: Sep.stars ((A ++ C).map gB) :: Γ)
    (L := g.park) (f := clF) (mvP r) (mvS r) (g.line, doomL r g.line dm) (fun x C => x.1.length + C.length ≤ 2000000) (by simp only; omega) (fun x c C h => by have := mvS_len r x c; simp only [List.length_cons] at h; omega) (fun s fv Q w h => slices_IndexFunc_s_locks_claim_locks_claim_ok _ _ _ _ h) clF_len (by omega) (fun _ => rfl) rfl (by omega) (fun Ξ x c C2 q hc hIx hq => ?_) (fun ps' _ => ?_)
  · refine s_callvC (cs := [.pointer (some ⟨r7, 0, none⟩), .pointer (some ⟨g6, 0, none⟩), .pointer (some ⟨l3, 0, none⟩)]) ?_
    refine fun w hw => locks_Locks_Moved_1_ok _ _ _ _ _ _ ?_
    refine hg hw ?_
    clear hw w
    unfold locks_Locks_Moved_1
    refine s_new fun c4 => ?_
    repeat refine s_nx ?_
    refine lookHg ?_
    rw [hcl]
    have e1 : mvP r x c = decide (clLook r c ≠ 1) := rfl
    rw [e1] at hq
    refine s_ite (fun h0 => ?_) fun h0 => ?_
    · have h0' : clLook r c = 0 := by simpa using h0
      rw [show mvS r x c = (x.1 ++ [c], x.2) by unfold mvS; rw [if_pos h0']] at hq
      refine s_pick (lineB g.b g.ps x.1) ?_
      refine s_lineB fun ls => ?_
      refine s_cap ls fun d1 d2 d3 d4 => ?_
      rw [flatMap_len _ 7 clF_len] at d1
      refine s_dr ?_
      refine s_wsD [blk g.b (.cells [ls.val, g.ps.val].toArray ty_locks_gate (0, 0)), blk g6 (.cells [.pointer (some ⟨g.b, 0, none⟩)].toArray ty_p_locks_gate (0, 0)), blk c4 (.cells (clF c).toArray ty_locks_claim (0, 0))] ?_
      repeat refine s_nx ?_
      refine s_new fun t => ?_
      repeat refine s_nx ?_
      refine s_append (s := ls) (esz := 7) (us := clF c) (blk_rd rfl) (by intro v hv; exact clF_fl [c] v (by simpa using hv)) (by simp only; omega) fun ls' _ => ?_
      rw [show x.1.flatMap clF ++ clF c = (x.1 ++ [c]).flatMap clF by simp only [List.flatMap_append, List.flatMap_cons, List.flatMap_nil, List.append_nil]]
      repeat refine s_nx ?_
      refine s_ownS ls' ?_
      refine s_own g.b ?_
      refine s_mkLine ?_
      unfold locks_Locks_Moved_1.s1
      exact s_end hq
    · have h0' : ¬ clLook r c = 0 := by simpa using h0
      refine s_ite (fun h2 => ?_) fun h2 => ?_
      · have h2' : clLook r c = 2 := by simpa using h2
        rw [show mvS r x c = (x.1, dset x.2 c.1 true) by unfold mvS; rw [if_neg h0', if_pos h2']] at hq
        refine s_pick (doomB db x.2) ?_
        refine s_doomB fun D1 hd1 hd2 => ?_
        repeat refine s_nx ?_
        refine s_updS (b := db) (cel := tagF) (a := c.1) (v := 1) keyS_tag rfl ?_ mapFD
        refine s_mkDoom (doom_set hd1) (nd_set hd2) ?_
        unfold locks_Locks_Moved_1.s1
        exact s_end hq
      · have h2' : ¬ clLook r c = 2 := by simpa using h2
        rw [show mvS r x c = x by unfold mvS; rw [if_neg h0', if_neg h2']] at hq
        unfold locks_Locks_Moved_1.s1
        exact s_end hq
  · generalize (delG (mvP r) (mvS r) (g.line, doomL r g.line dm) g.park) = y at *
    obtain ⟨⟨y1, y2⟩, y3⟩ := y
    simp only at h hlen ⊢
    refine s_pick (lineB g.b g.ps y1) ?_
    refine s_lineB fun ls' => ?_
    refine s_svX ls' ?_
    refine s_nn ?_
    repeat refine s_nx ?_
    refine s_pick (doomB db y2) ?_
    refine s_doomB fun D1 hd1 hd2 => ?_
    refine s_end (Δ := gL ⟨g.b, ls', ps', y1, y3⟩ (lockF l gm db X (A ++ C) D1 (StoreR st n S :: Γ))) ?_
    exact s_ungate hX rfl hf ⟨hd1, hd2⟩ h
end
end Go.Proofs.YtfjjocopmknhgaaGreat
/- Transactions as they lie in memory. -/
namespace Go.Proofs.YtfjjocopmknhgaaGreat
open Go Go.Sep
set_option linter.unusedSimpArgs false
set_option linter.unusedVariables false

structure OpM where
  kind : Int
  key : List UInt8
  val : List UInt8
  n : Int
deriving DecidableEq
abbrev OpX := OpM × Sl
abbrev opF (x : OpX) : List Value := [.int .i64 x.1.kind, strV x.1.key, x.2.val, .int .i64 x.1.n]
theorem opF_len (x : OpX) : (opF x).length = 4 := rfl
structure TxX where
  kind : Int
  reads : List (List UInt8)
  writes : List (List UInt8)
  ops : List OpX
  to : Int
  rs : Sl
  ws : Sl
  os : Sl
abbrev txL (t : TxX) : List Value := [.int .i64 t.kind, t.rs.val, t.ws.val, t.os.val, .int .i64 t.to]
/-- A transaction's memory can be read. -/
def txRd (w : World) (t : TxX) : Prop := RdC w t.rs 1 (t.reads.map strV) ∧ RdC w t.ws 1 (t.writes.map strV) ∧ RdC w t.os 4 (t.ops.flatMap opF) ∧ ∀ x ∈ t.ops, RdB w x.2 x.1.val
end Go.Proofs.YtfjjocopmknhgaaGreat
/- Lists of texts: slices.Concat of two, slices.Compact; lists that rise. -/
namespace Go.Proofs.YtfjjocopmknhgaaGreat
open Go Go.Sep
set_option linter.unusedSimpArgs false
set_option linter.unusedVariables false
set_option maxRecDepth 100000

abbrev TX := List UInt8
def cmpct {α : Type} [DecidableEq α] : List α → List α
  | [] => []
  | [x] => [x]
  | x :: y :: L => if y = x then cmpct (y :: L) else x :: cmpct (y :: L)
theorem cmpct_snoc {α : Type} [DecidableEq α] : ∀ (A : List α) (a b : α), cmpct (A ++ [a, b]) = if b = a then cmpct (A ++ [a]) else cmpct (A ++ [a]) ++ [b]
  | [], a, b => by
    by_cases h : b = a <;> simp [cmpct, h]
  | [x], a, b => by
    have h1 := cmpct_snoc [] a b
    simp only [List.nil_append, List.singleton_append] at h1 ⊢
    rw [cmpct, h1]
    by_cases h : b = a
    · rw [if_pos h, if_pos h]; simp [cmpct]
    · rw [if_neg h, if_neg h]
      by_cases h2 : a = x
      · simp [cmpct, h2]
      · simp [cmpct, h2]
  | x :: y :: A, a, b => by
    have h1 := cmpct_snoc (y :: A) a b
    simp only [List.cons_append] at h1 ⊢
    rw [cmpct, h1]
    by_cases h : b = a
    · rw [if_pos h, if_pos h, cmpct]
    · rw [if_neg h, if_neg h]
      by_cases h2 : y = x
      · simp [cmpct, h2]
      · simp [cmpct, h2]
theorem cmpct_len {α : Type} [DecidableEq α] : ∀ L : List α, (cmpct L).length ≤ L.length
  | [] => Nat.le_refl _
  | [x] => Nat.le_refl _
  | x :: y :: L => by
    have := cmpct_len (y :: L)
    rw [cmpct]
    split
    · exact Nat.le_succ_of_le this
    · simp only [List.length_cons] at this ⊢; omega
theorem cmpct_mem {α : Type} [DecidableEq α] : ∀ {L : List α} {x : α}, x ∈ cmpct L ↔ x ∈ L
  | [], x => Iff.rfl
  | [y], x => Iff.rfl
  | y :: z :: L, x => by
    have ih := cmpct_mem (L := z :: L) (x := x)
    rw [cmpct]
    split
    · rename_i h
      rw [ih, h]; simp
    · rw [List.mem_cons, ih, List.mem_cons (a := x) (b := y)]
theorem cmpct_head : ∀ (x : TX) (L : List TX), (∀ y ∈ L, x ≤ y) → ∀ z, z ∈ (cmpct (x :: L)).tail → (x :: L).Pairwise (· ≤ ·) → x < z
  | x, [], _, z, hz, _ => by simp [cmpct] at hz
  | x, y :: L, h, z, hz, hp => by
    rw [cmpct] at hz
    have hp2 := List.pairwise_cons.1 hp
    split at hz
    · rename_i e
      subst e
      exact cmpct_head y L (fun w hw => h w (List.mem_cons_of_mem _ hw)) z hz hp2.2
    · rename_i e
      rw [List.tail_cons, cmpct_mem] at hz
      have h1 : x ≤ z := h z hz
      rcases List.le_iff_lt_or_eq.1 h1 with h2 | h2
      · exact h2
      · exfalso
        have h3 : y ≤ z := by
          rcases List.mem_cons.1 hz with rfl | hz
          · exact List.le_refl _
          · exact (List.pairwise_cons.1 hp2.2).1 z hz
        have h4 : x ≤ y := h y List.mem_cons_self
        exact e (List.le_antisymm (by rw [h2]; exact h3) h4)
/-- Of a sorted list a list that rises. -/
theorem cmpct_rises : ∀ (L : List TX), L.Pairwise (· ≤ ·) → (cmpct L).Pairwise (· < ·)
  | [], _ => List.Pairwise.nil
  | [x], _ => List.pairwise_singleton _ _
  | x :: y :: L, h => by
    have ih := cmpct_rises (y :: L) (List.pairwise_cons.1 h).2
    rw [cmpct]
    split
    · exact ih
    · rename_i e
      refine List.pairwise_cons.2 ⟨fun z hz => ?_, ih⟩
      refine cmpct_head x (y :: L) (List.pairwise_cons.1 h).1 z ?_ h
      rw [cmpct, if_neg e]; exact hz
theorem rises_eq : ∀ {L M : List TX}, L.Pairwise (· < ·) → M.Pairwise (· < ·) → (∀ x, x ∈ L ↔ x ∈ M) → L = M
  | [], [], _, _, _ => rfl
  | [], y :: M, _, _, h => by have := (h y).2 List.mem_cons_self; simp at this
  | x :: L, [], _, _, h => by have := (h x).1 List.mem_cons_self; simp at this
  | x :: L, y :: M, hL, hM, h => by
    have h1 := List.pairwise_cons.1 hL
    have h2 := List.pairwise_cons.1 hM
    have hxy : x = y := by
      rcases List.mem_cons.1 ((h x).1 List.mem_cons_self) with e | e
      · exact e
      · rcases List.mem_cons.1 ((h y).2 List.mem_cons_self) with e2 | e2
        · exact e2.symm
        · exact absurd (List.lt_trans (h1.1 y e2) (h2.1 x e)) (List.lt_irrefl _)
    subst hxy
    congr 1
    refine rises_eq h1.2 h2.2 fun z => ?_
    constructor
    · intro hz
      rcases List.mem_cons.1 ((h z).1 (List.mem_cons_of_mem _ hz)) with e | e
      · subst e; exact absurd (h1.1 z hz) (List.lt_irrefl _)
      · exact e
    · intro hz
      rcases List.mem_cons.1 ((h z).2 (List.mem_cons_of_mem _ hz)) with e | e
      · subst e; exact absurd (h2.1 z hz) (List.lt_irrefl _)
      · exact e
theorem sortL_le (L : List TX) : (sortL L).Pairwise (· ≤ ·) := by
  have := List.pairwise_mergeSort (le := fun a b : TX => decide (a ≤ b)) (fun a b c h1 h2 => by simp only [decide_eq_true_eq] at *; exact List.le_trans h1 h2) (fun a b => by simp only [Bool.or_eq_true, decide_eq_true_eq]; exact List.le_total a b) L
  refine List.Pairwise.imp ?_ this
  intro a b h; simpa using h
section
variable {B : World} {Γ Δ : List HProp} {k : K}
theorem compact_hg {s : Sl} {L : List TX} {Q : Sl → K} (hL : L.length < 100000000) (h : ∀ s', HG B (SlS s' (cmpct L) :: Γ) (Q s')) : HG B (SlS s L :: Γ) (slices_Compact_s_string_string.call s Q) := by
  refine fun w hw => slices_Compact_s_string_string_ok _ _ _ ?_
  refine hg hw ?_
  clear hw w
  unfold slices_Compact_s_string_string
  refine s_cap s fun a1 a2 a3 a4 => ?_
  rw [List.length_map, Nat.mul_one] at a1
  refine s_ite (fun hb => ?_) fun hb => ?_
  · have e : cmpct L = L := by
      match L, a1 with
      | [], _ => rfl
      | [x], _ => rfl
      | x :: y :: L, a1 => simp only [List.length_cons] at a1; simp only [decide_eq_true_eq] at hb; omega
    rw [e] at h
    exact h s
  have hn2 : 2 ≤ L.length := by simp only [decide_eq_false_iff_not] at hb; omega
  refine s_loopC (α := Int) (fun x => ∃ i : Nat, x = (i : Int) ∧ 1 ≤ i ∧ i ≤ L.length ∧ cmpct (L.take i) = L.take i) (fun x => L.length - x.toNat) ⟨1, rfl, Nat.le_refl _, by omega, ?_⟩ fun k' x hx hk' => ?_
  · match L, hn2 with
    | x :: L, _ => simp [cmpct]
  obtain ⟨i, rfl, hi1, hi, hc⟩ := hx
  unfold slices_Compact_s_string_string.b1
  refine s_ite (fun hb2 => ?_) fun hb2 => ?_
  rotate_left
  · have hil : i = L.length := by simp only [decide_eq_false_iff_not] at hb2; omega
    rw [hil, List.take_length] at hc
    rw [hc] at h
    exact h s
  have hil : i < L.length := by simp only [decide_eq_true_eq] at hb2; omega
  obtain ⟨j, rfl⟩ : ∃ j, i = j + 1 := ⟨i - 1, by omega⟩
  -- what one more makes
  have step : ∀ m, m + 1 < L.length → cmpct (L.take (m + 2)) = if L[m + 1]? = L[m]? then cmpct (L.take (m + 1)) else cmpct (L.take (m + 1)) ++ L[m + 1]?.toList := fun m hm => by
    have t1 : L.take (m + 2) = L.take m ++ [L[m], L[m + 1]] := by rw [List.take_succ_eq_append_getElem hm, List.take_succ_eq_append_getElem (by omega), List.append_assoc]; rfl
    have t2 : L.take (m + 1) = L.take m ++ [L[m]] := List.take_succ_eq_append_getElem (by omega)
    rw [t1, t2, cmpct_snoc, List.getElem?_eq_getElem hm, List.getElem?_eq_getElem (show m < L.length by omega)]
    simp
  obtain ⟨a, ha⟩ : ∃ a, L[j + 1]? = some a := ⟨_, List.getElem?_eq_getElem hil⟩
  obtain ⟨b, hb'⟩ : ∃ b, L[j]? = some b := ⟨_, List.getElem?_eq_getElem (by omega)⟩
  refine s_dr ?_
  refine s_idxS (L := L) (j := j + 1) (fun w hw => (own_rd (s := s) hw).1) ha ?_ rfl
  refine s_ai ?_
  refine s_idxS (L := L) (j := j) (fun w hw => (own_rd (s := s) hw).1) hb' ?_ (by omega)
  rw [bs_list, bs_list]
  have hst := step j hil
  rw [ha, hb'] at hst
  refine s_ite (fun he => ?_) fun he => ?_
  rotate_left
  · have hne : ¬ some a = some b := by simpa using he
    rw [if_neg hne] at hst
    refine s_ai ?_
    refine hk' _ ⟨j + 2, by simp; omega, by omega, hil, ?_⟩ (by omega)
    rw [hst, hc, List.take_succ_eq_append_getElem hil]
    rw [List.getElem?_eq_getElem hil] at ha
    rw [Option.some.inj ha]; rfl
  -- two that are one
  have hab : some a = some b := by simpa using he
  rw [if_pos hab, hc] at hst
  refine s_slc (lo := j + 1) (hi := s.n) (mx := s.c) ?_
  refine s_loop (α := Int × Int) (ι := Nat × Nat × List TX) (fun y i => y.1 = (i.1 : Int) ∧ y.2 = (i.2.1 : Int) ∧ 1 ≤ i.2.1 ∧ j + 1 + i.2.1 ≤ L.length ∧ i.1 < j + 1 + i.2.1 ∧ i.2.2.length = L.length ∧ i.2.2.drop (j + i.2.1) = L.drop (j + i.2.1) ∧ i.2.2.take i.1 = cmpct (L.take (j + 1 + i.2.1)))
    (fun y i => SlS s i.2.2 :: Γ) (fun y i => L.length - i.2.1) (j + 1, 1, L) ⟨rfl, rfl, Nat.le_refl _, by simp only; omega, by simp only; omega, rfl, rfl, hst.symm⟩ ?_
  rintro k2 ⟨_, _⟩ ⟨p, q, M⟩ ⟨rfl, rfl, hq1, hq, hpq, hM, hd, ht⟩ hk2
  simp only at hq1 hq hpq hM hd ht hk2 ⊢
  unfold slices_Compact_s_string_string.b2
  simp only
  refine s_cap s fun d1 d2 d3 d4 => ?_
  rw [List.length_map, Nat.mul_one] at d1
  refine s_ite (fun hb3 => ?_) fun hb3 => ?_
  · have hql : j + 1 + q < L.length := by simp only [decide_eq_true_eq] at hb3; omega
    obtain ⟨x, hx⟩ : ∃ x, L[j + 1 + q]? = some x := ⟨_, List.getElem?_eq_getElem hql⟩
    obtain ⟨y, hy⟩ : ∃ y, L[j + q]? = some y := ⟨_, List.getElem?_eq_getElem (by omega)⟩
    have hMx : M[j + 1 + q]? = some x := by
      have := congrArg (·[1]?) hd
      simp only [List.getElem?_drop] at this
      rw [show j + q + 1 = j + 1 + q by omega] at this
      rw [this, hx]
    have hMy : M[j + q]? = some y := by
      have := congrArg (·[0]?) hd
      simp only [List.getElem?_drop, Nat.add_zero] at this
      rw [this, hy]
    have hrd : ∀ w, Holds B (SlS s M :: Γ) w → RdC w ⟨cutA s.a (j + 1) s.c 1, s.n - (j + 1), s.c - (j + 1)⟩ 1 ((M.drop (j + 1)).map strV) := fun w hw => by
      have := (own_rd (s := s) hw).1.drop (l := j + 1) (c := s.c) (by omega) d2 d3
      rwa [Nat.mul_one, ← List.map_drop] at this
    have hst2 := step (j + q) (by omega)
    rw [show j + q + 1 = j + 1 + q by omega, hx, hy, show j + q + 2 = j + 1 + (q + 1) by omega] at hst2
    refine s_dr ?_
    refine s_idxS (L := M.drop (j + 1)) (j := q) hrd (by rw [List.getElem?_drop]; exact hMx) ?_ rfl
    refine s_ai ?_
    refine s_idxS (L := M.drop (j + 1)) (j := q - 1) hrd (by rw [List.getElem?_drop, show j + 1 + (q - 1) = j + q by omega]; exact hMy) ?_ (by omega)
    rw [bs_list, bs_list]
    unfold slices_Compact_s_string_string.s3
    refine s_ite (fun he2 => ?_) fun he2 => ?_
    · have hne : ¬ some x = some y := by simpa using he2
      rw [if_neg hne] at hst2
      refine s_idxS (L := M.drop (j + 1)) (j := q) hrd (by rw [List.getElem?_drop]; exact hMx) ?_ rfl
      refine s_idx (s := s) (i := p) ?_
      rw [← add0 (elA s p 1)]
      refine s_stE (s := s) ?_ (by simp; omega)
      rw [show p * 1 + 0 = p by omega, show Value.string (bs x) = strV x from rfl, ← List.map_set]
      refine s_ai ?_
      refine s_ai ?_
      refine hk2 _ (p + 1, q + 1, M.set p x) ⟨by simp, by simp, by simp only; omega, by simp only; omega, by simp only; omega, by simpa using hM, ?_, ?_⟩ (by simp only; omega)
      · simp only
        rw [List.drop_set_of_lt (by omega), show j + (q + 1) = (j + q) + 1 by omega, ← List.drop_drop, hd, List.drop_drop]
      · simp only
        rw [set_take (by omega), ht, hst2]; rfl
    · have heq : some x = some y := by simpa using he2
      rw [if_pos heq] at hst2
      refine s_ai ?_
      refine hk2 _ (p, q + 1, M) ⟨rfl, by simp, by simp only; omega, by simp only; omega, by simp only; omega, hM, ?_, ?_⟩ (by simp only; omega)
      · simp only
        rw [show j + (q + 1) = (j + q) + 1 by omega, ← List.drop_drop, hd, List.drop_drop]
      · simp only
        rw [ht, hst2]
  · have hql : j + 1 + q = L.length := by simp only [decide_eq_false_iff_not] at hb3; omega
    rw [hql, List.take_length] at ht
    refine s_slc (lo := p) (hi := s.n) (mx := s.c) ?_
    refine s_shrink (s := s) (m := p) (c' := s.c) (by omega) (by omega) (Nat.le_refl _) ?_
    rw [show (M.map strV).take (p * 1) = (cmpct L).map strV by rw [Nat.mul_one, ← List.map_take, ht]]
    refine s_clear (s := ⟨s.a, p, s.c⟩) (l := p) (q := s.n - p) (m := s.c) rfl (Nat.le_refl _) (by simp only; omega) (by omega) ?_
    refine s_slc (lo := 0) (hi := p) (mx := s.c) ?_
    rw [cut0 d3]
    exact h ⟨s.a, p, s.c⟩
theorem grow0_hg {n : Nat} {Q : Sl → K} (hn : n < 50000000) (h : ∀ s, s.n = 0 → HG B (SlS s [] :: Γ) (Q s)) : HG B Γ (slices_Grow_s_string_string.call ⟨none, 0, 0⟩ (n : Int) Q) := by
  refine fun w hw => slices_Grow_s_string_string_ok _ _ _ _ ?_
  refine hg hw ?_
  clear hw w
  unfold slices_Grow_s_string_string
  refine s_f ?_ (by simp)
  unfold slices_Grow_s_string_string.s1
  refine cap_run (s := ⟨none, 0, 0⟩) (E := ty_string) (esz := 1) (by kernel_rfl) ?_
  refine s_ar (e' := 0) (by rw [wrap64 (by simp) (by simp)]; simp) ?_
  refine s_ar (e' := (n : Int)) (by rw [wrap64 (by omega) (by omega)]; omega) ?_
  unfold slices_Grow_s_string_string.s2
  refine s_ite (fun hb => ?_) fun hb => ?_
  · refine cap_run (s := ⟨none, 0, 0⟩) (E := ty_string) (esz := 1) (by kernel_rfl) ?_
    refine s_slc (lo := 0) (hi := 0) (mx := 0) ?_
    refine s_appZ (s := ⟨none, 0, 0⟩) (vs := []) (E := ty_string) (esz := 1) (by omega) (by simp only [decide_eq_true_eq] at hb; simp; omega) (by simp; omega) (fun s' zs hs' hz hf => ?_) (fun w hw => RdC.none') (Nat.le_refl _)
    simp only [Nat.zero_add, List.nil_append] at hs' ⊢
    refine s_cap s' fun a1 a2 a3 a4 => ?_
    refine s_slc (lo := 0) (hi := 0) (mx := s'.c) ?_ rfl (by simp) rfl
    rw [cut0 a3]
    refine s_shrink (s := s') (m := 0) (c' := s'.c) (Nat.zero_le _) (Nat.zero_le _) (Nat.le_refl _) ?_
    simp only [Nat.zero_mul, List.take_zero, Nat.sub_zero]
    exact h ⟨s'.a, 0, s'.c⟩ rfl
  · refine fun w hw => ?_
    exact h ⟨none, 0, 0⟩ rfl w (hw.nilSl _ _)
/-- Two lists of texts, one behind the other. -/
theorem concat2_hg {t : Nat} {a b : Sl} {La Lb : List TX} {Q : Sl → K} (hla : La.length ≤ 10000000) (hlb : Lb.length ≤ 10000000) (ha : ∀ w, Holds B Γ w → RdC w a 1 (La.map strV)) (hb : ∀ w, Holds B Γ w → RdC w b 1 (Lb.map strV)) (h : ∀ s, HG B (SlS s (La ++ Lb) :: Γ) (Q s)) :
    HG B (blk t (.cells [a.val, b.val].toArray ty_s_string (0, 0)) :: Γ) (slices_Concat_s_string_string.call (Sl.mk (some ⟨t, 0, none⟩) 2 2) Q) := fun w hw => by
  refine slices_Concat_s_string_string_ok _ _ _ ?_
  have han : a.n = La.length := by have := (ha w hw.tail).len; simpa using this.symm
  have hbn : b.n = Lb.length := by have := (hb w hw.tail).len; simpa using this.symm
  refine Sep.hg hw ?_
  clear hw w
  unfold slices_Concat_s_string_string
  have rd : ∀ {X : List HProp} [Drops X (blk t (.cells [a.val, b.val].toArray ty_s_string (0, 0)) :: Γ)], ∀ w, Holds B X w → RdC w (Sl.mk (some ⟨t, 0, none⟩) 2 2) 1 ([a, b].map Sl.val) := fun w hw => by
    have := RdC.of_blk (esz := 1) (E := ty_s_string) (b := t) (n := 2) (vs := [a.val, b.val]) (cs := [a.val, b.val].toArray) (Γ := blk t (.cells [a.val, b.val].toArray ty_s_string (0, 0)) :: Γ) hw.drops List.mem_cons_self (by simp) rfl 2
    simpa using this
  refine s_loop (α := Int × Int) (ι := Nat) (fun x j => j ≤ 2 ∧ x.2 = (j : Int) ∧ x.1 = (if j = 0 then 0 else if j = 1 then La.length else La.length + Lb.length : Nat)) (fun x j => blk t (.cells [a.val, b.val].toArray ty_s_string (0, 0)) :: Γ) (fun x j => 2 - j) 0 ⟨by omega, rfl, rfl⟩ ?_
  rintro k' ⟨_, _⟩ j ⟨hj, rfl, rfl⟩ hk'
  simp only at hk' ⊢
  unfold slices_Concat_s_string_string.b1 slices_Concat_s_string_string.s2
  match j, hj with
  | 0, _ =>
    refine s_t ?_
    refine s_idx1 (L := [a, b]) (j := 0) (x := a) rd rfl ?_ rfl
    refine s_ar (e' := (La.length : Int)) (by rw [wrap64 (by simp <;> omega) (by simp <;> omega)]; simp <;> omega) ?_
    refine s_f ?_
    refine s_ai ?_
    exact hk' _ 1 ⟨by omega, rfl, rfl⟩ (by omega)
  | 1, _ =>
    refine s_t ?_
    refine s_idx1 (L := [a, b]) (j := 1) (x := b) rd rfl ?_ rfl
    refine s_ar (e' := ((La.length + Lb.length : Nat) : Int)) (by rw [wrap64 (by simp <;> omega) (by simp <;> omega)]; simp <;> omega) ?_
    refine s_f ?_
    refine s_ai ?_
    exact hk' _ 2 ⟨by omega, rfl, rfl⟩ (by omega)
  | 2, _ =>
    refine s_f ?_
    refine grow0_hg (n := La.length + Lb.length) (by omega) fun s0 hs0 => ?_
    refine s_loop (α := Sl × Int) (ι := Nat) (fun x j => j ≤ 2 ∧ x.2 = (j : Int) ∧ x.1.n = (if j = 0 then 0 else if j = 1 then La.length else La.length + Lb.length)) (fun x j => SlS x.1 (if j = 0 then [] else if j = 1 then La else La ++ Lb) :: blk t (.cells [a.val, b.val].toArray ty_s_string (0, 0)) :: Γ) (fun x j => 2 - j) 0 ⟨by omega, rfl, hs0⟩ ?_
    rintro k2 ⟨s1, _⟩ j ⟨hj, rfl, hs1⟩ hk2
    simp only at hs1 hk2 ⊢
    unfold slices_Concat_s_string_string.b3
    match j, hj with
    | 0, _ =>
      refine s_t ?_
      refine s_idx1 (L := [a, b]) (j := 0) (x := a) rd rfl ?_ rfl
      simp only [if_true] at hs1
      refine s_append (s := s1) (us := La.map strV) (fun w hw => ha w hw.drops) (fun v hv => by obtain ⟨y, _, rfl⟩ := List.mem_map.1 hv; rfl) (by omega) fun s2 hs2 => ?_
      refine s_ai ?_
      exact hk2 (s2, 1) 1 ⟨by omega, rfl, by show s2.n = La.length; omega⟩ (by omega)
    | 1, _ =>
      refine s_t ?_
      refine s_idx1 (L := [a, b]) (j := 1) (x := b) rd rfl ?_ rfl
      have hs1' : s1.n = La.length := hs1
      refine s_append (s := s1) (vs := La.map strV) (us := Lb.map strV) (fun w hw => hb w hw.drops) (fun v hv => by obtain ⟨y, _, rfl⟩ := List.mem_map.1 hv; rfl) (by omega) fun s2 hs2 => ?_
      refine s_ai ?_
      rw [← List.map_append]
      exact hk2 (s2, 2) 2 ⟨by omega, rfl, by show s2.n = La.length + Lb.length; omega⟩ (by omega)
    | 2, _ =>
      refine s_f ?_
      show HG B (SlS s1 (La ++ Lb) :: blk t (.cells [a.val, b.val].toArray ty_s_string (0, 0)) :: Γ) _
      exact s_end (h s1)
end
end Go.Proofs.YtfjjocopmknhgaaGreat
/- Plain forms of functions, and that their code comes to them (package ref05). -/
namespace Go.Proofs.YtfjjocopmknhgaaGreat
open Go Go.Sep
set_option linter.unusedVariables false
set_option linter.unusedSimpArgs false
set_option maxRecDepth 100000
set_option maxHeartbeats 4000000
attribute [local irreducible] G Gp Cx Tx Ex Sx Dx Ox Ax Lx Rx Fx Bx Bj Al Do Ld LdN St StN New CallF Ar DoU Rd Rd2 Pu Cd Ite Fv CallV CallY Ans0 Ans1 Ans2 Ans3 Ans4 Ans5 Ext Dead Dr WithS Sv LdS LdNS RdS Rd2S Nn Idx IdxA IdxS Fld Bld Slc SlcS Cat All LoopK RangeF RangeJ TakeD
namespace F_IRRef05
instance at_109 : AT Tryz.prog 109 4 := ⟨by kernel_rfl⟩
instance at_26 : AT Tryz.prog 26 5 := ⟨by kernel_rfl⟩
instance cb_45 : CB Tryz.prog 45 := ⟨by kernel_rfl⟩
instance cb_46 : CB Tryz.prog 46 := ⟨by kernel_rfl⟩
instance cb_47 : CB Tryz.prog 47 := ⟨by kernel_rfl⟩
instance cb_64 : CB Tryz.prog 64 := ⟨by kernel_rfl⟩
instance ct_2 : CT Tryz.prog 2 := ⟨by kernel_rfl⟩
instance ct_23 : CT Tryz.prog 23 := ⟨by kernel_rfl⟩
instance ct_24 : CT Tryz.prog 24 := ⟨by kernel_rfl⟩
instance ct_3 : CT Tryz.prog 3 := ⟨by kernel_rfl⟩
instance ct_45 : CT Tryz.prog 45 := ⟨by kernel_rfl⟩
instance ct_9 : CT Tryz.prog 9 := ⟨by kernel_rfl⟩
instance ft_109_0 : FT Tryz.prog 109 0 0 1 := ⟨by kernel_rfl⟩
instance ft_109_1 : FT Tryz.prog 109 1 1 1 := ⟨by kernel_rfl⟩
instance ft_109_2 : FT Tryz.prog 109 2 2 1 := ⟨by kernel_rfl⟩
instance ft_109_3 : FT Tryz.prog 109 3 3 1 := ⟨by kernel_rfl⟩
instance ft_26_0 : FT Tryz.prog 26 0 0 1 := ⟨by kernel_rfl⟩
instance ft_26_1 : FT Tryz.prog 26 1 1 1 := ⟨by kernel_rfl⟩
instance ft_26_2 : FT Tryz.prog 26 2 2 1 := ⟨by kernel_rfl⟩
instance ft_26_3 : FT Tryz.prog 26 3 3 1 := ⟨by kernel_rfl⟩
instance ft_26_4 : FT Tryz.prog 26 4 4 1 := ⟨by kernel_rfl⟩
instance mx : MX Tryz.prog := ⟨mixed⟩
instance pl_26 : PLT Tryz.prog 26 [(0, 1), (1, 1), (2, 1), (3, 1), (4, 1)] := ⟨_, Tryz.underlying26, by kernel_rfl⟩
instance sl_23 : SLT Tryz.prog 23 9 1 := ⟨by kernel_rfl⟩
instance sl_24 : SLT Tryz.prog 24 109 4 := ⟨by kernel_rfl⟩
instance sl_45 : SLT Tryz.prog 45 5 1 := ⟨by kernel_rfl⟩
instance st_9 : STT Tryz.prog 9 := ⟨by kernel_rfl⟩
instance sz_109 : SZ Tryz.prog 109 4 := ⟨by kernel_rfl⟩
instance sz_24 : SZ Tryz.prog 24 1 := ⟨by kernel_rfl⟩
instance sz_26 : SZ Tryz.prog 26 5 := ⟨by kernel_rfl⟩
instance sz_45 : SZ Tryz.prog 45 1 := ⟨by kernel_rfl⟩
instance sz_9 : SZ Tryz.prog 9 1 := ⟨by kernel_rfl⟩
instance zt_109 : ZT Tryz.prog 109 (.agg #[(.int .i64 0), (.string ⟨#[]⟩), (Sl.val ⟨none, 0, 0⟩), (.int .i64 0)]) := ⟨Tryz.t109, by kernel_rfl, by kernel_rfl⟩
instance zt_26 : ZT Tryz.prog 26 (.agg #[(.int .i64 0), (Sl.val ⟨none, 0, 0⟩), (Sl.val ⟨none, 0, 0⟩), (Sl.val ⟨none, 0, 0⟩), (.int .i64 0)]) := ⟨Tryz.t26, by kernel_rfl, by kernel_rfl⟩
instance zt_5 : ZT Tryz.prog 5 (.int .u8 0) := ⟨Tryz.t5, by kernel_rfl, by kernel_rfl⟩
instance zt_9 : ZT Tryz.prog 9 (.string ⟨#[]⟩) := ⟨Tryz.t9, by kernel_rfl, by kernel_rfl⟩
end F_IRRef05
def ref05_Great.s5 (Q : Bool → K) (X2 : Int → K) (X3 : Int → K) (X4 : Int → K) (t1_5 : Addr) (i5_5 : Int) (t74_5 : Bool) : K :=
  Ite t74_5
    (Q true)
    (Ar (IntKind.wrap .i64 (i5_5 + 1)) fun t56 =>
    X4 t56)
def ref05_Great.b4 (Q : Bool → K) (X2 : Int → K) (X3 : Int → K) (X4 : Int → K) (t1_4 : Addr) (i5_4 : Int) : K :=
  Ld (t1_4.add 3) Sl.val fun t52 =>
  Ite (decide (i5_4 < (t52.n : Int)))
    (Ld (t1_4.add 3) Sl.val fun t58 =>
    Idx t58 i5_4 4 fun t60 =>
    Ld (t60.add 1) Value.string fun t62 =>
    Ite (decide ((200 : Int) < (t62.size : Int)))
      (ref05_Great.s5 Q X2 X3 X4 t1_4 i5_4 true)
      (Ld (t1_4.add 3) Sl.val fun t67 =>
      Idx t67 i5_4 4 fun t69 =>
      Ld (t69.add 2) Sl.val fun t71 =>
      ref05_Great.s5 Q X2 X3 X4 t1_4 i5_4 (decide ((200 : Int) < (t71.n : Int)))))
    (Q false)
def ref05_Great.b3 (Q : Bool → K) (X2 : Int → K) (X3 : Int → K) (t1_3 : Addr) (i4_3 : Int) : K :=
  Ld (t1_3.add 2) Sl.val fun t38 =>
  Ite (decide (i4_3 < (t38.n : Int)))
    (Ld (t1_3.add 2) Sl.val fun t44 =>
    Idx t44 i4_3 1 fun t46 =>
    Ld t46 Value.string fun t47 =>
    Ite (decide ((200 : Int) < (t47.size : Int)))
      (Q true)
      (Ar (IntKind.wrap .i64 (i4_3 + 1)) fun t42 =>
      X3 t42))
    (LoopK (α := Int) (fun X x => ref05_Great.b4 Q X2 X3 X t1_3 x) 0)
def ref05_Great.b2 (Q : Bool → K)  (X2 : Int → K) (t1_2 : Addr) (i3_2 : Int) : K :=
  Ld (t1_2.add 1) Sl.val fun t24 =>
  Ite (decide (i3_2 < (t24.n : Int)))
    (Ld (t1_2.add 1) Sl.val fun t30 =>
    Idx t30 i3_2 1 fun t32 =>
    Ld t32 Value.string fun t33 =>
    Ite (decide ((200 : Int) < (t33.size : Int)))
      (Q true)
      (Ar (IntKind.wrap .i64 (i3_2 + 1)) fun t28 =>
      X2 t28))
    (LoopK (α := Int) (fun X x => ref05_Great.b3 Q X2 X t1_2 x) 0)
def ref05_Great.s1 (Q : Bool → K)  (t1_1 : Addr) (t21_1 : Bool) : K :=
  Ite t21_1
    (Q true)
    (LoopK (α := Int) (fun X x => ref05_Great.b2 Q X t1_1 x) 0)
def ref05_Great (t0 : (Array Value)) (Q : Bool → K) : K :=
  New 26 t0 fun t1 =>
  Ld (t1.add 1) Sl.val fun t7 =>
  Ite (decide ((40 : Int) < (t7.n : Int)))
    (ref05_Great.s1 Q t1 true)
    (Ld (t1.add 2) Sl.val fun t12 =>
    Ite (decide ((40 : Int) < (t12.n : Int)))
      (ref05_Great.s1 Q t1 true)
      (Ld (t1.add 3) Sl.val fun t18 =>
      ref05_Great.s1 Q t1 (decide ((60 : Int) < (t18.n : Int)))))
theorem ref05_Great_ok (t0 : (Array Value)) (Q : Bool → K) (w : World) (h : ref05_Great t0 Q w) : ref05_Great.call t0 Q w := by
  have hJ17 : ∀ (X2 : Int → K), XH 4 X2 → ∀ (X3 : Int → K), XH 9 X3 → ∀ (X4 : Int → K), XH 14 X4 → JH 17 fun D => ∃ (t1_5 : Addr) (i5_5 : Int), D [(1, (.pointer (some t1_5))), (5, (.int .i64 i5_5))] (fun C => ∀ (t74_5 : Bool), C [(1, (.pointer (some t1_5))), (5, (.int .i64 i5_5)), (74, (.bool t74_5))] (ref05_Great.s5 Q X2 X3 X4 t1_5 i5_5 t74_5)) := by intros; exact ⟨fun _ ⟨_, _, h⟩ => ⟨_, _, h⟩⟩
  have hL14 : ∀ (X2 : Int → K), XH 4 X2 → ∀ (X3 : Int → K), XH 9 X3 → ∀ (t1_4 : Addr), LH 14 (fun x : Int => [(1, (.pointer (some t1_4))), (5, (.int .i64 x))]) (fun X x => ref05_Great.b4 Q X2 X3 X t1_4 x) := by intros; exact ⟨⟩
  have hL9 : ∀ (X2 : Int → K), XH 4 X2 → ∀ (t1_3 : Addr), LH 9 (fun x : Int => [(1, (.pointer (some t1_3))), (4, (.int .i64 x))]) (fun X x => ref05_Great.b3 Q X2 X t1_3 x) := by intros; exact ⟨⟩
  have hL4 : ∀ (t1_2 : Addr), LH 4 (fun x : Int => [(1, (.pointer (some t1_2))), (3, (.int .i64 x))]) (fun X x => ref05_Great.b2 Q X t1_2 x) := by intros; exact ⟨⟩
  have hJ2 : JH 2 fun D => ∃ (t1_1 : Addr), D [(1, (.pointer (some t1_1)))] (fun C => ∀ (t21_1 : Bool), C [(1, (.pointer (some t1_1))), (21, (.bool t21_1))] (ref05_Great.s1 Q t1_1 t21_1)) := by intros; exact ⟨fun _ ⟨_, h⟩ => ⟨_, _, h⟩⟩
  exact g_walk 75 h Tryz.func9
def ref05_Right.s3 (Q : Bool → K) (X2 : Int → K) (regions1_3 : Int) (t2_3 : Addr) (keys5_3 : Sl) (i6_3 : Int) (t90_3 : Bool) : K :=
  Ite t90_3
    (Q false)
    (Ar (IntKind.wrap .i64 (i6_3 + 1)) fun t60 =>
    X2 t60)
def ref05_Right.s4 (Q : Bool → K) (X2 : Int → K) (t4_4 : Bool) : K :=
  Q t4_4
def ref05_Right.b6 (Q : Bool → K) (X2 : Int → K) (X6 : Int → K) (t2_6 : Addr) (i7_6 : Int) : K :=
  Ld (t2_6.add 3) Sl.val fun t137 =>
  Ite (decide (i7_6 < (t137.n : Int)))
    (Dr <|
    LdN t2_6 5 fun t142 =>
    Ld (t2_6.add 3) Sl.val fun t144 =>
    Idx t144 i7_6 4 fun t146 =>
    LdN t146 4 fun t147 =>
    ref05_op.call t142 t147 fun t148 =>
    Ite (!t148)
      (Q false)
      (Ar (IntKind.wrap .i64 (i7_6 + 1)) fun t141 =>
      X6 t141))
    (Q true)
def ref05_Right.s5 (Q : Bool → K) (X2 : Int → K) (t2_5 : Addr) (t134_5 : Bool) : K :=
  Ite t134_5
    (Q false)
    (LoopK (α := Int) (fun X x => ref05_Right.b6 Q X2 X t2_5 x) 0)
def ref05_Right.b2 (Q : Bool → K)  (X2 : Int → K) (regions1_2 : Int) (t2_2 : Addr) (keys5_2 : Sl) (i6_2 : Int) : K :=
  Ite (decide (i6_2 < (keys5_2.n : Int)))
    (Dr <|
    Idx keys5_2 i6_2 1 fun t63 =>
    Ld t63 Value.string fun t64 =>
    Ite (decide ((t64.size : Int) < 1))
      (ref05_Right.s3 Q X2 regions1_2 t2_2 keys5_2 i6_2 true)
      (Idx keys5_2 i6_2 1 fun t70 =>
      Ld t70 Value.string fun t71 =>
      Ite (decide ((16 : Int) < (t71.size : Int)))
        (ref05_Right.s3 Q X2 regions1_2 t2_2 keys5_2 i6_2 true)
        (Ld (t2_2.add 1) Sl.val fun t78 =>
        Ite (decide (i6_2 < (t78.n : Int)))
          (Idx keys5_2 i6_2 1 fun t86 =>
          Ld (t2_2.add 2) Sl.val fun t83 =>
          Ld t86 Value.string fun t87 =>
          ref05_In.call t83 t87 fun t88 =>
          ref05_Right.s3 Q X2 regions1_2 t2_2 keys5_2 i6_2 t88)
          (ref05_Right.s3 Q X2 regions1_2 t2_2 keys5_2 i6_2 false))))
    (Ld t2_2 (Value.int .i64) fun t92 =>
    Ite (decide (t92 = 2))
      (Ld (t2_2.add 1) Sl.val fun t95 =>
      Ite (decide ((t95.n : Int) = 0))
        (Ld (t2_2.add 3) Sl.val fun t100 =>
        Ite (decide ((t100.n : Int) = 0))
          (Ld (t2_2.add 2) Sl.val fun t106 =>
          Ite (decide ((t106.n : Int) = 1))
            (Ld (t2_2.add 4) (Value.int .i64) fun t112 =>
            Ite (decide ((0 : Int) ≤ t112))
              (Ld (t2_2.add 4) (Value.int .i64) fun t117 =>
              ref05_Right.s4 Q X2 (decide (t117 < regions1_2)))
              (ref05_Right.s4 Q X2 false))
            (ref05_Right.s4 Q X2 false))
          (ref05_Right.s4 Q X2 false))
        (ref05_Right.s4 Q X2 false))
      (Ld t2_2 (Value.int .i64) fun t122 =>
      Ite (decide (t122 ≠ 1))
        (ref05_Right.s5 Q X2 t2_2 true)
        (Ld (t2_2.add 4) (Value.int .i64) fun t126 =>
        Ite (decide (t126 ≠ 0))
          (ref05_Right.s5 Q X2 t2_2 true)
          (Ld (t2_2.add 3) Sl.val fun t131 =>
          ref05_Right.s5 Q X2 t2_2 (decide ((16 : Int) < (t131.n : Int)))))))
def ref05_Right.s1 (Q : Bool → K)  (regions1_1 : Int) (t2_1 : Addr) (t47_1 : Bool) : K :=
  Ite t47_1
    (Q false)
    (Dr <| WithS fun S =>
    LdS S (t2_1.add 1) Sl.val fun t50 =>
    LdS S (t2_1.add 2) Sl.val fun t53 =>
    New 9 #[] fun t48 =>
    Sv S <|
    Do Tryz.prog (Builtin.append_ #[23, 23] 23 #[(Sl.val (Sl.mk (some t48) 0 0)), (Sl.val t50)]) Sl.val fun t51 =>
    Sv S <|
    Do Tryz.prog (Builtin.append_ #[23, 23] 23 #[(Sl.val t51), (Sl.val t53)]) Sl.val fun t54 =>
    LoopK (α := Int) (fun X x => ref05_Right.b2 Q X regions1_1 t2_1 t54 x) 0)
def ref05_Right (t0 : (Array Value)) (regions1 : Int) (Q : Bool → K) : K :=
  New 26 t0 fun t2 =>
  Ite (decide (regions1 < 1))
    (ref05_Right.s1 Q regions1 t2 true)
    (Ite (decide ((3 : Int) < regions1))
      (ref05_Right.s1 Q regions1 t2 true)
      (Ld (t2.add 1) Sl.val fun t16 =>
      ref05_Rising.call t16 fun t17 =>
      Ite (!t17)
        (ref05_Right.s1 Q regions1 t2 true)
        (Ld (t2.add 2) Sl.val fun t22 =>
        ref05_Rising.call t22 fun t23 =>
        Ite (!t23)
          (ref05_Right.s1 Q regions1 t2 true)
          (Ld (t2.add 1) Sl.val fun t28 =>
          Ite (decide ((8 : Int) < (t28.n : Int)))
            (ref05_Right.s1 Q regions1 t2 true)
            (Ld (t2.add 2) Sl.val fun t34 =>
            Ite (decide ((8 : Int) < (t34.n : Int)))
              (ref05_Right.s1 Q regions1 t2 true)
              (Ld (t2.add 1) Sl.val fun t40 =>
              Ld (t2.add 2) Sl.val fun t43 =>
              Ar (IntKind.wrap .i64 ((t40.n : Int) + (t43.n : Int))) fun t45 =>
              ref05_Right.s1 Q regions1 t2 (decide ((8 : Int) < t45))))))))
theorem ref05_Right_ok (t0 : (Array Value)) (regions1 : Int) (Q : Bool → K) (w : World) (h : ref05_Right t0 regions1 Q w) : ref05_Right.call t0 regions1 Q w := by
  have hJ8 : ∀ (X2 : Int → K), XH 5 X2 → JH 8 fun D => ∃ (regions1_3 : Int) (t2_3 : Addr) (keys5_3 : Sl) (i6_3 : Int), D [(1, (.int .i64 regions1_3)), (2, (.pointer (some t2_3))), (5, (Sl.val keys5_3)), (6, (.int .i64 i6_3))] (fun C => ∀ (t90_3 : Bool), C [(1, (.int .i64 regions1_3)), (2, (.pointer (some t2_3))), (5, (Sl.val keys5_3)), (6, (.int .i64 i6_3)), (90, (.bool t90_3))] (ref05_Right.s3 Q X2 regions1_3 t2_3 keys5_3 i6_3 t90_3)) := by intros; exact ⟨fun _ ⟨_, _, _, _, h⟩ => ⟨_, _, h⟩⟩
  have hD7 : DH 7 1 [27] (.s [0, 1, 2, 3, 4, 5, 6] (.i (.s [7, 8, 9, 10, 11, 12, 13, 14, 15, 16, 17, 18, 19, 20, 21, 22, 23, 24, 25, 26, 27, 28, 29] .e) (.s [7, 8, 9, 10, 11, 12, 13, 14] (.i (.s [15, 16, 17, 18, 19, 20, 21, 22, 23, 24, 25, 26, 27, 28, 29] .e) (.s [15, 16, 17, 18, 19, 20] (.i (.s [21, 23, 24, 25, 22, 26] (.a [(27, 0, .s [28, 29] .e)])) (.s [21, 22, 23, 24, 25, 26, 27, 28, 29] .e))))))) := by intros; exact ⟨⟩
  have hJ1000010 : ∀ (X2 : Int → K), XH 5 X2 → JH 1000010 fun D => D [] (fun C => ∀ (t4_4 : Bool), C [(4, (.bool t4_4))] (ref05_Right.s4 Q X2 t4_4)) := by intros; exact ⟨fun _ h => ⟨_, _, h⟩⟩
  have hD16 : DH 16 1 [6] (.s [1, 3, 0, 2, 4, 5] (.a [(6, 0, .s [7] .e)])) := by intros; exact ⟨⟩
  have hL14 : ∀ (X2 : Int → K), XH 5 X2 → ∀ (t2_6 : Addr), LH 14 (fun x : Int => [(2, (.pointer (some t2_6))), (7, (.int .i64 x))]) (fun X x => ref05_Right.b6 Q X2 X t2_6 x) := by intros; exact ⟨⟩
  have hJ12 : ∀ (X2 : Int → K), XH 5 X2 → JH 12 fun D => ∃ (t2_5 : Addr), D [(2, (.pointer (some t2_5)))] (fun C => ∀ (t134_5 : Bool), C [(2, (.pointer (some t2_5))), (134, (.bool t134_5))] (ref05_Right.s5 Q X2 t2_5 t134_5)) := by intros; exact ⟨fun _ ⟨_, h⟩ => ⟨_, _, h⟩⟩
  have hL5 : ∀ (regions1_2 : Int) (t2_2 : Addr) (keys5_2 : Sl), LH 5 (fun x : Int => [(1, (.int .i64 regions1_2)), (2, (.pointer (some t2_2))), (5, (Sl.val keys5_2)), (6, (.int .i64 x))]) (fun X x => ref05_Right.b2 Q X regions1_2 t2_2 keys5_2 x) := by intros; exact ⟨⟩
  have hD3 : DH 3 2 [6] (.s [1, 4, 2, 5] (.a [(0, 1, .a [(3, 1, .a [(6, 0, .s [7] .e)])])])) := by intros; exact ⟨⟩
  have hJ2 : JH 2 fun D => ∃ (regions1_1 : Int) (t2_1 : Addr), D [(1, (.int .i64 regions1_1)), (2, (.pointer (some t2_1)))] (fun C => ∀ (t47_1 : Bool), C [(1, (.int .i64 regions1_1)), (2, (.pointer (some t2_1))), (47, (.bool t47_1))] (ref05_Right.s1 Q regions1_1 t2_1 t47_1)) := by intros; exact ⟨fun _ ⟨_, _, h⟩ => ⟨_, _, h⟩⟩
  exact g_walk 150 h Tryz.func10
def ref05_Keys.s2 (Q : Sl → K) (X1 : Sl → Int → K) (out3_2 : Sl) (all4_2 : Sl) (i5_2 : Int) : K :=
  Ar (IntKind.wrap .i64 (i5_2 + 1)) fun t21 =>
  X1 out3_2 t21
def ref05_Keys.s4 (Q : Sl → K) (X1 : Sl → Int → K) (X3 : Int → K) (out3_4 : Sl) (all4_4 : Sl) (i5_4 : Int) (k6_4 : Int) (t51_4 : Bool) : K :=
  Ite t51_4
    (Idx out3_4 k6_4 1 fun t56 =>
    Ld t56 Value.string fun t57 =>
    Ar (IntKind.wrap .i64 (k6_4 - 1)) fun t62 =>
    Idx out3_4 t62 1 fun t63 =>
    Ld t63 Value.string fun t64 =>
    Idx out3_4 k6_4 1 fun t65 =>
    St t65 (.string t64) <|
    Ar (IntKind.wrap .i64 (k6_4 - 1)) fun t68 =>
    Idx out3_4 t68 1 fun t70 =>
    St t70 (.string t57) <|
    Ar (IntKind.wrap .i64 (k6_4 - 1)) fun t53 =>
    X3 t53)
    (ref05_Keys.s2 Q X1 out3_4 all4_4 i5_4)
def ref05_Keys.b3 (Q : Sl → K) (X1 : Sl → Int → K) (X3 : Int → K) (out3_3 : Sl) (all4_3 : Sl) (i5_3 : Int) (k6_3 : Int) : K :=
  Dr <|
  Ite (decide ((0 : Int) < k6_3))
    (Idx out3_3 k6_3 1 fun t43 =>
    Ld t43 Value.string fun t44 =>
    Ar (IntKind.wrap .i64 (k6_3 - 1)) fun t47 =>
    Idx out3_3 t47 1 fun t48 =>
    Ld t48 Value.string fun t49 =>
    ref05_Keys.s4 Q X1 X3 out3_3 all4_3 i5_3 k6_3 (Op.bytesLess t44.toList t49.toList))
    (ref05_Keys.s4 Q X1 X3 out3_3 all4_3 i5_3 k6_3 false)
def ref05_Keys.b1 (Q : Sl → K)  (X1 : Sl → Int → K) (all4_1 : Sl) (out3_1 : Sl) (i5_1 : Int) : K :=
  Ite (decide (i5_1 < (all4_1.n : Int)))
    (Idx all4_1 i5_1 1 fun t25 =>
    Ld t25 Value.string fun t26 =>
    ref05_In.call out3_1 t26 fun t27 =>
    Ite t27
      (ref05_Keys.s2 Q X1 out3_1 all4_1 i5_1)
      (Idx all4_1 i5_1 1 fun t31 =>
      Ld t31 Value.string fun t32 =>
      New 9 #[(.string t32)] fun t33 =>
      Do Tryz.prog (Builtin.append_ #[23, 23] 23 #[(Sl.val out3_1), (Sl.val (Sl.mk (some t33) 1 1))]) Sl.val fun t34 =>
      Ar (IntKind.wrap .i64 ((t34.n : Int) - 1)) fun t37 =>
      LoopK (α := Int) (fun X x => ref05_Keys.b3 Q X1 X t34 all4_1 i5_1 x) t37))
    (Q out3_1)
def ref05_Keys (t0 : (Array Value)) (Q : Sl → K) : K :=
  New 26 t0 fun t1 =>
  New 9 #[] fun t8 =>
  Dr <| WithS fun S =>
  LdS S (t1.add 1) Sl.val fun t11 =>
  LdS S (t1.add 2) Sl.val fun t14 =>
  New 9 #[] fun t9 =>
  Sv S <|
  Do Tryz.prog (Builtin.append_ #[23, 23] 23 #[(Sl.val (Sl.mk (some t9) 0 0)), (Sl.val t11)]) Sl.val fun t12 =>
  Sv S <|
  Do Tryz.prog (Builtin.append_ #[23, 23] 23 #[(Sl.val t12), (Sl.val t14)]) Sl.val fun t15 =>
  LoopK (α := Sl × Int) (fun X x => ref05_Keys.b1 Q (fun out3_1 i5_1 => X (out3_1, i5_1)) t15 x.1 x.2) ((Sl.mk (some t8) 0 0), 0)
theorem ref05_Keys_ok (t0 : (Array Value)) (Q : Sl → K) (w : World) (h : ref05_Keys t0 Q w) : ref05_Keys.call t0 Q w := by
  have hJ5 : ∀ (X1 : (Sl × Int) → K), XH 4 X1 → JH 5 fun D => ∃ (all4_2 : Sl) (i5_2 : Int), D [(4, (Sl.val all4_2)), (5, (.int .i64 i5_2))] (fun C => ∀ (out3_2 : Sl), C [(3, (Sl.val out3_2)), (4, (Sl.val all4_2)), (5, (.int .i64 i5_2))] (ref05_Keys.s2 Q (fun out3_1 i5_1 => X1 (out3_1, i5_1)) out3_2 all4_2 i5_2)) := by intros; exact ⟨fun _ ⟨_, _, h⟩ => ⟨_, _, h⟩⟩
  have hJ1000009 : ∀ (X1 : (Sl × Int) → K), XH 4 X1 → ∀ (X3 : Int → K), XH 9 X3 → JH 1000009 fun D => ∃ (out3_4 : Sl) (all4_4 : Sl) (i5_4 : Int) (k6_4 : Int), D [(3, (Sl.val out3_4)), (4, (Sl.val all4_4)), (5, (.int .i64 i5_4)), (6, (.int .i64 k6_4))] (fun C => ∀ (t51_4 : Bool), C [(3, (Sl.val out3_4)), (4, (Sl.val all4_4)), (5, (.int .i64 i5_4)), (6, (.int .i64 k6_4)), (51, (.bool t51_4))] (ref05_Keys.s4 Q (fun out3_1 i5_1 => X1 (out3_1, i5_1)) X3 out3_4 all4_4 i5_4 k6_4 t51_4)) := by intros; exact ⟨fun _ ⟨_, _, _, _, h⟩ => ⟨_, _, h⟩⟩
  have hL9 : ∀ (X1 : (Sl × Int) → K), XH 4 X1 → ∀ (out3_3 : Sl) (all4_3 : Sl) (i5_3 : Int), LH 9 (fun x : Int => [(3, (Sl.val out3_3)), (4, (Sl.val all4_3)), (5, (.int .i64 i5_3)), (6, (.int .i64 x))]) (fun X x => ref05_Keys.b3 Q (fun out3_1 i5_1 => X1 (out3_1, i5_1)) X out3_3 all4_3 i5_3 x) := by intros; exact ⟨⟩
  have hL4 : ∀ (all4_1 : Sl), LH 4 (fun x : Sl × Int => [(3, (Sl.val x.1)), (4, (Sl.val all4_1)), (5, (.int .i64 x.2))]) (fun X x => ref05_Keys.b1 Q (fun out3_1 i5_1 => X (out3_1, i5_1)) all4_1 x.1 x.2) := by intros; exact ⟨⟩
  have hD2 : DH 2 2 [6] (.s [1, 4, 2, 5] (.a [(0, 1, .a [(3, 1, .a [(6, 0, .s [7] .e)])])])) := by intros; exact ⟨⟩
  exact g_walk 72 h Tryz.func13
def ref05_Copy.b2 (Q : (Array Value) → K)  (X2 : Int → K) (t1_2 : Addr) (t2_2 : Addr) (out3_2 : Addr) (i4_2 : Int) : K :=
  Ld (t1_2.add 3) Sl.val fun t21 =>
  Ite (decide (i4_2 < (t21.n : Int)))
    (Ld (t1_2.add 3) Sl.val fun t27 =>
    Idx t27 i4_2 4 fun t29 =>
    LdN t29 4 fun t30 =>
    New 109 #[(.int .i64 0), (.string ⟨#[]⟩), (Sl.val ⟨none, 0, 0⟩), (.int .i64 0)] fun o5 =>
    StN o5 4 t30 <|
    New 5 #[] fun t31 =>
    Ld (t1_2.add 3) Sl.val fun t33 =>
    Idx t33 i4_2 4 fun t35 =>
    Ld (t35.add 2) Sl.val fun t37 =>
    Do Tryz.prog (Builtin.append_ #[45, 45] 45 #[(Sl.val (Sl.mk (some t31) 0 0)), (Sl.val t37)]) Sl.val fun t38 =>
    St (o5.add 2) (Sl.val t38) <|
    Ld (out3_2.add 3) Sl.val fun t41 =>
    LdN o5 4 fun t42 =>
    Bld #[(.int .i64 0), (.string ⟨#[]⟩), (Sl.val ⟨none, 0, 0⟩), (.int .i64 0)] (fun i => some (i * 4, 4)) [(0, (.agg t42))] fun ct43 =>
    New 109 ct43 fun t43 =>
    Do Tryz.prog (Builtin.append_ #[24, 24] 24 #[(Sl.val t41), (Sl.val (Sl.mk (some t43) 1 1))]) Sl.val fun t44 =>
    St (out3_2.add 3) (Sl.val t44) <|
    Ar (IntKind.wrap .i64 (i4_2 + 1)) fun t25 =>
    X2 t25)
    (LdN out3_2 5 fun t46 =>
    StN t2_2 5 t46 <|
    LdN t2_2 5 fun r0 =>
    Q r0)
def ref05_Copy.s1 (Q : (Array Value) → K)  (t1_1 : Addr) (t2_1 : Addr) (out3_1 : Addr) : K :=
  LoopK (α := Int) (fun X x => ref05_Copy.b2 Q X t1_1 t2_1 out3_1 x) 0
def ref05_Copy (t0 : (Array Value)) (Q : (Array Value) → K) : K :=
  New 26 t0 fun t1 =>
  New 26 #[(.int .i64 0), (Sl.val ⟨none, 0, 0⟩), (Sl.val ⟨none, 0, 0⟩), (Sl.val ⟨none, 0, 0⟩), (.int .i64 0)] fun t2 =>
  Dr <| WithS fun S =>
  LdS S t1 (Value.int .i64) fun t7 =>
  LdS S (t1.add 4) (Value.int .i64) fun t9 =>
  LdS S (t1.add 1) Sl.val fun t12 =>
  LdS S (t1.add 2) Sl.val fun t16 =>
  All [
    (New 9 #[] fun t10 =>
    Sv S <|
    All [
      (Do Tryz.prog (Builtin.append_ #[23, 23] 23 #[(Sl.val (Sl.mk (some t10) 0 0)), (Sl.val t12)]) Sl.val fun t13 =>
      Sv S <|
      All [
        (New 9 #[] fun t14 =>
        Sv S <|
        All [
          (Do Tryz.prog (Builtin.append_ #[23, 23] 23 #[(Sl.val (Sl.mk (some t14) 0 0)), (Sl.val t16)]) Sl.val fun t17 =>
          Sv S <|
          New 26 #[(.int .i64 0), (Sl.val ⟨none, 0, 0⟩), (Sl.val ⟨none, 0, 0⟩), (Sl.val ⟨none, 0, 0⟩), (.int .i64 0)] fun out3 =>
          Sv S <|
          StN out3 5 #[(.int .i64 t7), (Sl.val t13), (Sl.val t17), (Sl.val ⟨none, 0, 0⟩), (.int .i64 t9)] <|
          ref05_Copy.s1 Q t1 t2 out3),
          (New 26 #[(.int .i64 0), (Sl.val ⟨none, 0, 0⟩), (Sl.val ⟨none, 0, 0⟩), (Sl.val ⟨none, 0, 0⟩), (.int .i64 0)] fun out3 =>
          Sv S <|
          Do Tryz.prog (Builtin.append_ #[23, 23] 23 #[(Sl.val (Sl.mk (some t14) 0 0)), (Sl.val t16)]) Sl.val fun t17 =>
          Sv S <|
          StN out3 5 #[(.int .i64 t7), (Sl.val t13), (Sl.val t17), (Sl.val ⟨none, 0, 0⟩), (.int .i64 t9)] <|
          ref05_Copy.s1 Q t1 t2 out3)
          ]),
        (New 26 #[(.int .i64 0), (Sl.val ⟨none, 0, 0⟩), (Sl.val ⟨none, 0, 0⟩), (Sl.val ⟨none, 0, 0⟩), (.int .i64 0)] fun out3 =>
        Sv S <|
        New 9 #[] fun t14 =>
        Sv S <|
        Do Tryz.prog (Builtin.append_ #[23, 23] 23 #[(Sl.val (Sl.mk (some t14) 0 0)), (Sl.val t16)]) Sl.val fun t17 =>
        Sv S <|
        StN out3 5 #[(.int .i64 t7), (Sl.val t13), (Sl.val t17), (Sl.val ⟨none, 0, 0⟩), (.int .i64 t9)] <|
        ref05_Copy.s1 Q t1 t2 out3)
        ]),
      (New 9 #[] fun t14 =>
      Sv S <|
      All [
        (Do Tryz.prog (Builtin.append_ #[23, 23] 23 #[(Sl.val (Sl.mk (some t10) 0 0)), (Sl.val t12)]) Sl.val fun t13 =>
        Sv S <|
        All [
          (Do Tryz.prog (Builtin.append_ #[23, 23] 23 #[(Sl.val (Sl.mk (some t14) 0 0)), (Sl.val t16)]) Sl.val fun t17 =>
          Sv S <|
          New 26 #[(.int .i64 0), (Sl.val ⟨none, 0, 0⟩), (Sl.val ⟨none, 0, 0⟩), (Sl.val ⟨none, 0, 0⟩), (.int .i64 0)] fun out3 =>
          Sv S <|
          StN out3 5 #[(.int .i64 t7), (Sl.val t13), (Sl.val t17), (Sl.val ⟨none, 0, 0⟩), (.int .i64 t9)] <|
          ref05_Copy.s1 Q t1 t2 out3),
          (New 26 #[(.int .i64 0), (Sl.val ⟨none, 0, 0⟩), (Sl.val ⟨none, 0, 0⟩), (Sl.val ⟨none, 0, 0⟩), (.int .i64 0)] fun out3 =>
          Sv S <|
          Do Tryz.prog (Builtin.append_ #[23, 23] 23 #[(Sl.val (Sl.mk (some t14) 0 0)), (Sl.val t16)]) Sl.val fun t17 =>
          Sv S <|
          StN out3 5 #[(.int .i64 t7), (Sl.val t13), (Sl.val t17), (Sl.val ⟨none, 0, 0⟩), (.int .i64 t9)] <|
          ref05_Copy.s1 Q t1 t2 out3)
          ]),
        (New 26 #[(.int .i64 0), (Sl.val ⟨none, 0, 0⟩), (Sl.val ⟨none, 0, 0⟩), (Sl.val ⟨none, 0, 0⟩), (.int .i64 0)] fun out3 =>
        Sv S <|
        Do Tryz.prog (Builtin.append_ #[23, 23] 23 #[(Sl.val (Sl.mk (some t10) 0 0)), (Sl.val t12)]) Sl.val fun t13 =>
        Sv S <|
        Do Tryz.prog (Builtin.append_ #[23, 23] 23 #[(Sl.val (Sl.mk (some t14) 0 0)), (Sl.val t16)]) Sl.val fun t17 =>
        Sv S <|
        StN out3 5 #[(.int .i64 t7), (Sl.val t13), (Sl.val t17), (Sl.val ⟨none, 0, 0⟩), (.int .i64 t9)] <|
        ref05_Copy.s1 Q t1 t2 out3)
        ]),
      (New 26 #[(.int .i64 0), (Sl.val ⟨none, 0, 0⟩), (Sl.val ⟨none, 0, 0⟩), (Sl.val ⟨none, 0, 0⟩), (.int .i64 0)] fun out3 =>
      Sv S <|
      All [
        (Do Tryz.prog (Builtin.append_ #[23, 23] 23 #[(Sl.val (Sl.mk (some t10) 0 0)), (Sl.val t12)]) Sl.val fun t13 =>
        Sv S <|
        New 9 #[] fun t14 =>
        Sv S <|
        Do Tryz.prog (Builtin.append_ #[23, 23] 23 #[(Sl.val (Sl.mk (some t14) 0 0)), (Sl.val t16)]) Sl.val fun t17 =>
        Sv S <|
        StN out3 5 #[(.int .i64 t7), (Sl.val t13), (Sl.val t17), (Sl.val ⟨none, 0, 0⟩), (.int .i64 t9)] <|
        ref05_Copy.s1 Q t1 t2 out3),
        (New 9 #[] fun t14 =>
        Sv S <|
        Do Tryz.prog (Builtin.append_ #[23, 23] 23 #[(Sl.val (Sl.mk (some t10) 0 0)), (Sl.val t12)]) Sl.val fun t13 =>
        Sv S <|
        Do Tryz.prog (Builtin.append_ #[23, 23] 23 #[(Sl.val (Sl.mk (some t14) 0 0)), (Sl.val t16)]) Sl.val fun t17 =>
        Sv S <|
        StN out3 5 #[(.int .i64 t7), (Sl.val t13), (Sl.val t17), (Sl.val ⟨none, 0, 0⟩), (.int .i64 t9)] <|
        ref05_Copy.s1 Q t1 t2 out3)
        ])
      ]),
    (New 9 #[] fun t14 =>
    Sv S <|
    All [
      (New 9 #[] fun t10 =>
      Sv S <|
      All [
        (Do Tryz.prog (Builtin.append_ #[23, 23] 23 #[(Sl.val (Sl.mk (some t10) 0 0)), (Sl.val t12)]) Sl.val fun t13 =>
        Sv S <|
        All [
          (Do Tryz.prog (Builtin.append_ #[23, 23] 23 #[(Sl.val (Sl.mk (some t14) 0 0)), (Sl.val t16)]) Sl.val fun t17 =>
          Sv S <|
          New 26 #[(.int .i64 0), (Sl.val ⟨none, 0, 0⟩), (Sl.val ⟨none, 0, 0⟩), (Sl.val ⟨none, 0, 0⟩), (.int .i64 0)] fun out3 =>
          Sv S <|
          StN out3 5 #[(.int .i64 t7), (Sl.val t13), (Sl.val t17), (Sl.val ⟨none, 0, 0⟩), (.int .i64 t9)] <|
          ref05_Copy.s1 Q t1 t2 out3),
          (New 26 #[(.int .i64 0), (Sl.val ⟨none, 0, 0⟩), (Sl.val ⟨none, 0, 0⟩), (Sl.val ⟨none, 0, 0⟩), (.int .i64 0)] fun out3 =>
          Sv S <|
          Do Tryz.prog (Builtin.append_ #[23, 23] 23 #[(Sl.val (Sl.mk (some t14) 0 0)), (Sl.val t16)]) Sl.val fun t17 =>
          Sv S <|
          StN out3 5 #[(.int .i64 t7), (Sl.val t13), (Sl.val t17), (Sl.val ⟨none, 0, 0⟩), (.int .i64 t9)] <|
          ref05_Copy.s1 Q t1 t2 out3)
          ]),
        (New 26 #[(.int .i64 0), (Sl.val ⟨none, 0, 0⟩), (Sl.val ⟨none, 0, 0⟩), (Sl.val ⟨none, 0, 0⟩), (.int .i64 0)] fun out3 =>
        Sv S <|
        Do Tryz.prog (Builtin.append_ #[23, 23] 23 #[(Sl.val (Sl.mk (some t10) 0 0)), (Sl.val t12)]) Sl.val fun t13 =>
        Sv S <|
        Do Tryz.prog (Builtin.append_ #[23, 23] 23 #[(Sl.val (Sl.mk (some t14) 0 0)), (Sl.val t16)]) Sl.val fun t17 =>
        Sv S <|
        StN out3 5 #[(.int .i64 t7), (Sl.val t13), (Sl.val t17), (Sl.val ⟨none, 0, 0⟩), (.int .i64 t9)] <|
        ref05_Copy.s1 Q t1 t2 out3)
        ]),
      (New 26 #[(.int .i64 0), (Sl.val ⟨none, 0, 0⟩), (Sl.val ⟨none, 0, 0⟩), (Sl.val ⟨none, 0, 0⟩), (.int .i64 0)] fun out3 =>
      Sv S <|
      New 9 #[] fun t10 =>
      Sv S <|
      Do Tryz.prog (Builtin.append_ #[23, 23] 23 #[(Sl.val (Sl.mk (some t10) 0 0)), (Sl.val t12)]) Sl.val fun t13 =>
      Sv S <|
      Do Tryz.prog (Builtin.append_ #[23, 23] 23 #[(Sl.val (Sl.mk (some t14) 0 0)), (Sl.val t16)]) Sl.val fun t17 =>
      Sv S <|
      StN out3 5 #[(.int .i64 t7), (Sl.val t13), (Sl.val t17), (Sl.val ⟨none, 0, 0⟩), (.int .i64 t9)] <|
      ref05_Copy.s1 Q t1 t2 out3)
      ]),
    (New 26 #[(.int .i64 0), (Sl.val ⟨none, 0, 0⟩), (Sl.val ⟨none, 0, 0⟩), (Sl.val ⟨none, 0, 0⟩), (.int .i64 0)] fun out3 =>
    Sv S <|
    All [
      (New 9 #[] fun t10 =>
      Sv S <|
      All [
        (Do Tryz.prog (Builtin.append_ #[23, 23] 23 #[(Sl.val (Sl.mk (some t10) 0 0)), (Sl.val t12)]) Sl.val fun t13 =>
        Sv S <|
        New 9 #[] fun t14 =>
        Sv S <|
        Do Tryz.prog (Builtin.append_ #[23, 23] 23 #[(Sl.val (Sl.mk (some t14) 0 0)), (Sl.val t16)]) Sl.val fun t17 =>
        Sv S <|
        StN out3 5 #[(.int .i64 t7), (Sl.val t13), (Sl.val t17), (Sl.val ⟨none, 0, 0⟩), (.int .i64 t9)] <|
        ref05_Copy.s1 Q t1 t2 out3),
        (New 9 #[] fun t14 =>
        Sv S <|
        Do Tryz.prog (Builtin.append_ #[23, 23] 23 #[(Sl.val (Sl.mk (some t10) 0 0)), (Sl.val t12)]) Sl.val fun t13 =>
        Sv S <|
        Do Tryz.prog (Builtin.append_ #[23, 23] 23 #[(Sl.val (Sl.mk (some t14) 0 0)), (Sl.val t16)]) Sl.val fun t17 =>
        Sv S <|
        StN out3 5 #[(.int .i64 t7), (Sl.val t13), (Sl.val t17), (Sl.val ⟨none, 0, 0⟩), (.int .i64 t9)] <|
        ref05_Copy.s1 Q t1 t2 out3)
        ]),
      (New 9 #[] fun t14 =>
      Sv S <|
      New 9 #[] fun t10 =>
      Sv S <|
      Do Tryz.prog (Builtin.append_ #[23, 23] 23 #[(Sl.val (Sl.mk (some t10) 0 0)), (Sl.val t12)]) Sl.val fun t13 =>
      Sv S <|
      Do Tryz.prog (Builtin.append_ #[23, 23] 23 #[(Sl.val (Sl.mk (some t14) 0 0)), (Sl.val t16)]) Sl.val fun t17 =>
      Sv S <|
      StN out3 5 #[(.int .i64 t7), (Sl.val t13), (Sl.val t17), (Sl.val ⟨none, 0, 0⟩), (.int .i64 t9)] <|
      ref05_Copy.s1 Q t1 t2 out3)
      ])
    ]
theorem ref05_Copy_ok (t0 : (Array Value)) (Q : (Array Value) → K) (w : World) (h : ref05_Copy t0 Q w) : ref05_Copy.call t0 Q w := by
  have hL3 : ∀ (t1_2 : Addr) (t2_2 : Addr) (out3_2 : Addr), LH 3 (fun x : Int => [(1, (.pointer (some t1_2))), (2, (.pointer (some t2_2))), (3, (.pointer (some out3_2))), (4, (.int .i64 x))]) (fun X x => ref05_Copy.b2 Q X t1_2 t2_2 out3_2 x) := by intros; exact ⟨⟩
  have hJ2 : JH 2 fun D => ∃ (t1_1 : Addr) (t2_1 : Addr), D [(1, (.pointer (some t1_1))), (2, (.pointer (some t2_1)))] (fun C => ∀ (out3_1 : Addr), C [(1, (.pointer (some t1_1))), (2, (.pointer (some t2_1))), (3, (.pointer (some out3_1)))] (ref05_Copy.s1 Q t1_1 t2_1 out3_1)) := by intros; exact ⟨fun _ ⟨_, _, h⟩ => ⟨_, _, h⟩⟩
  have hD1 : DH 1 2 [14] (.s [0, 2, 5, 9, 1, 3, 6, 10] (.a [(4, 1, .a [(7, 1, .a [(8, 1, .a [(11, 1, .s [12] (.a [(13, 1, .a [(14, 0, .e)])])), (13, 1, .a [(11, 1, .s [12] (.a [(14, 0, .e)]))])]), (13, 1, .a [(8, 1, .a [(11, 1, .s [12] (.a [(14, 0, .e)]))])])]), (8, 1, .a [(7, 1, .a [(11, 1, .s [12] (.a [(13, 1, .a [(14, 0, .e)])])), (13, 1, .a [(11, 1, .s [12] (.a [(14, 0, .e)]))])]), (13, 1, .a [(7, 1, .a [(11, 1, .s [12] (.a [(14, 0, .e)]))])])]), (13, 1, .a [(7, 1, .a [(8, 1, .a [(11, 1, .s [12] (.a [(14, 0, .e)]))])]), (8, 1, .a [(7, 1, .a [(11, 1, .s [12] (.a [(14, 0, .e)]))])])])]), (8, 1, .a [(4, 1, .a [(7, 1, .a [(11, 1, .s [12] (.a [(13, 1, .a [(14, 0, .e)])])), (13, 1, .a [(11, 1, .s [12] (.a [(14, 0, .e)]))])]), (13, 1, .a [(7, 1, .a [(11, 1, .s [12] (.a [(14, 0, .e)]))])])]), (13, 1, .a [(4, 1, .a [(7, 1, .a [(11, 1, .s [12] (.a [(14, 0, .e)]))])])])]), (13, 1, .a [(4, 1, .a [(7, 1, .a [(8, 1, .a [(11, 1, .s [12] (.a [(14, 0, .e)]))])]), (8, 1, .a [(7, 1, .a [(11, 1, .s [12] (.a [(14, 0, .e)]))])])]), (8, 1, .a [(4, 1, .a [(7, 1, .a [(11, 1, .s [12] (.a [(14, 0, .e)]))])])])])])) := by intros; exact ⟨⟩
  exact g_walk 47 h Tryz.func20
def ref05_Same.s4 (Q : Bool → K) (X2 : Int → K) (a2_4 : Addr) (b3_4 : Addr) (i5_4 : Int) (t89_4 : Bool) : K :=
  Ite t89_4
    (Q false)
    (Ar (IntKind.wrap .i64 (i5_4 + 1)) fun t51 =>
    X2 t51)
def ref05_Same.s3 (Q : Bool → K) (X2 : Int → K) (a2_3 : Addr) (b3_3 : Addr) (i5_3 : Int) (x6_3 : Addr) (y7_3 : Addr) : K :=
  Ld x6_3 (Value.int .i64) fun t63 =>
  Ld y7_3 (Value.int .i64) fun t65 =>
  Ite (decide (t63 ≠ t65))
    (ref05_Same.s4 Q X2 a2_3 b3_3 i5_3 true)
    (Ld (x6_3.add 1) Value.string fun t69 =>
    Ld (y7_3.add 1) Value.string fun t71 =>
    Ite (!(t69.toList == t71.toList))
      (ref05_Same.s4 Q X2 a2_3 b3_3 i5_3 true)
      (Ld (x6_3.add 3) (Value.int .i64) fun t76 =>
      Ld (y7_3.add 3) (Value.int .i64) fun t78 =>
      Ite (decide (t76 ≠ t78))
        (ref05_Same.s4 Q X2 a2_3 b3_3 i5_3 true)
        (Ld (x6_3.add 2) Sl.val fun t83 =>
        Rd Tryz.prog (convert 45 9 (Sl.val t83)) Value.string fun t84 =>
        Ld (y7_3.add 2) Sl.val fun t86 =>
        Rd Tryz.prog (convert 45 9 (Sl.val t86)) Value.string fun t87 =>
        ref05_Same.s4 Q X2 a2_3 b3_3 i5_3 (!(t84.toList == t87.toList)))))
def ref05_Same.b2 (Q : Bool → K)  (X2 : Int → K) (a2_2 : Addr) (b3_2 : Addr) (i5_2 : Int) : K :=
  Ld (a2_2.add 3) Sl.val fun t47 =>
  Ite (decide (i5_2 < (t47.n : Int)))
    (Dr <| WithS fun S =>
    LdS S (a2_2.add 3) Sl.val fun t53 =>
    Idx t53 i5_2 4 fun t55 =>
    LdNS S t55 4 fun t56 =>
    LdS S (b3_2.add 3) Sl.val fun t58 =>
    Idx t58 i5_2 4 fun t60 =>
    LdNS S t60 4 fun t61 =>
    All [
      (New 109 #[(.int .i64 0), (.string ⟨#[]⟩), (Sl.val ⟨none, 0, 0⟩), (.int .i64 0)] fun x6 =>
      Sv S <|
      New 109 #[(.int .i64 0), (.string ⟨#[]⟩), (Sl.val ⟨none, 0, 0⟩), (.int .i64 0)] fun y7 =>
      Sv S <|
      StN x6 4 t56 <|
      Sv S <|
      StN y7 4 t61 <|
      ref05_Same.s3 Q X2 a2_2 b3_2 i5_2 x6 y7),
      (New 109 #[(.int .i64 0), (.string ⟨#[]⟩), (Sl.val ⟨none, 0, 0⟩), (.int .i64 0)] fun y7 =>
      Sv S <|
      New 109 #[(.int .i64 0), (.string ⟨#[]⟩), (Sl.val ⟨none, 0, 0⟩), (.int .i64 0)] fun x6 =>
      Sv S <|
      StN x6 4 t56 <|
      Sv S <|
      StN y7 4 t61 <|
      ref05_Same.s3 Q X2 a2_2 b3_2 i5_2 x6 y7)
      ])
    (Q true)
def ref05_Same.s1 (Q : Bool → K)  (a2_1 : Addr) (b3_1 : Addr) (t44_1 : Bool) : K :=
  Ite t44_1
    (Q false)
    (LoopK (α := Int) (fun X x => ref05_Same.b2 Q X a2_1 b3_1 x) 0)
def ref05_Same (a0 : (Array Value)) (b1 : (Array Value)) (Q : Bool → K) : K :=
  New 26 a0 fun a2 =>
  New 26 b1 fun b3 =>
  Ld a2 (Value.int .i64) fun t9 =>
  Ld b3 (Value.int .i64) fun t11 =>
  Ite (decide (t9 ≠ t11))
    (ref05_Same.s1 Q a2 b3 true)
    (Ld (a2.add 4) (Value.int .i64) fun t15 =>
    Ld (b3.add 4) (Value.int .i64) fun t17 =>
    Ite (decide (t15 ≠ t17))
      (ref05_Same.s1 Q a2 b3 true)
      (Ld (a2.add 1) Sl.val fun t22 =>
      Ld (b3.add 1) Sl.val fun t24 =>
      ref05_SameTexts.call t22 t24 fun t25 =>
      Ite (!t25)
        (ref05_Same.s1 Q a2 b3 true)
        (Ld (a2.add 2) Sl.val fun t30 =>
        Ld (b3.add 2) Sl.val fun t32 =>
        ref05_SameTexts.call t30 t32 fun t33 =>
        Ite (!t33)
          (ref05_Same.s1 Q a2 b3 true)
          (Ld (a2.add 3) Sl.val fun t38 =>
          Ld (b3.add 3) Sl.val fun t41 =>
          ref05_Same.s1 Q a2 b3 (decide ((t38.n : Int) ≠ (t41.n : Int)))))))
theorem ref05_Same_ok (a0 : (Array Value)) (b1 : (Array Value)) (Q : Bool → K) (w : World) (h : ref05_Same a0 b1 Q w) : ref05_Same.call a0 b1 Q w := by
  have hJ8 : ∀ (X2 : Int → K), XH 4 X2 → JH 8 fun D => ∃ (a2_4 : Addr) (b3_4 : Addr) (i5_4 : Int), D [(2, (.pointer (some a2_4))), (3, (.pointer (some b3_4))), (5, (.int .i64 i5_4))] (fun C => ∀ (t89_4 : Bool), C [(2, (.pointer (some a2_4))), (3, (.pointer (some b3_4))), (5, (.int .i64 i5_4)), (89, (.bool t89_4))] (ref05_Same.s4 Q X2 a2_4 b3_4 i5_4 t89_4)) := by intros; exact ⟨fun _ ⟨_, _, _, h⟩ => ⟨_, _, h⟩⟩
  have hJ7 : ∀ (X2 : Int → K), XH 4 X2 → JH 7 fun D => ∃ (a2_3 : Addr) (b3_3 : Addr) (i5_3 : Int), D [(2, (.pointer (some a2_3))), (3, (.pointer (some b3_3))), (5, (.int .i64 i5_3))] (fun C => ∀ (x6_3 : Addr) (y7_3 : Addr), C [(2, (.pointer (some a2_3))), (3, (.pointer (some b3_3))), (5, (.int .i64 i5_3)), (6, (.pointer (some x6_3))), (7, (.pointer (some y7_3)))] (ref05_Same.s3 Q X2 a2_3 b3_3 i5_3 x6_3 y7_3)) := by intros; exact ⟨fun _ ⟨_, _, _, h⟩ => ⟨_, _, h⟩⟩
  have hD6 : DH 6 2 [13] (.s [0, 2, 5, 7, 1, 3, 4, 6, 8, 9] (.a [(10, 1, .a [(11, 1, .a [(12, 1, .a [(13, 0, .e)])])]), (11, 1, .a [(10, 1, .a [(12, 1, .a [(13, 0, .e)])])])])) := by intros; exact ⟨⟩
  have hL4 : ∀ (a2_2 : Addr) (b3_2 : Addr), LH 4 (fun x : Int => [(2, (.pointer (some a2_2))), (3, (.pointer (some b3_2))), (5, (.int .i64 x))]) (fun X x => ref05_Same.b2 Q X a2_2 b3_2 x) := by intros; exact ⟨⟩
  have hJ2 : JH 2 fun D => ∃ (a2_1 : Addr) (b3_1 : Addr), D [(2, (.pointer (some a2_1))), (3, (.pointer (some b3_1)))] (fun C => ∀ (t44_1 : Bool), C [(2, (.pointer (some a2_1))), (3, (.pointer (some b3_1))), (44, (.bool t44_1))] (ref05_Same.s1 Q a2_1 b3_1 t44_1)) := by intros; exact ⟨fun _ ⟨_, _, h⟩ => ⟨_, _, h⟩⟩
  exact g_walk 90 h Tryz.func24
def ref05_Rising.b1 (Q : Bool → K)  (X1 : Int → K) (list0_1 : Sl) (i3_1 : Int) : K :=
  Ite (decide (i3_1 < (list0_1.n : Int)))
    (Dr <|
    Ar (IntKind.wrap .i64 (i3_1 - 1)) fun t12 =>
    Idx list0_1 t12 1 fun t13 =>
    Ld t13 Value.string fun t14 =>
    Idx list0_1 i3_1 1 fun t17 =>
    Ld t17 Value.string fun t18 =>
    Ite (!(Op.bytesLess t14.toList t18.toList))
      (Q false)
      (Ar (IntKind.wrap .i64 (i3_1 + 1)) fun t9 =>
      X1 t9))
    (Q true)
def ref05_Rising (list0 : Sl) (Q : Bool → K) : K :=
  LoopK (α := Int) (fun X x => ref05_Rising.b1 Q X list0 x) 1
theorem ref05_Rising_ok (list0 : Sl) (Q : Bool → K) (w : World) (h : ref05_Rising list0 Q w) : ref05_Rising.call list0 Q w := by
  have hL2 : ∀ (list0_1 : Sl), LH 2 (fun x : Int => [(0, (Sl.val list0_1)), (3, (.int .i64 x))]) (fun X x => ref05_Rising.b1 Q X list0_1 x) := by intros; exact ⟨⟩
  exact g_walk 20 h Tryz.func45
def ref05_In.b1 (Q : Bool → K)  (X1 : Int → K) (list0_1 : Sl) (key1_1 : ByteArray) (i5_1 : Int) : K :=
  Ite (decide (i5_1 < (list0_1.n : Int)))
    (Idx list0_1 i5_1 1 fun t14 =>
    Ld t14 Value.string fun t15 =>
    Ite (t15.toList == key1_1.toList)
      (Q true)
      (Ar (IntKind.wrap .i64 (i5_1 + 1)) fun t11 =>
      X1 t11))
    (Q false)
def ref05_In (list0 : Sl) (key1 : ByteArray) (Q : Bool → K) : K :=
  LoopK (α := Int) (fun X x => ref05_In.b1 Q X list0 key1 x) 0
theorem ref05_In_ok (list0 : Sl) (key1 : ByteArray) (Q : Bool → K) (w : World) (h : ref05_In list0 key1 Q w) : ref05_In.call list0 key1 Q w := by
  have hL2 : ∀ (list0_1 : Sl) (key1_1 : ByteArray), LH 2 (fun x : Int => [(0, (Sl.val list0_1)), (1, (.string key1_1)), (5, (.int .i64 x))]) (fun X x => ref05_In.b1 Q X list0_1 key1_1 x) := by intros; exact ⟨⟩
  exact g_walk 18 h Tryz.func46
def ref05_op.s2 (Q : Bool → K)  (t4_2 : Bool) : K :=
  Q t4_2
def ref05_op.s5 (Q : Bool → K)  (t4_5 : Bool) : K :=
  Q t4_5
def ref05_op.s4 (Q : Bool → K)  (o3_4 : Addr) (t66_4 : Bool) : K :=
  Ite t66_4
    (Q false)
    (Ld o3_4 (Value.int .i64) fun t68 =>
    Ite (decide (t68 = 2))
      (ref05_op.s5 Q true)
      (Ld o3_4 (Value.int .i64) fun t72 =>
      Ite (decide (t72 = 4))
        (ref05_op.s5 Q true)
        (Ld (o3_4.add 2) Sl.val fun t77 =>
        ref05_op.s5 Q (decide ((t77.n : Int) = 0)))))
def ref05_op.s3 (Q : Bool → K)  (o3_3 : Addr) (t58_3 : Bool) : K :=
  Ite t58_3
    (Q false)
    (Ld o3_3 (Value.int .i64) fun t60 =>
    Ite (decide (t60 ≠ 6))
      (Ld (o3_3.add 3) (Value.int .i64) fun t64 =>
      ref05_op.s4 Q o3_3 (decide (t64 ≠ 0)))
      (ref05_op.s4 Q o3_3 false))
def ref05_op.s1 (Q : Bool → K)  (t2_1 : Addr) (o3_1 : Addr) (t18_1 : Bool) : K :=
  Ite t18_1
    (Q false)
    (Ld o3_1 (Value.int .i64) fun t20 =>
    Ite (decide (t20 = 7))
      (Ld (o3_1.add 1) Value.string fun t23 =>
      Ite (t23.toList == (⟨#[]⟩ : ByteArray).toList)
        (Ld (o3_1.add 3) (Value.int .i64) fun t27 =>
        ref05_op.s2 Q (decide (t27 = 0)))
        (ref05_op.s2 Q false))
      (Ld (t2_1.add 2) Sl.val fun t31 =>
      Ld (o3_1.add 1) Value.string fun t33 =>
      ref05_In.call t31 t33 fun t34 =>
      Ite (!t34)
        (Ld (t2_1.add 1) Sl.val fun t38 =>
        Ld (o3_1.add 1) Value.string fun t40 =>
        ref05_In.call t38 t40 fun t41 =>
        Ite (!t41)
          (ref05_op.s3 Q o3_1 true)
          (Ld o3_1 (Value.int .i64) fun t45 =>
          Ite (decide (t45 = 2))
            (ref05_op.s3 Q o3_1 true)
            (Ld o3_1 (Value.int .i64) fun t50 =>
            Ite (decide (t50 = 3))
              (ref05_op.s3 Q o3_1 true)
              (Ld o3_1 (Value.int .i64) fun t55 =>
              ref05_op.s3 Q o3_1 (decide (t55 = 6))))))
        (ref05_op.s3 Q o3_1 false)))
def ref05_op (t0 : (Array Value)) (o1 : (Array Value)) (Q : Bool → K) : K :=
  New 26 t0 fun t2 =>
  New 109 o1 fun o3 =>
  Ld (o3.add 2) Sl.val fun t6 =>
  Ite (decide ((32 : Int) < (t6.n : Int)))
    (ref05_op.s1 Q t2 o3 true)
    (Ld o3 (Value.int .i64) fun t11 =>
    Ite (decide (t11 < 1))
      (ref05_op.s1 Q t2 o3 true)
      (Ld o3 (Value.int .i64) fun t16 =>
      ref05_op.s1 Q t2 o3 (decide ((7 : Int) < t16))))
theorem ref05_op_ok (t0 : (Array Value)) (o1 : (Array Value)) (Q : Bool → K) (w : World) (h : ref05_op t0 o1 Q w) : ref05_op.call t0 o1 Q w := by
  have hJ1000004 : JH 1000004 fun D => D [] (fun C => ∀ (t4_2 : Bool), C [(4, (.bool t4_2))] (ref05_op.s2 Q t4_2)) := by intros; exact ⟨fun _ h => ⟨_, _, h⟩⟩
  have hJ1000009 : JH 1000009 fun D => D [] (fun C => ∀ (t4_5 : Bool), C [(4, (.bool t4_5))] (ref05_op.s5 Q t4_5)) := by intros; exact ⟨fun _ h => ⟨_, _, h⟩⟩
  have hJ8 : JH 8 fun D => ∃ (o3_4 : Addr), D [(3, (.pointer (some o3_4)))] (fun C => ∀ (t66_4 : Bool), C [(3, (.pointer (some o3_4))), (66, (.bool t66_4))] (ref05_op.s4 Q o3_4 t66_4)) := by intros; exact ⟨fun _ ⟨_, h⟩ => ⟨_, _, h⟩⟩
  have hJ6 : JH 6 fun D => ∃ (o3_3 : Addr), D [(3, (.pointer (some o3_3)))] (fun C => ∀ (t58_3 : Bool), C [(3, (.pointer (some o3_3))), (58, (.bool t58_3))] (ref05_op.s3 Q o3_3 t58_3)) := by intros; exact ⟨fun _ ⟨_, h⟩ => ⟨_, _, h⟩⟩
  have hJ2 : JH 2 fun D => ∃ (t2_1 : Addr) (o3_1 : Addr), D [(2, (.pointer (some t2_1))), (3, (.pointer (some o3_1)))] (fun C => ∀ (t18_1 : Bool), C [(2, (.pointer (some t2_1))), (3, (.pointer (some o3_1))), (18, (.bool t18_1))] (ref05_op.s1 Q t2_1 o3_1 t18_1)) := by intros; exact ⟨fun _ ⟨_, _, h⟩ => ⟨_, _, h⟩⟩
  exact g_walk 81 h Tryz.func47
def ref05_SameTexts.b1 (Q : Bool → K)  (X1 : Int → K) (a0_1 : Sl) (b1_1 : Sl) (i5_1 : Int) : K :=
  Ite (decide (i5_1 < (a0_1.n : Int)))
    (Dr <|
    Idx a0_1 i5_1 1 fun t19 =>
    Ld t19 Value.string fun t20 =>
    Idx b1_1 i5_1 1 fun t23 =>
    Ld t23 Value.string fun t24 =>
    Ite (!(t20.toList == t24.toList))
      (Q false)
      (Ar (IntKind.wrap .i64 (i5_1 + 1)) fun t16 =>
      X1 t16))
    (Q true)
def ref05_SameTexts (a0 : Sl) (b1 : Sl) (Q : Bool → K) : K :=
  Ite (decide ((a0.n : Int) ≠ (b1.n : Int)))
    (Q false)
    (LoopK (α := Int) (fun X x => ref05_SameTexts.b1 Q X a0 b1 x) 0)
theorem ref05_SameTexts_ok (a0 : Sl) (b1 : Sl) (Q : Bool → K) (w : World) (h : ref05_SameTexts a0 b1 Q w) : ref05_SameTexts.call a0 b1 Q w := by
  have hL4 : ∀ (a0_1 : Sl) (b1_1 : Sl), LH 4 (fun x : Int => [(0, (Sl.val a0_1)), (1, (Sl.val b1_1)), (5, (.int .i64 x))]) (fun X x => ref05_SameTexts.b1 Q X a0_1 b1_1 x) := by intros; exact ⟨⟩
  exact g_walk 26 h Tryz.func64
end Go.Proofs.YtfjjocopmknhgaaGreat
/- The document's transactions: In, SameTexts, Keys, Great, Same. -/
namespace Go.Proofs.YtfjjocopmknhgaaGreat
open Go Go.Sep
set_option linter.unusedSimpArgs false
set_option linter.unusedVariables false
set_option maxRecDepth 100000

/-- All keys, rising, each once. -/
def keysT (L : List TX) : List TX := cmpct (sortL L)
theorem keysT_rises (L : List TX) : (keysT L).Pairwise (· < ·) := cmpct_rises _ (sortL_le L)
theorem keysT_mem {L : List TX} {x : TX} : x ∈ keysT L ↔ x ∈ L := by unfold keysT; rw [cmpct_mem, sortL_mem]
theorem keysT_len (L : List TX) : (keysT L).length ≤ L.length := by
  have := cmpct_len (sortL L)
  rwa [sortL_len] at this
theorem keysT_eq {L M : List TX} (h : M.Pairwise (· < ·)) (hm : ∀ x, x ∈ M ↔ x ∈ L) : M = keysT L := rises_eq h (keysT_rises L) fun x => by rw [hm, keysT_mem]
section
variable {B : World} {Γ Δ : List HProp} {k : K}
theorem s_str {s : Sl} {xs : List UInt8} {q : ByteArray → K} (hr : ∀ w, Holds B Γ w → RdB w s xs) (h : HG B Γ (q (bs xs))) : HG B Γ (Rd Tryz.prog (convert ty_s_uint8 ty_string s.val) Value.string q) := fun w hw => r_str (by kernel_rfl) (hr w hw) (h w hw)
theorem in05_hg {s : Sl} {L : List TX} {key : TX} {Q : Bool → K} (hL : L.length < 1000000000) (hr : ∀ w, Holds B Γ w → RdC w s 1 (L.map strV)) (h : HG B Γ (Q (decide (key ∈ L)))) : HG B Γ (ref05_In.call s (bs key) Q) := fun w hw => by
  refine ref05_In_ok _ _ _ _ ?_
  have hn : s.n = L.length := by have := (hr w hw).len; simpa using this.symm
  refine Sep.hg hw ?_
  clear hw w
  unfold ref05_In
  refine s_loopC (α := Int) (fun x => ∃ i : Nat, x = (i : Int) ∧ i ≤ L.length ∧ key ∉ L.take i) (fun x => L.length - x.toNat) ⟨0, rfl, Nat.zero_le _, by simp⟩ fun k' x hx hk' => ?_
  obtain ⟨i, rfl, hi, hno⟩ := hx
  unfold ref05_In.b1
  refine s_ite (fun hb => ?_) fun hb => ?_
  · have hil : i < L.length := by simp only [decide_eq_true_eq] at hb; omega
    have hge : L[i]? = some L[i] := List.getElem?_eq_getElem hil
    have hmem : L[i] ∈ L := List.getElem_mem hil
    have htk : L.take (i + 1) = L.take i ++ [L[i]] := List.take_succ_eq_append_getElem hil
    generalize L[i] = x at hge hmem htk
    refine s_idxS hr hge ?_
    rw [bs_list, bs_list]
    refine s_ite (fun he => ?_) fun he => ?_
    · have he' : x = key := by simpa using he
      rw [show decide (key ∈ L) = true by rw [← he']; simpa using hmem] at h
      exact h
    · have he' : ¬ x = key := by simpa using he
      refine s_ai ?_
      refine hk' _ ⟨i + 1, by simp, hil, ?_⟩ (by omega)
      rw [htk]
      simp only [List.mem_append, List.mem_singleton, not_or]
      exact ⟨hno, fun e => he' e.symm⟩
  · have hil : i = L.length := by simp only [decide_eq_false_iff_not] at hb; omega
    rw [hil, List.take_length] at hno
    rw [show decide (key ∈ L) = false by simpa using hno] at h
    exact h
theorem texts05_hg {a b : Sl} {La Lb : List TX} {Q : Bool → K} (hL : La.length < 1000000000) (ha : ∀ w, Holds B Γ w → RdC w a 1 (La.map strV)) (hb : ∀ w, Holds B Γ w → RdC w b 1 (Lb.map strV)) (h : HG B Γ (Q (decide (La = Lb)))) : HG B Γ (ref05_SameTexts.call a b Q) := fun w hw => by
  refine ref05_SameTexts_ok _ _ _ _ ?_
  have han : a.n = La.length := by have := (ha w hw).len; simpa using this.symm
  have hbn : b.n = Lb.length := by have := (hb w hw).len; simpa using this.symm
  refine Sep.hg hw ?_
  clear hw w
  unfold ref05_SameTexts
  refine s_ite (fun hc => ?_) fun hc => ?_
  · have hne : La.length ≠ Lb.length := by simp only [decide_eq_true_eq] at hc; omega
    rw [show decide (La = Lb) = false by simpa using fun e => hne (by rw [e])] at h
    exact h
  have hll : La.length = Lb.length := by simp only [decide_eq_false_iff_not] at hc; omega
  refine s_loopC (α := Int) (fun x => ∃ i : Nat, x = (i : Int) ∧ i ≤ La.length ∧ La.take i = Lb.take i) (fun x => La.length - x.toNat) ⟨0, rfl, Nat.zero_le _, by simp⟩ fun k' x hx hk' => ?_
  obtain ⟨i, rfl, hi, he⟩ := hx
  unfold ref05_SameTexts.b1
  refine s_ite (fun hc2 => ?_) fun hc2 => ?_
  · have hil : i < La.length := by simp only [decide_eq_true_eq] at hc2; omega
    have hil2 : i < Lb.length := by omega
    have t1 := List.take_succ_eq_append_getElem hil
    have t2 := List.take_succ_eq_append_getElem hil2
    have g1 : La[i]? = some La[i] := List.getElem?_eq_getElem hil
    have g2 : Lb[i]? = some Lb[i] := List.getElem?_eq_getElem hil2
    generalize La[i] = x at t1 g1
    generalize Lb[i] = y at t2 g2
    repeat refine s_nx ?_
    refine s_idxS ha g1 ?_
    refine s_idxS hb g2 ?_
    rw [bs_list, bs_list]
    refine s_ite (fun hp => ?_) fun hp => ?_
    · have hp' : ¬ x = y := by simpa using hp
      rw [show decide (La = Lb) = false by simp only [decide_eq_false_iff_not]; rintro rfl; rw [g1] at g2; exact hp' (Option.some.inj g2)] at h
      exact h
    · have hp' : x = y := by simpa using hp
      refine s_ai ?_
      exact hk' _ ⟨i + 1, by simp, hil, by rw [t1, t2, he, hp']⟩ (by omega)
  · have hil : i = La.length := by simp only [decide_eq_false_iff_not] at hc2; omega
    rw [hil, List.take_length, hll, List.take_length] at he
    rw [show decide (La = Lb) = true by simpa using he] at h
    exact h
/-- A text goes to its place. -/
theorem bubble_hg {s all : Sl} {A : List TX} {x : TX} {X1 : Sl → Int → K} {Q : Sl → K} {i : Int} (hA : A.Pairwise (· < ·)) (hx : x ∉ A) (hL : A.length < 100000000)
    (h : ∀ M, M.Pairwise (· < ·) → (∀ y, y ∈ M ↔ y = x ∨ y ∈ A) → M.length = A.length + 1 → HG B (SlS s M :: Γ) (ref05_Keys.s2 Q X1 s all i)) :
    HG B (SlS s (A ++ [x]) :: Γ) (LoopK (α := Int) (fun X y => ref05_Keys.b3 Q X1 X s all i y) (A.length : Int)) := by
  refine s_loop (α := Int) (ι := List TX × List TX) (fun y i => y = (i.1.length : Int) ∧ A = i.1 ++ i.2 ∧ ∀ z ∈ i.2, x < z) (fun y i => SlS s (i.1 ++ x :: i.2) :: Γ) (fun y i => i.1.length) (A, []) ⟨rfl, by simp, by simp⟩ ?_
  rintro k' _ ⟨A1, A2⟩ ⟨rfl, rfl, h2⟩ hk'
  simp only at h2 hk' ⊢
  have hpw := List.pairwise_append.1 hA
  have hlen : (A1 ++ A2).length = A1.length + A2.length := List.length_append
  have stop : (∀ z ∈ A1, z < x) → HG B (SlS s (A1 ++ x :: A2) :: Γ) (ref05_Keys.s4 Q X1 k' s all i (A1.length : Int) false) := fun h1 => by
    unfold ref05_Keys.s4
    refine s_f ?_
    refine h (A1 ++ x :: A2) (List.pairwise_append.2 ⟨hpw.1, List.pairwise_cons.2 ⟨h2, hpw.2.1⟩, fun a ha b hb => ?_⟩) (fun y => by simp only [List.mem_append, List.mem_cons]; constructor <;> (intro h; rcases h with h | h | h <;> simp [h])) (by simp; omega)
    rcases List.mem_cons.1 hb with rfl | hb
    · exact h1 a ha
    · exact hpw.2.2 a ha b hb
  unfold ref05_Keys.b3
  refine s_cap s fun a1 a2 a3 a4 => ?_
  have hn : s.n = A1.length + (A2.length + 1) := by simpa using a1.symm
  repeat refine s_nx ?_
  rcases List.eq_nil_or_concat A1 with rfl | ⟨A1, y, rfl⟩
  · refine s_f ?_
    exact stop (by simp)
  simp only [List.concat_eq_append] at *
  have hl1 : (A1 ++ [y]).length = A1.length + 1 := by simp
  rw [hl1] at hn hlen hk' ⊢
  refine s_t ?_ (by simp)
  have e1 : ((A1 ++ [y]) ++ x :: A2)[A1.length + 1]? = some x := by rw [List.getElem?_append_right (by simp), hl1]; simp
  have e2 : ((A1 ++ [y]) ++ x :: A2)[A1.length]? = some y := by rw [List.append_assoc]; simp
  refine s_idxS (L := (A1 ++ [y]) ++ x :: A2) (j := A1.length + 1) (fun w hw => (own_rd (s := s) hw).1) e1 ?_ rfl
  refine s_ai ?_
  refine s_idxS (L := (A1 ++ [y]) ++ x :: A2) (j := A1.length) (fun w hw => (own_rd (s := s) hw).1) e2 ?_ (by omega)
  rw [bs_list, bs_list, bytesLess_dec]
  by_cases hxy : x < y
  · rw [show decide (x < y) = true by simpa using hxy]
    unfold ref05_Keys.s4
    refine s_t ?_
    refine s_idxS (L := (A1 ++ [y]) ++ x :: A2) (j := A1.length + 1) (fun w hw => (own_rd (s := s) hw).1) e1 ?_ rfl
    refine s_ai ?_
    refine s_idxS (L := (A1 ++ [y]) ++ x :: A2) (j := A1.length) (fun w hw => (own_rd (s := s) hw).1) e2 ?_ (by omega)
    refine s_idx (s := s) (i := A1.length + 1) ?_
    rw [← add0 (elA s (A1.length + 1) 1)]
    refine s_stE (s := s) ?_ (by simp)
    refine s_ai ?_
    refine s_idx (s := s) (i := A1.length) ?_
    rw [← add0 (elA s A1.length 1)]
    refine s_stE (s := s) ?_ (by simp)
    refine s_ai ?_
    have e3 : ((((A1 ++ [y]) ++ x :: A2).map strV).set ((A1.length + 1) * 1 + 0) (strV y)).set (A1.length * 1 + 0) (strV x) = (A1 ++ x :: (y :: A2)).map strV := by
      rw [show (A1.length + 1) * 1 + 0 = (A1 ++ [y]).length by simp, show A1.length * 1 + 0 = A1.length by omega, ← List.map_set, ← List.map_set]
      rw [List.set_append_right _ _ (Nat.le_refl _), Nat.sub_self, List.set_cons_zero, List.append_assoc, List.set_append_right _ _ (Nat.le_refl _), Nat.sub_self]
      rfl
    rw [show ((A1 ++ [y] ++ x :: A2).map strV).set ((A1.length + 1) * 1 + 0) (Value.string (bs y)) = ((A1 ++ [y] ++ x :: A2).map strV).set ((A1.length + 1) * 1 + 0) (strV y) from rfl, show Value.string (bs x) = strV x from rfl, e3]
    refine hk' _ (A1, y :: A2) ⟨by simp, by simp, fun z hz => ?_⟩ (by simp)
    rcases List.mem_cons.1 hz with rfl | hz
    · exact hxy
    · exact h2 z hz
  · rw [show decide (x < y) = false by simpa using hxy]
    have := stop fun z hz => by
      have hyx : y < x := by
        have h4 : y ≤ x := List.not_lt.1 hxy
        rcases List.le_iff_lt_or_eq.1 h4 with h5 | h5
        · exact h5
        · exact absurd (by rw [← h5]; simp) hx
      rcases List.mem_append.1 hz with hz | hz
      · exact List.lt_trans ((List.pairwise_append.1 hpw.1).2.2 z hz y (by simp)) hyx
      · rw [List.mem_singleton.1 hz]; exact hyx
    rw [hl1] at this
    exact this
theorem keys05_hg {t : TxX} {Q : Sl → K} (hr1 : ∀ w, Holds B Γ w → RdC w t.rs 1 (t.reads.map strV)) (hr2 : ∀ w, Holds B Γ w → RdC w t.ws 1 (t.writes.map strV)) (hl : t.reads.length ≤ 10000000) (hl2 : t.writes.length ≤ 10000000) (h : ∀ s, HG B (SlS s (keysT (t.reads ++ t.writes)) :: Γ) (Q s)) : HG B Γ (ref05_Keys.call (txL t).toArray Q) := fun w hw => by
  refine ref05_Keys_ok _ _ _ ?_
  have hn1 : t.rs.n = t.reads.length := by have := (hr1 w hw).len; simpa using this.symm
  have hn2 : t.ws.n = t.writes.length := by have := (hr2 w hw).len; simpa using this.symm
  refine Sep.hg hw ?_
  clear hw w
  unfold ref05_Keys
  refine s_new fun t1 => ?_
  refine s_new fun t8 => ?_
  refine s_conv (A' := SlS ⟨some ⟨t8, 0, none⟩, 0, 0⟩ []) (blk_SlC (vs := []) rfl (by simp)) ?_
  refine s_dr ?_
  refine s_wsD [blk t1 (.cells (txL t).toArray ty_api_Txn (0, 0))] ?_
  repeat refine s_nx ?_
  refine s_new fun t9 => ?_
  refine s_conv (A' := SlC ty_string 1 ⟨some ⟨t9, 0, none⟩, 0, 0⟩ []) (blk_SlC (vs := []) rfl (by simp)) ?_
  repeat refine s_nx ?_
  refine s_append (s := ⟨some ⟨t9, 0, none⟩, 0, 0⟩) (us := t.reads.map strV) (fun w hw => hr1 w hw.drops) (fun v hv => by obtain ⟨y, _, rfl⟩ := List.mem_map.1 hv; rfl) (by simp only; omega) fun a1 ha1 => ?_
  repeat refine s_nx ?_
  refine s_append (s := a1) (us := t.writes.map strV) (fun w hw => hr2 w hw.drops) (fun v hv => by obtain ⟨y, _, rfl⟩ := List.mem_map.1 hv; rfl) (by simp only at ha1; omega) fun all hall => ?_
  rw [show [] ++ t.reads.map strV ++ t.writes.map strV = (t.reads ++ t.writes).map strV by simp]
  have hln : (t.reads ++ t.writes).length = t.reads.length + t.writes.length := List.length_append
  generalize hLL : t.reads ++ t.writes = L at *
  have halln : all.n = L.length := by simp only at ha1; omega
  refine s_end (Δ := SlS ⟨some ⟨t8, 0, none⟩, 0, 0⟩ [] :: SlS all L :: Γ) ?_
  refine s_loop (α := Sl × Int) (ι := Nat × List TX) (fun y i => y.2 = (i.1 : Int) ∧ i.1 ≤ L.length ∧ i.2.Pairwise (· < ·) ∧ (∀ z, z ∈ i.2 ↔ z ∈ L.take i.1) ∧ i.2.length ≤ i.1) (fun y i => SlS y.1 i.2 :: SlS all L :: Γ) (fun y i => L.length - i.1) (0, []) ⟨rfl, Nat.zero_le _, List.Pairwise.nil, by simp, by simp⟩ ?_
  rintro k' ⟨o, _⟩ ⟨i, M⟩ ⟨rfl, hi, hM, hm, hMl⟩ hk'
  simp only at hi hM hm hMl hk' ⊢
  unfold ref05_Keys.b1
  refine s_cap o fun b1 b2 b3 b4 => ?_
  rw [List.length_map, Nat.mul_one] at b1
  refine s_ite (fun hb => ?_) fun hb => ?_
  · have hil : i < L.length := by simp only [decide_eq_true_eq] at hb; omega
    have hge : L[i]? = some L[i] := List.getElem?_eq_getElem hil
    have htk : L.take (i + 1) = L.take i ++ [L[i]] := List.take_succ_eq_append_getElem hil
    generalize L[i] = x at hge htk
    refine s_idxS (L := L) (fun w hw => (own_rd (s := all) hw).1) hge ?_
    refine in05_hg (L := M) (by omega) (fun w hw => (own_rd (s := o) hw).1) ?_
    refine s_ite (fun he => ?_) fun he => ?_
    · have hxM : x ∈ M := by simpa using he
      unfold ref05_Keys.s2
      refine s_ai ?_
      refine hk' (o, (i : Int) + 1) (i + 1, M) ⟨by simp, hil, hM, fun z => ?_, by simp only; omega⟩ (by simp only; omega)
      rw [htk, List.mem_append, ← hm]
      simp only [List.mem_singleton]
      constructor
      · exact fun h => .inl h
      · rintro (h | rfl)
        · exact h
        · exact hxM
    · have hxM : x ∉ M := by simpa using he
      refine s_idxS (L := L) (fun w hw => (own_rd (s := all) hw).1) hge ?_
      refine s_new fun t33 => ?_
      refine s_append (s := o) (us := [strV x]) (blk_rd rfl) (by simp [flatV]) (by simp only; omega) fun o2 ho2 => ?_
      rw [show M.map strV ++ [strV x] = (M ++ [x]).map strV by simp]
      refine s_ar (e' := (M.length : Int)) (by simp only at ho2; rw [wrap64 (by omega) (by omega)]; omega) ?_
      refine bubble_hg hM hxM (by omega) fun M2 h1 h2 h3 => ?_
      unfold ref05_Keys.s2
      refine s_ai ?_
      refine s_end (hk' (o2, (i : Int) + 1) (i + 1, M2) ⟨by simp, hil, h1, fun z => ?_, by simp only; omega⟩ (by simp only; omega))
      rw [h2, htk, List.mem_append, ← hm]
      simp only [List.mem_singleton]
      exact or_comm
  · have hil : i = L.length := by simp only [decide_eq_false_iff_not] at hb; omega
    rw [hil, List.take_length] at hm
    rw [keysT_eq hM hm]
    exact s_end (h o)
end
end Go.Proofs.YtfjjocopmknhgaaGreat
/- The document's transactions: Great, Same. -/
namespace Go.Proofs.YtfjjocopmknhgaaGreat
open Go Go.Sep
set_option linter.unusedSimpArgs false
set_option linter.unusedVariables false
set_option maxRecDepth 100000

abbrev GreatP (t : TxX) : Prop := 40 < t.reads.length ∨ 40 < t.writes.length ∨ 60 < t.ops.length ∨ (∃ k ∈ t.reads, 200 < k.length) ∨ (∃ k ∈ t.writes, 200 < k.length) ∨ ∃ x ∈ t.ops, 200 < x.1.key.length ∨ 200 < x.1.val.length
abbrev SameP (a b : TxX) : Prop := a.kind = b.kind ∧ a.to = b.to ∧ a.reads = b.reads ∧ a.writes = b.writes ∧ a.ops.map Prod.fst = b.ops.map Prod.fst
section
variable {B : World} {Γ Γ0 Δ : List HProp} {k : K}
/-- An element is looked at in every state that bears this. -/
theorem s_idxNS {α : Type} (f : α → List Value) {esz : Nat} {L : List α} {s : Sl} {j : Nat} {jj : Int} {x : α} {k : Array Value → K} (hf : ∀ x, (f x).length = esz) (he : 0 < esz) (hr : ∀ w, Holds B Γ w → RdC w s esz (L.flatMap f)) (hr0 : ∀ w, Holds B Γ0 w → RdC w s esz (L.flatMap f)) (hx : L[j]? = some x) (h : HG B Γ (k (f x).toArray)) (hj : jj = (j : Int) := by first | rfl | omega) :
    HG B Γ (Idx s jj esz fun t => LdNS (Holds B Γ0) t esz k) := fun w hw => by
  subst hj
  have hrw := hr w hw
  have hj : j < L.length := (List.getElem?_eq_some_iff.1 hx).1
  have hn : L.length = s.n := by
    have := hrw.len; rw [flatMap_len f esz hf] at this
    exact Nat.eq_of_mul_eq_mul_right he this
  cases ha : s.a with
  | none => have := hrw.nil ha; omega
  | some a =>
    refine ⟨a, _, ha, by omega, by omega, rfl, _, by simp [hf], fun w' hw' => ?_, h w hw⟩
    simp only [Int.toNat_natCast]
    exact flat_at f esz hf (hr0 w' hw') ha hx
/-- A part of an element. -/
theorem s_idxF1 {α β : Type} (f : α → List Value) {esz off : Nat} {L : List α} {s : Sl} {j : Nat} {jj : Int} {x : α} {c : β → Value} {v : β} {k : β → K} (hf : ∀ x, (f x).length = esz) (hr : ∀ w, Holds B Γ w → RdC w s esz (L.flatMap f)) (hx : L[j]? = some x) (hv : (f x)[off]? = some (c v)) (h : HG B Γ (k v)) (hj : jj = (j : Int) := by first | rfl | omega) :
    HG B Γ (Idx s jj esz fun t => Ld (t.add off) c k) := fun w hw => by
  subst hj
  have hrw := hr w hw
  have hj : j < L.length := (List.getElem?_eq_some_iff.1 hx).1
  have ho : off < esz := by rw [← hf x]; exact (List.getElem?_eq_some_iff.1 hv).1
  have hn : L.length = s.n := by
    have := hrw.len; rw [flatMap_len f esz hf] at this
    exact Nat.eq_of_mul_eq_mul_right (by omega) this
  cases ha : s.a with
  | none => have := hrw.nil ha; omega
  | some a =>
    refine ⟨a, _, ha, by omega, by omega, rfl, v, ?_, h w hw⟩
    simp only [Int.toNat_natCast]
    have h2 := flat_at f esz hf hrw ha hx off (by simpa [hf] using ho)
    rw [h2]
    simpa using hv
theorem s_idxF0 {α β : Type} (f : α → List Value) {esz : Nat} {L : List α} {s : Sl} {j : Nat} {jj : Int} {x : α} {c : β → Value} {v : β} {k : β → K} (hf : ∀ x, (f x).length = esz) (hr : ∀ w, Holds B Γ w → RdC w s esz (L.flatMap f)) (hx : L[j]? = some x) (hv : (f x)[0]? = some (c v)) (h : HG B Γ (k v)) (hj : jj = (j : Int) := by first | rfl | omega) :
    HG B Γ (Idx s jj esz fun t => Ld t c k) := fun w hw => by
  obtain ⟨a, t, h1, h2, h3, h4, h5⟩ := s_idxF1 f (off := 0) hf hr hx hv h hj w hw
  rw [add0] at h5
  exact ⟨a, t, h1, h2, h3, h4, h5⟩
theorem tx_lens {w : World} {t : TxX} (h : txRd w t) : t.rs.n = t.reads.length ∧ t.ws.n = t.writes.length ∧ t.os.n = t.ops.length :=
  ⟨by have := h.1.len; simpa using this.symm, by have := h.2.1.len; simpa using this.symm, rd_len opF_len (by omega) h.2.2.1⟩
theorem great05_hg {t : TxX} {Q : Bool → K} (hr : ∀ w, Holds B Γ w → txRd w t) (h : HG B Γ (Q (decide (GreatP t)))) : HG B Γ (ref05_Great.call (txL t).toArray Q) := fun w hw => by
  refine ref05_Great_ok _ _ _ ?_
  obtain ⟨n1, n2, n3⟩ := tx_lens (hr w hw)
  refine Sep.hg hw ?_
  clear hw w
  unfold ref05_Great
  refine s_new fun t1 => ?_
  have yes : GreatP t → HG B (blk t1 (.cells (txL t).toArray ty_api_Txn (0, 0)) :: Γ) (Q true) := fun hg => by
    rw [show decide (GreatP t) = true from decide_eq_true hg] at h
    exact s_end h
  repeat refine s_nx ?_
  refine s_ite (fun hb => ?_) fun hb => ?_
  · unfold ref05_Great.s1
    exact s_t (yes (.inl (by simp only [decide_eq_true_eq] at hb; omega)))
  repeat refine s_nx ?_
  refine s_ite (fun hb2 => ?_) fun hb2 => ?_
  · unfold ref05_Great.s1
    exact s_t (yes (.inr (.inl (by simp only [decide_eq_true_eq] at hb2; omega))))
  repeat refine s_nx ?_
  by_cases hb3 : 60 < t.os.n
  · rw [show decide ((60 : Int) < (t.os.n : Int)) = true by simp; omega]
    unfold ref05_Great.s1
    exact s_t (yes (.inr (.inr (.inl (by omega)))))
  rw [show decide ((60 : Int) < (t.os.n : Int)) = false by simp; omega]
  simp only [decide_eq_false_iff_not] at hb hb2
  unfold ref05_Great.s1
  repeat refine s_nx ?_
  refine s_loopC (α := Int) (fun x => ∃ i : Nat, x = (i : Int) ∧ i ≤ t.reads.length ∧ ∀ k ∈ t.reads.take i, k.length ≤ 200) (fun x => t.reads.length - x.toNat) ⟨0, rfl, Nat.zero_le _, by simp⟩ fun k1 x hx hk1 => ?_
  obtain ⟨i, rfl, hi, hs1⟩ := hx
  unfold ref05_Great.b2
  repeat refine s_nx ?_
  refine s_ite (fun hc => ?_) fun hc => ?_
  · have hil : i < t.reads.length := by simp only [decide_eq_true_eq] at hc; omega
    have hge : t.reads[i]? = some t.reads[i] := List.getElem?_eq_getElem hil
    have hmem : t.reads[i] ∈ t.reads := List.getElem_mem hil
    have htk : t.reads.take (i + 1) = t.reads.take i ++ [t.reads[i]] := List.take_succ_eq_append_getElem hil
    generalize t.reads[i] = x at hge hmem htk
    repeat refine s_nx ?_
    refine s_idxS (L := t.reads) (fun w hw => (hr w hw.tail).1) hge ?_
    have hsz : (bs x).size = x.length := rfl
    refine s_ite (fun hd => ?_) fun hd => ?_
    · exact yes (.inr (.inr (.inr (.inl ⟨x, hmem, by simp only [decide_eq_true_eq] at hd; omega⟩))))
    · refine s_ai ?_
      refine hk1 _ ⟨i + 1, by simp, hil, fun y hy => ?_⟩ (by omega)
      rw [htk] at hy
      rcases List.mem_append.1 hy with hy | hy
      · exact hs1 y hy
      · rw [List.mem_singleton.1 hy]; simp only [decide_eq_false_iff_not] at hd; omega
  have hil : i = t.reads.length := by simp only [decide_eq_false_iff_not] at hc; omega
  rw [hil, List.take_length] at hs1
  refine s_loopC (α := Int) (fun x => ∃ i : Nat, x = (i : Int) ∧ i ≤ t.writes.length ∧ ∀ k ∈ t.writes.take i, k.length ≤ 200) (fun x => t.writes.length - x.toNat) ⟨0, rfl, Nat.zero_le _, by simp⟩ fun k2 x hx hk2 => ?_
  obtain ⟨j, rfl, hj, hs2⟩ := hx
  unfold ref05_Great.b3
  repeat refine s_nx ?_
  refine s_ite (fun hc2 => ?_) fun hc2 => ?_
  · have hil : j < t.writes.length := by simp only [decide_eq_true_eq] at hc2; omega
    have hge : t.writes[j]? = some t.writes[j] := List.getElem?_eq_getElem hil
    have hmem : t.writes[j] ∈ t.writes := List.getElem_mem hil
    have htk : t.writes.take (j + 1) = t.writes.take j ++ [t.writes[j]] := List.take_succ_eq_append_getElem hil
    generalize t.writes[j] = x at hge hmem htk
    repeat refine s_nx ?_
    refine s_idxS (L := t.writes) (fun w hw => (hr w hw.tail).2.1) hge ?_
    have hsz : (bs x).size = x.length := rfl
    refine s_ite (fun hd => ?_) fun hd => ?_
    · exact yes (.inr (.inr (.inr (.inr (.inl ⟨x, hmem, by simp only [decide_eq_true_eq] at hd; omega⟩)))))
    · refine s_ai ?_
      refine hk2 _ ⟨j + 1, by simp, hil, fun y hy => ?_⟩ (by omega)
      rw [htk] at hy
      rcases List.mem_append.1 hy with hy | hy
      · exact hs2 y hy
      · rw [List.mem_singleton.1 hy]; simp only [decide_eq_false_iff_not] at hd; omega
  have hjl : j = t.writes.length := by simp only [decide_eq_false_iff_not] at hc2; omega
  rw [hjl, List.take_length] at hs2
  refine s_loopC (α := Int) (fun x => ∃ i : Nat, x = (i : Int) ∧ i ≤ t.ops.length ∧ ∀ y ∈ t.ops.take i, y.1.key.length ≤ 200 ∧ y.1.val.length ≤ 200) (fun x => t.ops.length - x.toNat) ⟨0, rfl, Nat.zero_le _, by simp⟩ fun k3 x hx hk3 => ?_
  obtain ⟨m, rfl, hm, hs3⟩ := hx
  unfold ref05_Great.b4
  repeat refine s_nx ?_
  refine s_ite (fun hc3 => ?_) fun hc3 => ?_
  · have hil : m < t.ops.length := by simp only [decide_eq_true_eq] at hc3; omega
    have hge : t.ops[m]? = some t.ops[m] := List.getElem?_eq_getElem hil
    have hmem : t.ops[m] ∈ t.ops := List.getElem_mem hil
    have htk : t.ops.take (m + 1) = t.ops.take m ++ [t.ops[m]] := List.take_succ_eq_append_getElem hil
    generalize t.ops[m] = x at hge hmem htk
    repeat refine s_nx ?_
    refine s_idxF1 opF (off := 1) (c := Value.string) (x := x) (v := bs x.1.key) opF_len (fun w hw => (hr w hw.tail).2.2.1) hge rfl ?_
    have hsz : (bs x.1.key).size = x.1.key.length := rfl
    unfold ref05_Great.s5
    refine s_ite (fun hd => ?_) fun hd => ?_
    · refine s_t ?_
      exact yes (.inr (.inr (.inr (.inr (.inr ⟨x, hmem, .inl (by simp only [decide_eq_true_eq] at hd; omega)⟩)))))
    · repeat refine s_nx ?_
      refine fun w hw => ?_
      have hxl : x.2.n = x.1.val.length := by have := ((hr w hw.tail).2.2.2 x hmem).len; simpa using this.symm
      refine Sep.hg hw ?_
      clear hw w
      refine s_idxF1 opF (off := 2) (c := Sl.val) (x := x) (v := x.2) opF_len (fun w hw => (hr w hw.tail).2.2.1) hge rfl ?_
      refine s_ite (fun he => ?_) fun he => ?_
      · exact yes (.inr (.inr (.inr (.inr (.inr ⟨x, hmem, .inr (by simp only [decide_eq_true_eq] at he; omega)⟩)))))
      · refine s_ai ?_
        refine hk3 _ ⟨m + 1, by simp, hil, fun y hy => ?_⟩ (by omega)
        rw [htk] at hy
        rcases List.mem_append.1 hy with hy | hy
        · exact hs3 y hy
        · rw [List.mem_singleton.1 hy]; simp only [decide_eq_false_iff_not] at hd he; omega
  · have hml : m = t.ops.length := by simp only [decide_eq_false_iff_not] at hc3; omega
    rw [hml, List.take_length] at hs3
    rw [show decide (GreatP t) = false by
      simp only [decide_eq_false_iff_not]
      rintro (g | g | g | ⟨k, hk, g⟩ | ⟨k, hk, g⟩ | ⟨x, hx, g⟩)
      · omega
      · omega
      · omega
      · have := hs1 k hk; omega
      · have := hs2 k hk; omega
      · have := hs3 x hx; omega] at h
    exact s_end h
theorem same05_hg {a b : TxX} {Q : Bool → K} (ha : ∀ w, Holds B Γ w → txRd w a) (hb : ∀ w, Holds B Γ w → txRd w b) (hl : a.reads.length < 100000000 ∧ a.writes.length < 100000000 ∧ a.ops.length < 100000000) (h : HG B Γ (Q (decide (SameP a b)))) : HG B Γ (ref05_Same.call (txL a).toArray (txL b).toArray Q) := fun w hw => by
  refine ref05_Same_ok _ _ _ _ ?_
  obtain ⟨n1, n2, n3⟩ := tx_lens (ha w hw)
  obtain ⟨m1, m2, m3⟩ := tx_lens (hb w hw)
  refine Sep.hg hw ?_
  clear hw w
  unfold ref05_Same
  refine s_new fun a2 => ?_
  refine s_new fun b3 => ?_
  have no : ¬ SameP a b → HG B (blk b3 (.cells (txL b).toArray ty_api_Txn (0, 0)) :: blk a2 (.cells (txL a).toArray ty_api_Txn (0, 0)) :: Γ) (ref05_Same.s1 Q ⟨a2, 0, none⟩ ⟨b3, 0, none⟩ true) := fun hn => by
    rw [show decide (SameP a b) = false from decide_eq_false hn] at h
    unfold ref05_Same.s1
    exact s_t (s_end h)
  repeat refine s_nx ?_
  refine s_ite (fun hc1 => no fun hs => by simp [hs.1] at hc1) fun hc1 => ?_
  repeat refine s_nx ?_
  refine s_ite (fun hc2 => no fun hs => by simp [hs.2.1] at hc2) fun hc2 => ?_
  repeat refine s_nx ?_
  refine texts05_hg (La := a.reads) (Lb := b.reads) (by omega) (fun w hw => (ha w hw.drops).1) (fun w hw => (hb w hw.drops).1) ?_
  refine s_ite (fun hc3 => no fun hs => by simp [hs.2.2.1] at hc3) fun hc3 => ?_
  repeat refine s_nx ?_
  refine texts05_hg (La := a.writes) (Lb := b.writes) (by omega) (fun w hw => (ha w hw.drops).2.1) (fun w hw => (hb w hw.drops).2.1) ?_
  refine s_ite (fun hc4 => no fun hs => by simp [hs.2.2.2.1] at hc4) fun hc4 => ?_
  repeat refine s_nx ?_
  by_cases hc5 : a.os.n = b.os.n
  rotate_left
  · rw [show decide ((a.os.n : Int) ≠ (b.os.n : Int)) = true by simp; omega]
    refine no fun hs => ?_
    have := congrArg List.length hs.2.2.2.2
    simp only [List.length_map] at this
    omega
  rw [show decide ((a.os.n : Int) ≠ (b.os.n : Int)) = false by simp; omega]
  have hab : a.kind = b.kind ∧ a.to = b.to ∧ a.reads = b.reads ∧ a.writes = b.writes := ⟨by simpa using hc1, by simpa using hc2, by simpa using hc3, by simpa using hc4⟩
  have hll : a.ops.length = b.ops.length := by omega
  unfold ref05_Same.s1
  repeat refine s_nx ?_
  refine s_loopC (α := Int) (fun x => ∃ i : Nat, x = (i : Int) ∧ i ≤ a.ops.length ∧ (a.ops.take i).map Prod.fst = (b.ops.take i).map Prod.fst) (fun x => a.ops.length - x.toNat) ⟨0, rfl, Nat.zero_le _, by simp⟩ fun k' x hx hk' => ?_
  obtain ⟨i, rfl, hi, he⟩ := hx
  unfold ref05_Same.b2
  repeat refine s_nx ?_
  refine s_ite (fun hc6 => ?_) fun hc6 => ?_
  · have hil : i < a.ops.length := by simp only [decide_eq_true_eq] at hc6; omega
    have hil2 : i < b.ops.length := by omega
    have t1 := List.take_succ_eq_append_getElem hil
    have t2 := List.take_succ_eq_append_getElem hil2
    have g1 : a.ops[i]? = some a.ops[i] := List.getElem?_eq_getElem hil
    have g2 : b.ops[i]? = some b.ops[i] := List.getElem?_eq_getElem hil2
    have m1' : a.ops[i] ∈ a.ops := List.getElem_mem hil
    have m2' : b.ops[i] ∈ b.ops := List.getElem_mem hil2
    generalize a.ops[i] = x at t1 g1 m1'
    generalize b.ops[i] = y at t2 g2 m2'
    have fin : ∀ x6 y7, HG B (blk x6 (.cells (opF x).toArray ty_api_Op (0, 0)) :: blk y7 (.cells (opF y).toArray ty_api_Op (0, 0)) :: blk b3 (.cells (txL b).toArray ty_api_Txn (0, 0)) :: blk a2 (.cells (txL a).toArray ty_api_Txn (0, 0)) :: Γ) (ref05_Same.s3 Q k' ⟨a2, 0, none⟩ ⟨b3, 0, none⟩ (i : Int) ⟨x6, 0, none⟩ ⟨y7, 0, none⟩) := fun x6 y7 => by
      have bad : x.1 ≠ y.1 → HG B (blk x6 (.cells (opF x).toArray ty_api_Op (0, 0)) :: blk y7 (.cells (opF y).toArray ty_api_Op (0, 0)) :: blk b3 (.cells (txL b).toArray ty_api_Txn (0, 0)) :: blk a2 (.cells (txL a).toArray ty_api_Txn (0, 0)) :: Γ) (ref05_Same.s4 Q k' ⟨a2, 0, none⟩ ⟨b3, 0, none⟩ (i : Int) true) := fun hne => by
        have hn : ¬ SameP a b := fun hs => by
          have := congrArg (·[i]?) hs.2.2.2.2
          simp only [List.getElem?_map, g1, g2, Option.map_some, Option.some.injEq] at this
          exact hne this
        rw [show decide (SameP a b) = false from decide_eq_false hn] at h
        unfold ref05_Same.s4
        exact s_t (s_end h)
      unfold ref05_Same.s3
      repeat refine s_nx ?_
      refine s_ite (fun hd1 => bad fun e => by simp [e] at hd1) fun hd1 => ?_
      repeat refine s_nx ?_
      rw [bs_list, bs_list]
      refine s_ite (fun hd2 => bad fun e => by simp [e] at hd2) fun hd2 => ?_
      repeat refine s_nx ?_
      refine s_ite (fun hd3 => bad fun e => by simp [e] at hd3) fun hd3 => ?_
      repeat refine s_nx ?_
      refine s_str (xs := x.1.val) (fun w hw => (ha w hw.drops).2.2.2 x m1') ?_
      repeat refine s_nx ?_
      refine s_str (xs := y.1.val) (fun w hw => (hb w hw.drops).2.2.2 y m2') ?_
      rw [bs_list, bs_list]
      by_cases hd4 : x.1.val = y.1.val
      rotate_left
      · rw [show (!(x.1.val == y.1.val)) = true by simpa using hd4]
        exact bad fun e => hd4 (by rw [e])
      rw [show (!(x.1.val == y.1.val)) = false by simpa using hd4]
      unfold ref05_Same.s4
      repeat refine s_nx ?_
      refine s_ai ?_
      refine s_end (hk' _ ⟨i + 1, by simp, hil, ?_⟩ (by omega))
      rw [t1, t2, List.map_append, List.map_append, he]
      have hxy : x.1 = y.1 := by
        obtain ⟨⟨x1, x2, x3, x4⟩, x5⟩ := x
        obtain ⟨⟨y1, y2, y3, y4⟩, y5⟩ := y
        simp only [OpM.mk.injEq] at hd4 ⊢
        exact ⟨by simpa using hd1, by simpa using hd2, hd4, by simpa using hd3⟩
      simp [hxy]
    refine s_dr ?_
    refine s_ws ?_
    repeat refine s_nx ?_
    refine s_idxNS opF opF_len (by omega) (fun w hw => (ha w hw.drops).2.2.1) (fun w hw => (ha w hw.drops).2.2.1) g1 ?_
    repeat refine s_nx ?_
    refine s_idxNS opF opF_len (by omega) (fun w hw => (hb w hw.drops).2.2.1) (fun w hw => (hb w hw.drops).2.2.1) g2 ?_
    refine s_all2 ?_ ?_
    · refine s_new fun x6 => ?_
      repeat refine s_nx ?_
      refine s_new fun y7 => ?_
      repeat refine s_nx ?_
      exact s_end (fin x6 y7)
    · refine s_new fun y7 => ?_
      repeat refine s_nx ?_
      refine s_new fun x6 => ?_
      repeat refine s_nx ?_
      exact s_end (fin x6 y7)
  · have hil : i = a.ops.length := by simp only [decide_eq_false_iff_not] at hc6; omega
    rw [hil, List.take_length, hll, List.take_length] at he
    rw [show decide (SameP a b) = true by simpa using ⟨hab.1, hab.2.1, hab.2.2.1, hab.2.2.2, he⟩] at h
    exact s_end h
end
end Go.Proofs.YtfjjocopmknhgaaGreat
/- The document's transactions: which are right. -/
namespace Go.Proofs.YtfjjocopmknhgaaGreat
open Go Go.Sep
set_option linter.unusedSimpArgs false
set_option linter.unusedVariables false
set_option maxRecDepth 100000

def opRight (t : TxX) (o : OpM) : Bool :=
  if 32 < o.val.length ∨ o.kind < 1 ∨ 7 < o.kind then false
  else if o.kind = 7 then decide (o.key = []) && decide (o.n = 0)
  else if o.key ∉ t.writes ∧ (o.key ∉ t.reads ∨ o.kind = 2 ∨ o.kind = 3 ∨ o.kind = 6) then false
  else if o.kind ≠ 6 ∧ o.n ≠ 0 then false
  else decide (o.kind = 2) || (decide (o.kind = 4) || decide (o.val.length = 0))
abbrev Rises (L : List TX) : Prop := L.Pairwise (· < ·)
abbrev headBad (n : Int) (t : TxX) : Prop := n < 1 ∨ 3 < n ∨ ¬ Rises t.reads ∨ ¬ Rises t.writes ∨ 8 < t.reads.length ∨ 8 < t.writes.length ∨ 8 < t.reads.length + t.writes.length
abbrev keysBad (t : TxX) : Prop := (∃ k ∈ t.reads ++ t.writes, k.length < 1 ∨ 16 < k.length) ∨ ∃ k ∈ t.reads, k ∈ t.writes
def rightT (n : Int) (t : TxX) : Bool :=
  if headBad n t then false
  else if keysBad t then false
  else if t.kind = 2 then decide (t.reads.length = 0) && (decide (t.ops.length = 0) && (decide (t.writes.length = 1) && (decide (0 ≤ t.to) && decide (t.to < n))))
  else if t.kind ≠ 1 ∨ t.to ≠ 0 ∨ 16 < t.ops.length then false
  else t.ops.all fun x => opRight t x.1
theorem flatMap_1 {α β : Type} (f : α → β) (L : List α) : L.flatMap (fun x => [f x]) = L.map f := by induction L <;> simp_all
section
variable {B : World} {Γ Δ : List HProp} {k : K}
theorem s_ldA0 {α : Type} {a : Addr} {cs : List Value} {c : α → Value} {x : α} {k : α → K} (hn : ∀ w, Holds B Γ w → RdN w a cs.toArray) (hv : cs[0]? = some (c x)) (h : HG B Γ (k x)) : HG B Γ (Ld a c k) := fun w hw => ⟨x, by
  have := hn w hw 0 (by have := (List.getElem?_eq_some_iff.1 hv).1; simpa using this)
  rw [add0] at this
  rw [this]; simpa using hv, h w hw⟩
theorem s_ldSA {Γ0 : List HProp} {α : Type} {a : Addr} {off : Nat} {cs : List Value} {c : α → Value} {x : α} {k : α → K} (hn : ∀ w, Holds B Γ0 w → RdN w a cs.toArray) (hv : cs[off]? = some (c x)) (h : HG B Γ (k x)) : HG B Γ (LdS (Holds B Γ0) (a.add off) c k) := fun w hw => ⟨x, fun w' hw' => by
  have := hn w' hw' off (by have := (List.getElem?_eq_some_iff.1 hv).1; simpa using this)
  rw [this]; simpa using hv, h w hw⟩
theorem s_ldSA0 {Γ0 : List HProp} {α : Type} {a : Addr} {cs : List Value} {c : α → Value} {x : α} {k : α → K} (hn : ∀ w, Holds B Γ0 w → RdN w a cs.toArray) (hv : cs[0]? = some (c x)) (h : HG B Γ (k x)) : HG B Γ (LdS (Holds B Γ0) a c k) := by
  have := s_ldSA (off := 0) hn hv h
  rwa [add0] at this
theorem s_ldNSA {Γ0 : List HProp} {a : Addr} {n : Nat} {cs : List Value} {k : Array Value → K} (hn : ∀ w, Holds B Γ0 w → RdN w a cs.toArray) (hl : cs.length = n) (h : HG B Γ (k cs.toArray)) : HG B Γ (LdNS (Holds B Γ0) a n k) := fun w hw => ⟨cs.toArray, by simpa using hl, fun w' hw' => hn w' hw', h w hw⟩
/-- An element's place, in every state. -/
theorem s_idxFA {α : Type} (f : α → List Value) {esz : Nat} {L : List α} {s : Sl} {j : Nat} {jj : Int} {x : α} {k : Addr → K} (hf : ∀ x, (f x).length = esz) (he : 0 < esz) (hr : ∀ w, Holds B Γ w → RdC w s esz (L.flatMap f)) (hx : L[j]? = some x) (h : ∀ t, (∀ w, RdC w s esz (L.flatMap f) → RdN w t (f x).toArray) → HG B Γ (k t)) (hj : jj = (j : Int) := by first | rfl | omega) :
    HG B Γ (Idx s jj esz k) := fun w hw => by
  subst hj
  have hrw := hr w hw
  have hj : j < L.length := (List.getElem?_eq_some_iff.1 hx).1
  have hn : L.length = s.n := by
    have := hrw.len; rw [flatMap_len f esz hf] at this
    exact Nat.eq_of_mul_eq_mul_right he this
  cases ha : s.a with
  | none => have := hrw.nil ha; omega
  | some a =>
    refine ⟨a, _, ha, by omega, by omega, rfl, h _ (fun w' hw' => ?_) w hw⟩
    simp only [Int.toNat_natCast]
    exact flat_at f esz hf hw' ha hx
theorem rising05_hg {s : Sl} {L : List TX} {Q : Bool → K} (hL : L.length < 1000000000) (hr : ∀ w, Holds B Γ w → RdC w s 1 (L.map strV)) (h : HG B Γ (Q (decide (Rises L)))) : HG B Γ (ref05_Rising.call s Q) := fun w hw => by
  refine ref05_Rising_ok _ _ _ ?_
  have hn : s.n = L.length := by have := (hr w hw).len; simpa using this.symm
  refine Sep.hg hw ?_
  clear hw w
  unfold ref05_Rising
  refine s_loopC (α := Int) (fun x => ∃ i : Nat, x = (i : Int) ∧ 1 ≤ i ∧ i ≤ L.length + 1 ∧ Rises (L.take i)) (fun x => L.length + 1 - x.toNat) ⟨1, rfl, Nat.le_refl _, by omega, ?_⟩ fun k' x hx hk' => ?_
  · match L with
    | [] => exact List.Pairwise.nil
    | x :: L => exact List.pairwise_singleton _ _
  obtain ⟨i, rfl, hi1, hi, hp⟩ := hx
  unfold ref05_Rising.b1
  refine s_ite (fun hb => ?_) fun hb => ?_
  · have hil : i < L.length := by simp only [decide_eq_true_eq] at hb; omega
    obtain ⟨j, rfl⟩ : ∃ j, i = j + 1 := ⟨i - 1, by omega⟩
    have g1 : L[j]? = some L[j] := List.getElem?_eq_getElem (by omega)
    have g2 : L[j + 1]? = some L[j + 1] := List.getElem?_eq_getElem hil
    have t1 : L.take (j + 1) = L.take j ++ [L[j]] := List.take_succ_eq_append_getElem (by omega)
    have t2 : L.take (j + 1 + 1) = L.take (j + 1) ++ [L[j + 1]] := List.take_succ_eq_append_getElem hil
    have hpi : Rises L → L[j] < L[j + 1] := fun h => (List.pairwise_iff_getElem.1 h) j (j + 1) (by omega) hil (by omega)
    generalize L[j] = x at g1 t1 hpi
    generalize L[j + 1] = y at g2 t2 hpi
    refine s_dr ?_
    refine s_ai ?_
    refine s_idxS hr g1 ?_ (by omega)
    refine s_idxS hr g2 ?_ (by omega)
    rw [bs_list, bs_list, bytesLess_dec]
    refine s_ite (fun hc => ?_) fun hc => ?_
    · have hxy : ¬ x < y := by simpa using hc
      rw [show decide (Rises L) = false from decide_eq_false fun h => hxy (hpi h)] at h
      exact h
    · have hxy : x < y := by simpa using hc
      refine s_ai ?_
      refine hk' _ ⟨j + 2, by simp; omega, by omega, by omega, ?_⟩ (by omega)
      rw [show j + 2 = j + 1 + 1 from rfl, t2]
      refine List.pairwise_append.2 ⟨hp, List.pairwise_singleton _ _, fun a ha b hb => ?_⟩
      rw [List.mem_singleton.1 hb]
      rw [t1] at ha hp
      rcases List.mem_append.1 ha with ha | ha
      · exact List.lt_trans ((List.pairwise_append.1 hp).2.2 a ha x (by simp)) hxy
      · rw [List.mem_singleton.1 ha]; exact hxy
  · have hil : L.length ≤ i := by simp only [decide_eq_false_iff_not] at hb; omega
    rw [List.take_of_length_le hil] at hp
    rw [show decide (Rises L) = true from decide_eq_true hp] at h
    exact h
theorem op05_hg {t : TxX} {x : OpX} {Q : Bool → K} (hr : ∀ w, Holds B Γ w → txRd w t) (hl : t.reads.length < 100000000 ∧ t.writes.length < 100000000) (hx : ∀ w, Holds B Γ w → RdB w x.2 x.1.val) (h : HG B Γ (Q (opRight t x.1))) : HG B Γ (ref05_op.call (txL t).toArray (opF x).toArray Q) := fun w hw => by
  refine ref05_op_ok _ _ _ _ ?_
  have hxl : x.2.n = x.1.val.length := by have := (hx w hw).len; simpa using this.symm
  refine Sep.hg hw ?_
  clear hw w
  unfold ref05_op
  refine s_new fun t2 => ?_
  refine s_new fun o3 => ?_
  have fin : HG B (blk o3 (.cells (opF x).toArray ty_api_Op (0, 0)) :: blk t2 (.cells (txL t).toArray ty_api_Txn (0, 0)) :: Γ) (Q (opRight t x.1)) := s_end h
  generalize hR : opRight t x.1 = R at fin
  unfold opRight at hR
  have S4 : ∀ b, (b = true ↔ x.1.kind ≠ 6 ∧ x.1.n ≠ 0) → (if x.1.kind ≠ 6 ∧ x.1.n ≠ 0 then false else decide (x.1.kind = 2) || (decide (x.1.kind = 4) || decide (x.1.val.length = 0))) = R → HG B (blk o3 (.cells (opF x).toArray ty_api_Op (0, 0)) :: blk t2 (.cells (txL t).toArray ty_api_Txn (0, 0)) :: Γ) (ref05_op.s4 Q ⟨o3, 0, none⟩ b) := fun b hb hR => by
    unfold ref05_op.s4 ref05_op.s5
    refine s_ite (fun hb1 => ?_) fun hb1 => ?_
    · rw [if_pos (hb.1 hb1)] at hR
      rw [hR]; exact fin
    · rw [if_neg fun h => by rw [hb.2 h] at hb1; cases hb1] at hR
      repeat refine s_nx ?_
      refine s_ite (fun hc => ?_) fun hc => ?_
      · rw [hc] at hR
        rw [show true = R by rw [← hR]; rfl]; exact fin
      · repeat refine s_nx ?_
        rw [hc] at hR
        refine s_ite (fun hd => ?_) fun hd => ?_
        · rw [hd] at hR
          rw [show true = R by rw [← hR]; rfl]; exact fin
        · repeat refine s_nx ?_
          rw [hd] at hR
          rw [show decide ((x.2.n : Int) = 0) = R by rw [← hR, hxl]; simp only [Bool.false_or]; exact decide_eq_decide.2 (by omega)]
          exact fin
  have S3 : ∀ b, (b = true ↔ x.1.key ∉ t.writes ∧ (x.1.key ∉ t.reads ∨ x.1.kind = 2 ∨ x.1.kind = 3 ∨ x.1.kind = 6)) → (if x.1.key ∉ t.writes ∧ (x.1.key ∉ t.reads ∨ x.1.kind = 2 ∨ x.1.kind = 3 ∨ x.1.kind = 6) then false else if x.1.kind ≠ 6 ∧ x.1.n ≠ 0 then false else decide (x.1.kind = 2) || (decide (x.1.kind = 4) || decide (x.1.val.length = 0))) = R → HG B (blk o3 (.cells (opF x).toArray ty_api_Op (0, 0)) :: blk t2 (.cells (txL t).toArray ty_api_Txn (0, 0)) :: Γ) (ref05_op.s3 Q ⟨o3, 0, none⟩ b) := fun b hb hR => by
    unfold ref05_op.s3
    refine s_ite (fun hb1 => ?_) fun hb1 => ?_
    · rw [if_pos (hb.1 hb1)] at hR
      rw [hR]; exact fin
    · rw [if_neg fun h => by rw [hb.2 h] at hb1; cases hb1] at hR
      repeat refine s_nx ?_
      refine s_ite (fun hc => ?_) fun hc => ?_
      · have hc' : x.1.kind ≠ 6 := by simpa using hc
        repeat refine s_nx ?_
        exact S4 _ (by simp [hc']) hR
      · have hc' : x.1.kind = 6 := by simpa using hc
        exact S4 _ (by simp [hc']) hR
  have S1 : ∀ b, (b = true ↔ 32 < x.1.val.length ∨ x.1.kind < 1 ∨ 7 < x.1.kind) → HG B (blk o3 (.cells (opF x).toArray ty_api_Op (0, 0)) :: blk t2 (.cells (txL t).toArray ty_api_Txn (0, 0)) :: Γ) (ref05_op.s1 Q ⟨t2, 0, none⟩ ⟨o3, 0, none⟩ b) := fun b hb => by
    unfold ref05_op.s1 ref05_op.s2
    refine s_ite (fun hb1 => ?_) fun hb1 => ?_
    · rw [if_pos (hb.1 hb1)] at hR
      rw [hR]; exact fin
    · rw [if_neg fun h => by rw [hb.2 h] at hb1; cases hb1] at hR
      repeat refine s_nx ?_
      refine s_ite (fun hc => ?_) fun hc => ?_
      · have hc' : x.1.kind = 7 := by simpa using hc
        rw [if_pos hc'] at hR
        repeat refine s_nx ?_
        rw [bs_list]
        refine s_ite (fun hd => ?_) fun hd => ?_
        · have hd' : x.1.key = [] := by simpa using hd
          repeat refine s_nx ?_
          rw [show decide (x.1.n = 0) = R by rw [← hR, hd']; rfl]
          exact fin
        · have hd' : x.1.key ≠ [] := by simpa using hd
          rw [show false = R by rw [← hR, decide_eq_false hd']; rfl]
          exact fin
      · have hc' : x.1.kind ≠ 7 := by simpa using hc
        rw [if_neg hc'] at hR
        repeat refine s_nx ?_
        refine in05_hg (L := t.writes) (key := x.1.key) (by omega) (fun w hw => (hr w hw.drops).2.1) ?_
        by_cases hw1 : x.1.key ∈ t.writes
        · rw [decide_eq_true hw1]
          refine s_f ?_
          exact S3 _ (by simp [hw1]) hR
        rw [decide_eq_false hw1]
        refine s_t ?_
        repeat refine s_nx ?_
        refine in05_hg (L := t.reads) (key := x.1.key) (by omega) (fun w hw => (hr w hw.drops).1) ?_
        by_cases hr1 : x.1.key ∈ t.reads
        · rw [decide_eq_true hr1]
          refine s_f ?_
          repeat refine s_nx ?_
          refine s_ite (fun hd => ?_) fun hd => ?_
          · exact S3 _ (by have : x.1.kind = 2 := by simpa using hd
                           simp [hw1, this]) hR
          repeat refine s_nx ?_
          refine s_ite (fun he => ?_) fun he => ?_
          · exact S3 _ (by have : x.1.kind = 3 := by simpa using he
                           simp [hw1, this]) hR
          repeat refine s_nx ?_
          refine S3 _ ?_ hR
          have h2 : ¬ x.1.kind = 2 := by simpa using hd
          have h3 : ¬ x.1.kind = 3 := by simpa using he
          simp [hw1, hr1, h2, h3]
        · rw [decide_eq_false hr1]
          refine s_t ?_
          exact S3 _ (by simp [hw1, hr1]) hR
  repeat refine s_nx ?_
  refine s_ite (fun hb => ?_) fun hb => ?_
  · exact S1 _ (by have : 32 < x.1.val.length := by simp only [decide_eq_true_eq] at hb; omega
                   simp [this])
  have h32 : ¬ 32 < x.1.val.length := by simp only [decide_eq_false_iff_not] at hb; omega
  repeat refine s_nx ?_
  refine s_ite (fun hc => ?_) fun hc => ?_
  · exact S1 _ (by have : x.1.kind < 1 := by simpa using hc
                   simp [this])
  have h1 : ¬ x.1.kind < 1 := by simpa using hc
  repeat refine s_nx ?_
  refine S1 _ ?_
  simp [h32, h1]
theorem right05_hg {t : TxX} {n : Int} {Q : Bool → K} (hr : ∀ w, Holds B Γ w → txRd w t) (hl : t.reads.length < 10000000 ∧ t.writes.length < 10000000 ∧ t.ops.length < 10000000) (h : HG B Γ (Q (rightT n t))) : HG B Γ (ref05_Right.call (txL t).toArray n Q) := fun w hw => by
  refine ref05_Right_ok _ _ _ _ ?_
  obtain ⟨n1, n2, n3⟩ := tx_lens (hr w hw)
  refine Sep.hg hw ?_
  clear hw w
  unfold ref05_Right
  refine s_new fun t2 => ?_
  have fin : HG B (blk t2 (.cells (txL t).toArray ty_api_Txn (0, 0)) :: Γ) (Q (rightT n t)) := s_end h
  generalize hR : rightT n t = R at fin
  unfold rightT at hR
  have S1 : ∀ b, (b = true ↔ headBad n t) → HG B (blk t2 (.cells (txL t).toArray ty_api_Txn (0, 0)) :: Γ) (ref05_Right.s1 Q n ⟨t2, 0, none⟩ b) := fun b hb => by
    unfold ref05_Right.s1
    refine s_ite (fun hb1 => ?_) fun hb1 => ?_
    · rw [if_pos (hb.1 hb1)] at hR
      rw [hR]; exact fin
    rw [if_neg fun h => by rw [hb.2 h] at hb1; cases hb1] at hR
    refine s_dr ?_
    refine s_wsD [blk t2 (.cells (txL t).toArray ty_api_Txn (0, 0))] ?_
    repeat refine s_nx ?_
    refine s_new fun t9 => ?_
    refine s_conv (A' := SlC ty_string 1 ⟨some ⟨t9, 0, none⟩, 0, 0⟩ []) (blk_SlC (vs := []) rfl (by simp)) ?_
    repeat refine s_nx ?_
    refine s_append (s := ⟨some ⟨t9, 0, none⟩, 0, 0⟩) (us := t.reads.map strV) (fun w hw => (hr w hw.drops).1) (fun v hv => by obtain ⟨y, _, rfl⟩ := List.mem_map.1 hv; rfl) (by simp only; omega) fun a1 ha1 => ?_
    repeat refine s_nx ?_
    refine s_append (s := a1) (us := t.writes.map strV) (fun w hw => (hr w hw.drops).2.1) (fun v hv => by obtain ⟨y, _, rfl⟩ := List.mem_map.1 hv; rfl) (by simp only at ha1; omega) fun all hall => ?_
    rw [show [] ++ t.reads.map strV ++ t.writes.map strV = (t.reads ++ t.writes).map strV by simp]
    have hln : (t.reads ++ t.writes).length = t.reads.length + t.writes.length := List.length_append
    have halln : all.n = t.reads.length + t.writes.length := by simp only at ha1; omega
    have fin2 : HG B (SlS all (t.reads ++ t.writes) :: blk t2 (.cells (txL t).toArray ty_api_Txn (0, 0)) :: Γ) (Q R) := s_end fin
    refine s_loopC (α := Int) (fun x => ∃ i : Nat, x = (i : Int) ∧ i ≤ (t.reads ++ t.writes).length ∧ (∀ k ∈ (t.reads ++ t.writes).take i, 1 ≤ k.length ∧ k.length ≤ 16) ∧ ∀ k ∈ t.reads.take i, k ∉ t.writes) (fun x => (t.reads ++ t.writes).length - x.toNat) ⟨0, rfl, Nat.zero_le _, by simp, by simp⟩ fun k1 x hx hk1 => ?_
    obtain ⟨i, rfl, hi, hs1, hs2⟩ := hx
    unfold ref05_Right.b2
    refine s_ite (fun hc => ?_) fun hc => ?_
    · have hil : i < (t.reads ++ t.writes).length := by simp only [decide_eq_true_eq] at hc; omega
      have hge : (t.reads ++ t.writes)[i]? = some (t.reads ++ t.writes)[i] := List.getElem?_eq_getElem hil
      have hmem : (t.reads ++ t.writes)[i] ∈ t.reads ++ t.writes := List.getElem_mem hil
      have htk : (t.reads ++ t.writes).take (i + 1) = (t.reads ++ t.writes).take i ++ [(t.reads ++ t.writes)[i]] := List.take_succ_eq_append_getElem hil
      have hrt : t.reads.take (i + 1) = t.reads.take i ++ if i < t.reads.length then [(t.reads ++ t.writes)[i]] else [] := by
        by_cases hir : i < t.reads.length
        · rw [if_pos hir, List.take_succ_eq_append_getElem hir, List.getElem_append_left hir]
        · rw [if_neg hir, List.take_of_length_le (by omega), List.take_of_length_le (by omega), List.append_nil]
      generalize (t.reads ++ t.writes)[i] = x at hge hmem htk hrt
      have hsz : (bs x).size = x.length := rfl
      have S3 : ∀ b, (b = true ↔ (x.length < 1 ∨ 16 < x.length) ∨ (i < t.reads.length ∧ x ∈ t.writes)) → HG B (SlS all (t.reads ++ t.writes) :: blk t2 (.cells (txL t).toArray ty_api_Txn (0, 0)) :: Γ) (ref05_Right.s3 Q k1 n ⟨t2, 0, none⟩ all (i : Int) b) := fun b hb => by
        unfold ref05_Right.s3
        refine s_ite (fun hb1 => ?_) fun hb1 => ?_
        · have : keysBad t := by
            rcases hb.1 hb1 with h | ⟨h, h'⟩
            · exact .inl ⟨x, hmem, h⟩
            · refine .inr ⟨x, ?_, h'⟩
              rw [List.getElem?_append_left h] at hge
              exact List.mem_of_getElem? hge
          rw [if_pos this] at hR
          rw [hR]; exact fin2
        · have hnb : ¬ ((x.length < 1 ∨ 16 < x.length) ∨ (i < t.reads.length ∧ x ∈ t.writes)) := fun h => by rw [hb.2 h] at hb1; cases hb1
          refine s_ai ?_
          refine hk1 _ ⟨i + 1, by simp, hil, fun y hy => ?_, fun y hy => ?_⟩ (by omega)
          · rw [htk] at hy
            rcases List.mem_append.1 hy with hy | hy
            · exact hs1 y hy
            · rw [List.mem_singleton.1 hy]; omega
          · rw [hrt] at hy
            rcases List.mem_append.1 hy with hy | hy
            · exact hs2 y hy
            · split at hy
              · rename_i hir
                rw [List.mem_singleton.1 hy]
                exact fun hxw => hnb (.inr ⟨hir, hxw⟩)
              · cases hy
      refine s_dr ?_
      refine s_idxS (L := t.reads ++ t.writes) (fun w hw => (own_rd (s := all) hw).1) hge ?_
      refine s_ite (fun hd => ?_) fun hd => ?_
      · exact S3 _ (by have : x.length < 1 := by simp only [decide_eq_true_eq] at hd; omega
                       simp [this])
      refine s_idxS (L := t.reads ++ t.writes) (fun w hw => (own_rd (s := all) hw).1) hge ?_
      have hd' : ¬ x.length < 1 := by simp only [decide_eq_false_iff_not] at hd; omega
      refine s_ite (fun he => ?_) fun he => ?_
      · exact S3 _ (by have : 16 < x.length := by simp only [decide_eq_true_eq] at he; omega
                       simp [this])
      have he' : ¬ 16 < x.length := by simp only [decide_eq_false_iff_not] at he; omega
      repeat refine s_nx ?_
      refine s_ite (fun hf => ?_) fun hf => ?_
      · have hir : i < t.reads.length := by simp only [decide_eq_true_eq] at hf; omega
        refine s_idxFA (fun x : TX => [strV x]) (L := t.reads ++ t.writes) (esz := 1) (fun _ => rfl) (by omega) (fun w hw => by rw [flatMap_1]; exact (own_rd (s := all) hw).1) hge (fun t86 ht86 => ?_) rfl
        repeat refine s_nx ?_
        refine s_ldA0 (cs := [strV x]) (x := bs x) (fun w hw => ht86 w (by rw [flatMap_1]; exact (own_rd (s := all) hw).1)) rfl ?_
        refine in05_hg (L := t.writes) (key := x) (by omega) (fun w hw => (hr w hw.drops).2.1) ?_
        exact S3 _ (by rw [decide_eq_true_eq]; constructor
                       · exact fun h => .inr ⟨hir, h⟩
                       · rintro ((h | h) | h)
                         · exact absurd h hd'
                         · exact absurd h he'
                         · exact h.2)
      · have hir : ¬ i < t.reads.length := by simp only [decide_eq_false_iff_not] at hf; omega
        exact S3 _ (by constructor
                       · exact fun h => by cases h
                       · rintro ((h | h) | h)
                         · exact absurd h hd'
                         · exact absurd h he'
                         · exact absurd h.1 hir)
    have hil : i = (t.reads ++ t.writes).length := by simp only [decide_eq_false_iff_not] at hc; omega
    rw [hil, List.take_length] at hs1
    rw [List.take_of_length_le (by omega)] at hs2
    rw [if_neg (by
      rintro (⟨k, hk, h⟩ | ⟨k, hk, h⟩)
      · have := hs1 k hk; omega
      · exact hs2 k hk h)] at hR
    have S4 : ∀ b, b = R → HG B (SlS all (t.reads ++ t.writes) :: blk t2 (.cells (txL t).toArray ty_api_Txn (0, 0)) :: Γ) (ref05_Right.s4 Q k1 b) := fun b hb => by
      unfold ref05_Right.s4
      rw [hb]; exact fin2
    repeat refine s_nx ?_
    refine s_ite (fun hd => ?_) fun hd => ?_
    · have hk2 : t.kind = 2 := by simpa using hd
      rw [if_pos hk2] at hR
      repeat refine s_nx ?_
      refine s_ite (fun he => ?_) fun he => ?_
      rotate_left
      · refine S4 _ ?_
        rw [← hR, show decide (t.reads.length = 0) = false from decide_eq_false (by simp only [decide_eq_false_iff_not] at he; omega)]; rfl
      rw [show decide (t.reads.length = 0) = true from decide_eq_true (by simp only [decide_eq_true_eq] at he; omega), Bool.true_and] at hR
      repeat refine s_nx ?_
      refine s_ite (fun he2 => ?_) fun he2 => ?_
      rotate_left
      · refine S4 _ ?_
        rw [← hR, show decide (t.ops.length = 0) = false from decide_eq_false (by simp only [decide_eq_false_iff_not] at he2; omega)]; rfl
      rw [show decide (t.ops.length = 0) = true from decide_eq_true (by simp only [decide_eq_true_eq] at he2; omega), Bool.true_and] at hR
      repeat refine s_nx ?_
      refine s_ite (fun he3 => ?_) fun he3 => ?_
      rotate_left
      · refine S4 _ ?_
        rw [← hR, show decide (t.writes.length = 1) = false from decide_eq_false (by simp only [decide_eq_false_iff_not] at he3; omega)]; rfl
      rw [show decide (t.writes.length = 1) = true from decide_eq_true (by simp only [decide_eq_true_eq] at he3; omega), Bool.true_and] at hR
      repeat refine s_nx ?_
      refine s_ite (fun he4 => ?_) fun he4 => ?_
      rotate_left
      · refine S4 _ ?_
        rw [← hR, he4]; rfl
      rw [he4, Bool.true_and] at hR
      repeat refine s_nx ?_
      exact S4 _ hR
    have hk2 : ¬ t.kind = 2 := by simpa using hd
    rw [if_neg hk2] at hR
    have S5 : ∀ b, (b = true ↔ t.kind ≠ 1 ∨ t.to ≠ 0 ∨ 16 < t.ops.length) → HG B (SlS all (t.reads ++ t.writes) :: blk t2 (.cells (txL t).toArray ty_api_Txn (0, 0)) :: Γ) (ref05_Right.s5 Q k1 ⟨t2, 0, none⟩ b) := fun b hb => by
      unfold ref05_Right.s5
      refine s_ite (fun hb1 => ?_) fun hb1 => ?_
      · rw [if_pos (hb.1 hb1)] at hR
        rw [hR]; exact fin2
      rw [if_neg fun h => by rw [hb.2 h] at hb1; cases hb1] at hR
      refine s_loopC (α := Int) (fun x => ∃ i : Nat, x = (i : Int) ∧ i ≤ t.ops.length ∧ ((t.ops.take i).all fun x => opRight t x.1) = true) (fun x => t.ops.length - x.toNat) ⟨0, rfl, Nat.zero_le _, by simp⟩ fun k6 x hx hk6 => ?_
      obtain ⟨m, rfl, hm, hs3⟩ := hx
      unfold ref05_Right.b6
      repeat refine s_nx ?_
      refine s_ite (fun hc6 => ?_) fun hc6 => ?_
      · have hml : m < t.ops.length := by simp only [decide_eq_true_eq] at hc6; omega
        have hge : t.ops[m]? = some t.ops[m] := List.getElem?_eq_getElem hml
        have hmem : t.ops[m] ∈ t.ops := List.getElem_mem hml
        have htk : t.ops.take (m + 1) = t.ops.take m ++ [t.ops[m]] := List.take_succ_eq_append_getElem hml
        generalize t.ops[m] = x at hge hmem htk
        repeat refine s_nx ?_
        refine s_idxN opF opF_len (fun w hw => (hr w hw.drops).2.2.1) hge ?_
        refine op05_hg (t := t) (x := x) (fun w hw => hr w hw.drops) ⟨by omega, by omega⟩ (fun w hw => (hr w hw.drops).2.2.2 x hmem) ?_
        by_cases ho : opRight t x.1 = true
        · rw [ho]
          refine s_f ?_
          refine s_ai ?_
          refine hk6 _ ⟨m + 1, by simp, hml, ?_⟩ (by omega)
          rw [htk, List.all_append, hs3]; simpa using ho
        · have ho' : opRight t x.1 = false := by simpa using ho
          rw [ho']
          refine s_t ?_
          rw [show false = R by rw [← hR]; symm; rw [List.all_eq_false]; exact ⟨x, hmem, by simpa using ho'⟩]
          exact fin2
      · have hml : m = t.ops.length := by simp only [decide_eq_false_iff_not] at hc6; omega
        rw [hml, List.take_length] at hs3
        rw [show true = R by rw [← hR, hs3]]
        exact fin2
    repeat refine s_nx ?_
    refine s_ite (fun he => ?_) fun he => ?_
    · exact S5 _ (by have : t.kind ≠ 1 := by simpa using he
                     simp [this])
    have hk1' : t.kind = 1 := by simpa using he
    repeat refine s_nx ?_
    refine s_ite (fun hf => ?_) fun hf => ?_
    · exact S5 _ (by have : t.to ≠ 0 := by simpa using hf
                     simp [this])
    have hto : t.to = 0 := by simpa using hf
    repeat refine s_nx ?_
    refine S5 _ ?_
    simp [hk1', hto]
    omega
  refine s_ite (fun hb => S1 _ (by have : n < 1 := by simpa using hb
                                   simp [headBad, this])) fun hb => ?_
  have hn1 : ¬ n < 1 := by simpa using hb
  refine s_ite (fun hb => S1 _ (by have : 3 < n := by simpa using hb
                                   simp [headBad, this])) fun hb => ?_
  have hn3 : ¬ 3 < n := by simpa using hb
  repeat refine s_nx ?_
  refine rising05_hg (L := t.reads) (by omega) (fun w hw => (hr w hw.drops).1) ?_
  by_cases hr1 : Rises t.reads
  rotate_left
  · rw [decide_eq_false hr1]
    exact s_t (S1 _ (by simp [headBad, hr1]))
  rw [decide_eq_true hr1]
  refine s_f ?_
  repeat refine s_nx ?_
  refine rising05_hg (L := t.writes) (by omega) (fun w hw => (hr w hw.drops).2.1) ?_
  by_cases hr2 : Rises t.writes
  rotate_left
  · rw [decide_eq_false hr2]
    exact s_t (S1 _ (by simp [headBad, hr2]))
  rw [decide_eq_true hr2]
  refine s_f ?_
  repeat refine s_nx ?_
  refine s_ite (fun hb => S1 _ (by have : 8 < t.reads.length := by simp only [decide_eq_true_eq] at hb; omega
                                   simp [headBad, this])) fun hb => ?_
  have h8 : ¬ 8 < t.reads.length := by simp only [decide_eq_false_iff_not] at hb; omega
  repeat refine s_nx ?_
  refine s_ite (fun hb => S1 _ (by have : 8 < t.writes.length := by simp only [decide_eq_true_eq] at hb; omega
                                   simp [headBad, this])) fun hb => ?_
  have h9 : ¬ 8 < t.writes.length := by simp only [decide_eq_false_iff_not] at hb; omega
  repeat refine s_nx ?_
  refine s_ar (e' := (t.reads.length + t.writes.length : Int)) (by rw [wrap64 (by omega) (by omega)]; omega) ?_
  refine S1 _ ?_
  simp only [headBad, hn1, hn3, hr1, hr2, h8, h9, not_true, false_or, decide_eq_true_eq]
  omega
end
end Go.Proofs.YtfjjocopmknhgaaGreat
/- Plain forms of functions, and that their code comes to them (package ref10). -/
namespace Go.Proofs.YtfjjocopmknhgaaGreat
open Go Go.Sep
set_option linter.unusedVariables false
set_option linter.unusedSimpArgs false
set_option maxRecDepth 100000
set_option maxHeartbeats 4000000
attribute [local irreducible] G Gp Cx Tx Ex Sx Dx Ox Ax Lx Rx Fx Bx Bj Al Do Ld LdN St StN New CallF Ar DoU Rd Rd2 Pu Cd Ite Fv CallV CallY Ans0 Ans1 Ans2 Ans3 Ans4 Ans5 Ext Dead Dr WithS Sv LdS LdNS RdS Rd2S Nn Idx IdxA IdxS Fld Bld Slc SlcS Cat All LoopK RangeF RangeJ TakeD
namespace F_IRRef10
instance ct_3 : CT Tryz.prog 3 := ⟨by kernel_rfl⟩
instance ct_35 : CT Tryz.prog 35 := ⟨by kernel_rfl⟩
instance ft_105_1 : FT Tryz.prog 105 1 1 1 := ⟨by kernel_rfl⟩
instance ft_105_2 : FT Tryz.prog 105 2 2 1 := ⟨by kernel_rfl⟩
instance ft_47_2 : FT Tryz.prog 47 2 2 1 := ⟨by kernel_rfl⟩
instance ft_47_3 : FT Tryz.prog 47 3 3 1 := ⟨by kernel_rfl⟩
instance mx : MX Tryz.prog := ⟨mixed⟩
end F_IRRef10
def ref10_Look.s1 (Q : Int → K)  (t21_1 : Bool) : K :=
  Ite t21_1
    (Q 2)
    (Q 0)
def ref10_Look (r0 : (Array Value)) (m1 : (Array Value)) (Q : Int → K) : K :=
  New 47 r0 fun r2 =>
  New 105 m1 fun m3 =>
  Ld (m3.add 2) (Value.int .u64) fun t6 =>
  Ld (r2.add 3) (Value.int .u64) fun t8 =>
  Ite (decide (t8 < t6))
    (Q 1)
    (Ld (m3.add 2) (Value.int .u64) fun t11 =>
    Ld (r2.add 3) (Value.int .u64) fun t13 =>
    Ite (decide (t11 < t13))
      (ref10_Look.s1 Q true)
      (Ld (m3.add 1) (Value.int .i64) fun t17 =>
      Ld (r2.add 2) (Value.int .i64) fun t19 =>
      ref10_Look.s1 Q (decide (t17 ≠ t19))))
theorem ref10_Look_ok (r0 : (Array Value)) (m1 : (Array Value)) (Q : Int → K) (w : World) (h : ref10_Look r0 m1 Q w) : ref10_Look.call r0 m1 Q w := by
  have hJ4 : JH 4 fun D => D [] (fun C => ∀ (t21_1 : Bool), C [(21, (.bool t21_1))] (ref10_Look.s1 Q t21_1)) := by intros; exact ⟨fun _ h => ⟨_, _, h⟩⟩
  exact g_walk 22 h Tryz.func111
end Go.Proofs.YtfjjocopmknhgaaGreat
/- Plain forms of functions, and that their code comes to them (package ref16). -/
namespace Go.Proofs.YtfjjocopmknhgaaGreat
open Go Go.Sep
set_option linter.unusedVariables false
set_option linter.unusedSimpArgs false
set_option maxRecDepth 100000
set_option maxHeartbeats 4000000
attribute [local irreducible] G Gp Cx Tx Ex Sx Dx Ox Ax Lx Rx Fx Bx Bj Al Do Ld LdN St StN New CallF Ar DoU Rd Rd2 Pu Cd Ite Fv CallV CallY Ans0 Ans1 Ans2 Ans3 Ans4 Ans5 Ext Dead Dr WithS Sv LdS LdNS RdS Rd2S Nn Idx IdxA IdxS Fld Bld Slc SlcS Cat All LoopK RangeF RangeJ TakeD
namespace F_IRRef16
instance at_105 : AT Tryz.prog 105 3 := ⟨by kernel_rfl⟩
instance at_200 : AT Tryz.prog 200 7 := ⟨by kernel_rfl⟩
instance at_39 : AT Tryz.prog 39 4 := ⟨by kernel_rfl⟩
instance at_47 : AT Tryz.prog 47 4 := ⟨by kernel_rfl⟩
instance cb_109 : CB Tryz.prog 109 := ⟨by kernel_rfl⟩
instance cb_111 : CB Tryz.prog 111 := ⟨by kernel_rfl⟩
instance cb_112 : CB Tryz.prog 112 := ⟨by kernel_rfl⟩
instance cb_113 : CB Tryz.prog 113 := ⟨by kernel_rfl⟩
instance cb_42 : CB Tryz.prog 42 := ⟨by kernel_rfl⟩
instance cb_66 : CB Tryz.prog 66 := ⟨by kernel_rfl⟩
instance ct_87 : CT Tryz.prog 87 := ⟨by kernel_rfl⟩
instance ct_88 : CT Tryz.prog 88 := ⟨by kernel_rfl⟩
instance ct_9 : CT Tryz.prog 9 := ⟨by kernel_rfl⟩
instance ft_105_0 : FT Tryz.prog 105 0 0 1 := ⟨by kernel_rfl⟩
instance ft_200_0 : FT Tryz.prog 200 0 0 4 := ⟨by kernel_rfl⟩
instance ft_200_1 : FT Tryz.prog 200 1 4 3 := ⟨by kernel_rfl⟩
instance ft_90_0 : FT Tryz.prog 90 0 0 1 := ⟨by kernel_rfl⟩
instance ft_90_1 : FT Tryz.prog 90 1 1 1 := ⟨by kernel_rfl⟩
instance ft_90_2 : FT Tryz.prog 90 2 2 1 := ⟨by kernel_rfl⟩
instance mx : MX Tryz.prog := ⟨mixed⟩
instance pl_200 : PLT Tryz.prog 200 [(0, 4), (4, 3)] := ⟨_, Tryz.underlying200, by kernel_rfl⟩
instance sl_40 : SLT Tryz.prog 40 105 3 := ⟨by kernel_rfl⟩
instance sl_87 : SLT Tryz.prog 87 200 7 := ⟨by kernel_rfl⟩
instance sl_88 : SLT Tryz.prog 88 39 4 := ⟨by kernel_rfl⟩
instance sz_105 : SZ Tryz.prog 105 3 := ⟨by kernel_rfl⟩
instance sz_200 : SZ Tryz.prog 200 7 := ⟨by kernel_rfl⟩
instance sz_47 : SZ Tryz.prog 47 4 := ⟨by kernel_rfl⟩
instance sz_87 : SZ Tryz.prog 87 1 := ⟨by kernel_rfl⟩
instance sz_88 : SZ Tryz.prog 88 1 := ⟨by kernel_rfl⟩
instance zt_105 : ZT Tryz.prog 105 (.agg #[(.string ⟨#[]⟩), (.int .i64 0), (.int .u64 0)]) := ⟨Tryz.t105, by kernel_rfl, by kernel_rfl⟩
instance zt_200 : ZT Tryz.prog 200 (.agg #[(.int .i64 0), (.int .u64 0), (.int .u64 0), (.int .i64 0), (.string ⟨#[]⟩), (.int .i64 0), (.int .u64 0)]) := ⟨Tryz.t200, by kernel_rfl, by kernel_rfl⟩
instance zt_39 : ZT Tryz.prog 39 (.agg #[(.int .i64 0), (.int .u64 0), (.int .u64 0), (.int .i64 0)]) := ⟨Tryz.t39, by kernel_rfl, by kernel_rfl⟩
instance zt_47 : ZT Tryz.prog 47 (.agg #[(.bool false), (Sl.val ⟨none, 0, 0⟩), (.int .i64 0), (.int .u64 0)]) := ⟨Tryz.t47, by kernel_rfl, by kernel_rfl⟩
end F_IRRef16
def ref16_Same.b1 (Q : Bool → K)  (X1 : Int → K) (a0_1 : Sl) (b1_1 : Sl) (i5_1 : Int) : K :=
  Ite (decide (i5_1 < (a0_1.n : Int)))
    (Dr <|
    Idx a0_1 i5_1 4 fun t19 =>
    LdN t19 4 fun t20 =>
    Idx b1_1 i5_1 4 fun t23 =>
    LdN t23 4 fun t24 =>
    Pu Tryz.prog (do eqGuard .neq 39 (.tmp 20) (.tmp 24) (.agg t20) (.agg t24); binOp .neq 39 (.agg t20) (.agg t24) : Sem Value) Value.bool fun t25 =>
    Ite t25
      (Q false)
      (Ar (IntKind.wrap .i64 (i5_1 + 1)) fun t16 =>
      X1 t16))
    (Q true)
def ref16_Same (a0 : Sl) (b1 : Sl) (Q : Bool → K) : K :=
  Ite (decide ((a0.n : Int) ≠ (b1.n : Int)))
    (Q false)
    (LoopK (α := Int) (fun X x => ref16_Same.b1 Q X a0 b1 x) 0)
theorem ref16_Same_ok (a0 : Sl) (b1 : Sl) (Q : Bool → K) (w : World) (h : ref16_Same a0 b1 Q w) : ref16_Same.call a0 b1 Q w := by
  have hL4 : ∀ (a0_1 : Sl) (b1_1 : Sl), LH 4 (fun x : Int => [(0, (Sl.val a0_1)), (1, (Sl.val b1_1)), (5, (.int .i64 x))]) (fun X x => ref16_Same.b1 Q X a0_1 b1_1 x) := by intros; exact ⟨⟩
  exact g_walk 26 h Tryz.func41
def ref16_In.b1 (Q : Bool → K)  (X1 : Int → K) (list0_1 : Sl) (tag3_1 : Addr) (i5_1 : Int) : K :=
  Ite (decide (i5_1 < (list0_1.n : Int)))
    (Dr <|
    Idx list0_1 i5_1 4 fun t14 =>
    LdN t14 4 fun t15 =>
    LdN tag3_1 4 fun t16 =>
    Pu Tryz.prog (do eqGuard .eql 39 (.tmp 15) (.tmp 16) (.agg t15) (.agg t16); binOp .eql 39 (.agg t15) (.agg t16) : Sem Value) Value.bool fun t17 =>
    Ite t17
      (Q true)
      (Ar (IntKind.wrap .i64 (i5_1 + 1)) fun t11 =>
      X1 t11))
    (Q false)
def ref16_In (list0 : Sl) (tag1 : (Array Value)) (Q : Bool → K) : K :=
  New 39 tag1 fun tag3 =>
  LoopK (α := Int) (fun X x => ref16_In.b1 Q X list0 tag3 x) 0
theorem ref16_In_ok (list0 : Sl) (tag1 : (Array Value)) (Q : Bool → K) (w : World) (h : ref16_In list0 tag1 Q w) : ref16_In.call list0 tag1 Q w := by
  have hL2 : ∀ (list0_1 : Sl) (tag3_1 : Addr), LH 2 (fun x : Int => [(0, (Sl.val list0_1)), (3, (.pointer (some tag3_1))), (5, (.int .i64 x))]) (fun X x => ref16_In.b1 Q X list0_1 tag3_1 x) := by intros; exact ⟨⟩
  exact g_walk 18 h Tryz.func42
def ref16_Locks_Leave.s2 (Q : K) (X1 : Sl → Int → K) (l0_2 : Addr) (tag3_2 : Addr) (left4_2 : Sl) (i5_2 : Int) : K :=
  Ar (IntKind.wrap .i64 (i5_2 + 1)) fun t33 =>
  X1 left4_2 t33
def ref16_Locks_Leave.b1 (Q : K)  (X1 : Sl → Int → K) (l0_1 : Addr) (tag3_1 : Addr) (left4_1 : Sl) (i5_1 : Int) : K :=
  Ld (l0_1.add 2) Sl.val fun t29 =>
  Ite (decide (i5_1 < (t29.n : Int)))
    (Dr <|
    Ld (l0_1.add 2) Sl.val fun t37 =>
    Idx t37 i5_1 4 fun t39 =>
    LdN t39 4 fun t40 =>
    LdN tag3_1 4 fun t41 =>
    Pu Tryz.prog (do eqGuard .neq 39 (.tmp 40) (.tmp 41) (.agg t40) (.agg t41); binOp .neq 39 (.agg t40) (.agg t41) : Sem Value) Value.bool fun t42 =>
    Ite t42
      (Ld (l0_1.add 2) Sl.val fun t47 =>
      Idx t47 i5_1 4 fun t49 =>
      LdN t49 4 fun t50 =>
      Bld #[(.int .i64 0), (.int .u64 0), (.int .u64 0), (.int .i64 0)] (fun i => some (i * 4, 4)) [(0, (.agg t50))] fun ct51 =>
      New 39 ct51 fun t51 =>
      Do Tryz.prog (Builtin.append_ #[88, 88] 88 #[(Sl.val left4_1), (Sl.val (Sl.mk (some t51) 1 1))]) Sl.val fun t52 =>
      ref16_Locks_Leave.s2 Q X1 l0_1 tag3_1 t52 i5_1)
      (ref16_Locks_Leave.s2 Q X1 l0_1 tag3_1 left4_1 i5_1))
    (St (l0_1.add 2) (Sl.val left4_1) <|
    Q)
def ref16_Locks_Leave (l0 : (Option Addr)) (tag1 : (Array Value)) (Q : K) : K :=
  New 39 tag1 fun tag3 =>
  Dr <|
  Nn l0 fun t8 =>
  Ld t8 Sl.val fun t10 =>
  LdN tag3 4 fun t11 =>
  ref16_without.call t10 t11 fun t12 =>
  St t8 (Sl.val t12) <|
  Dr <|
  Ld (t8.add 1) Sl.val fun t19 =>
  LdN tag3 4 fun t20 =>
  ref16_without.call t19 t20 fun t21 =>
  St (t8.add 1) (Sl.val t21) <|
  New 39 #[] fun t24 =>
  LoopK (α := Sl × Int) (fun X x => ref16_Locks_Leave.b1 Q (fun left4_1 i5_1 => X (left4_1, i5_1)) t8 tag3 x.1 x.2) ((Sl.mk (some t24) 0 0), 0)
theorem ref16_Locks_Leave_ok (l0 : (Option Addr)) (tag1 : (Array Value)) (Q : K) (w : World) (h : ref16_Locks_Leave l0 tag1 Q w) : ref16_Locks_Leave.call l0 tag1 Q w := by
  have hJ6 : ∀ (X1 : (Sl × Int) → K), XH 5 X1 → JH 6 fun D => ∃ (l0_2 : Addr) (tag3_2 : Addr) (i5_2 : Int), D [(0, (.pointer (some l0_2))), (3, (.pointer (some tag3_2))), (5, (.int .i64 i5_2))] (fun C => ∀ (left4_2 : Sl), C [(0, (.pointer (some l0_2))), (3, (.pointer (some tag3_2))), (4, (Sl.val left4_2)), (5, (.int .i64 i5_2))] (ref16_Locks_Leave.s2 Q (fun left4_1 i5_1 => X1 (left4_1, i5_1)) l0_2 tag3_2 left4_2 i5_2)) := by intros; exact ⟨fun _ ⟨_, _, _, h⟩ => ⟨_, _, h⟩⟩
  have hL5 : ∀ (l0_1 : Addr) (tag3_1 : Addr), LH 5 (fun x : Sl × Int => [(0, (.pointer (some l0_1))), (3, (.pointer (some tag3_1))), (4, (Sl.val x.1)), (5, (.int .i64 x.2))]) (fun X x => ref16_Locks_Leave.b1 Q (fun left4_1 i5_1 => X (left4_1, i5_1)) l0_1 tag3_1 x.1 x.2) := by intros; exact ⟨⟩
  have hD2 : DH 2 1 [6, 9] (.s [0, 1, 2, 3, 4, 5] (.a [(6, 0, .s [7, 8] (.a [(9, 0, .e)]))])) := by intros; exact ⟨⟩
  have hD1 : DH 1 1 [6, 9] (.s [0, 1, 2, 3, 4, 5] (.a [(6, 0, .s [7, 8] (.a [(9, 0, .e)]))])) := by intros; exact ⟨⟩
  exact g_walk 57 h Tryz.func73
def ref16_Locks_Moved.s2 (Q : K) (X1 : Int → K) (l0_2 : Addr) (key2_2 : ByteArray) (r6_2 : Addr) (i7_2 : Int) : K :=
  Ar (IntKind.wrap .i64 (i7_2 + 1)) fun t23 =>
  X1 t23
def ref16_Locks_Moved.s3 (Q : K) (X1 : Int → K) (l0_3 : Addr) (key2_3 : ByteArray) (r6_3 : Addr) (i7_3 : Int) (t47_3 : Bool) : K :=
  Ite t47_3
    (Ld l0_3 Sl.val fun t52 =>
    Idx t52 i7_3 7 fun t54 =>
    LdN t54 4 fun t56 =>
    ref16_Locks_doom.call (some l0_3) t56 <|
    ref16_Locks_Moved.s2 Q X1 l0_3 key2_3 r6_3 i7_3)
    (ref16_Locks_Moved.s2 Q X1 l0_3 key2_3 r6_3 i7_3)
def ref16_Locks_Moved.s5 (Q : K) (X1 : Int → K) (X4 : Sl → Int → K) (l0_5 : Addr) (key2_5 : ByteArray) (r6_5 : Addr) (left8_5 : Sl) (i9_5 : Int) : K :=
  Ar (IntKind.wrap .i64 (i9_5 + 1)) fun t67 =>
  X4 left8_5 t67
def ref16_Locks_Moved.s6 (Q : K) (X1 : Int → K) (X4 : Sl → Int → K) (l0_6 : Addr) (key2_6 : ByteArray) (r6_6 : Addr) (left8_6 : Sl) (i9_6 : Int) (c10_6 : Addr) (how11_6 : Int) (t87_6 : Bool) : K :=
  Ite t87_6
    (LdN c10_6 7 fun t89 =>
    Bld #[(.int .i64 0), (.int .u64 0), (.int .u64 0), (.int .i64 0), (.string ⟨#[]⟩), (.int .i64 0), (.int .u64 0)] (fun i => some (i * 7, 7)) [(0, (.agg t89))] fun ct90 =>
    New 200 ct90 fun t90 =>
    Do Tryz.prog (Builtin.append_ #[87, 87] 87 #[(Sl.val left8_6), (Sl.val (Sl.mk (some t90) 1 1))]) Sl.val fun t91 =>
    ref16_Locks_Moved.s5 Q X1 X4 l0_6 key2_6 r6_6 t91 i9_6)
    (Ite (decide (how11_6 = 0))
      (Dr <| WithS fun S =>
      LdS S l0_6 Sl.val fun t99 =>
      LdNS S c10_6 7 fun t101 =>
      All [
        (New 200 #[] fun t95 =>
        Sv S <|
        All [
          (Do Tryz.prog (Builtin.append_ #[87, 87] 87 #[(Sl.val (Sl.mk (some t95) 0 0)), (Sl.val t99)]) Sl.val fun t100 =>
          Sv S <|
          Bld #[(.int .i64 0), (.int .u64 0), (.int .u64 0), (.int .i64 0), (.string ⟨#[]⟩), (.int .i64 0), (.int .u64 0)] (fun i => some (i * 7, 7)) [(0, (.agg t101))] fun ct102 =>
          New 200 ct102 fun t102 =>
          Sv S <|
          Do Tryz.prog (Builtin.append_ #[87, 87] 87 #[(Sl.val t100), (Sl.val (Sl.mk (some t102) 1 1))]) Sl.val fun t103 =>
          St l0_6 (Sl.val t103) <|
          ref16_Locks_Moved.s5 Q X1 X4 l0_6 key2_6 r6_6 left8_6 i9_6),
          (Bld #[(.int .i64 0), (.int .u64 0), (.int .u64 0), (.int .i64 0), (.string ⟨#[]⟩), (.int .i64 0), (.int .u64 0)] (fun i => some (i * 7, 7)) [(0, (.agg t101))] fun ct102 =>
          New 200 ct102 fun t102 =>
          Sv S <|
          Do Tryz.prog (Builtin.append_ #[87, 87] 87 #[(Sl.val (Sl.mk (some t95) 0 0)), (Sl.val t99)]) Sl.val fun t100 =>
          Sv S <|
          Do Tryz.prog (Builtin.append_ #[87, 87] 87 #[(Sl.val t100), (Sl.val (Sl.mk (some t102) 1 1))]) Sl.val fun t103 =>
          St l0_6 (Sl.val t103) <|
          ref16_Locks_Moved.s5 Q X1 X4 l0_6 key2_6 r6_6 left8_6 i9_6)
          ]),
        (Bld #[(.int .i64 0), (.int .u64 0), (.int .u64 0), (.int .i64 0), (.string ⟨#[]⟩), (.int .i64 0), (.int .u64 0)] (fun i => some (i * 7, 7)) [(0, (.agg t101))] fun ct102 =>
        New 200 ct102 fun t102 =>
        Sv S <|
        New 200 #[] fun t95 =>
        Sv S <|
        Do Tryz.prog (Builtin.append_ #[87, 87] 87 #[(Sl.val (Sl.mk (some t95) 0 0)), (Sl.val t99)]) Sl.val fun t100 =>
        Sv S <|
        Do Tryz.prog (Builtin.append_ #[87, 87] 87 #[(Sl.val t100), (Sl.val (Sl.mk (some t102) 1 1))]) Sl.val fun t103 =>
        St l0_6 (Sl.val t103) <|
        ref16_Locks_Moved.s5 Q X1 X4 l0_6 key2_6 r6_6 left8_6 i9_6)
        ])
      (LdN c10_6 4 fun t108 =>
      ref16_Locks_doom.call (some l0_6) t108 <|
      ref16_Locks_Moved.s5 Q X1 X4 l0_6 key2_6 r6_6 left8_6 i9_6))
def ref16_Locks_Moved.b4 (Q : K) (X1 : Int → K) (X4 : Sl → Int → K) (l0_4 : Addr) (key2_4 : ByteArray) (r6_4 : Addr) (left8_4 : Sl) (i9_4 : Int) : K :=
  Ld (l0_4.add 1) Sl.val fun t63 =>
  Ite (decide (i9_4 < (t63.n : Int)))
    (Ld (l0_4.add 1) Sl.val fun t71 =>
    Idx t71 i9_4 7 fun t73 =>
    LdN t73 7 fun t74 =>
    New 200 #[(.int .i64 0), (.int .u64 0), (.int .u64 0), (.int .i64 0), (.string ⟨#[]⟩), (.int .i64 0), (.int .u64 0)] fun c10 =>
    StN c10 7 t74 <|
    LdN r6_4 4 fun t75 =>
    LdN (c10.add 4) 3 fun t77 =>
    ref10_Look.call t75 t77 fun t78 =>
    Ld (c10.add 4) Value.string fun t81 =>
    Ite (!(t81.toList == key2_4.toList))
      (ref16_Locks_Moved.s6 Q X1 X4 l0_4 key2_4 r6_4 left8_4 i9_4 c10 t78 true)
      (ref16_Locks_Moved.s6 Q X1 X4 l0_4 key2_4 r6_4 left8_4 i9_4 c10 t78 (decide (t78 = 1))))
    (St (l0_4.add 1) (Sl.val left8_4) <|
    Q)
def ref16_Locks_Moved.b1 (Q : K)  (X1 : Int → K) (l0_1 : (Option Addr)) (key2_1 : ByteArray) (r6_1 : Addr) (i7_1 : Int) : K :=
  Nn l0_1 fun t17 =>
  Ld t17 Sl.val fun t19 =>
  Ite (decide (i7_1 < (t19.n : Int)))
    (Dr <|
    Ld t17 Sl.val fun t27 =>
    Idx t27 i7_1 7 fun t29 =>
    Ld (t29.add 4) Value.string fun t32 =>
    Ite (t32.toList == key2_1.toList)
      (LdN r6_1 4 fun t36 =>
      Ld t17 Sl.val fun t40 =>
      Idx t40 i7_1 7 fun t42 =>
      LdN (t42.add 4) 3 fun t44 =>
      ref10_Look.call t36 t44 fun t45 =>
      ref16_Locks_Moved.s3 Q X1 t17 key2_1 r6_1 i7_1 (decide (t45 ≠ 0)))
      (ref16_Locks_Moved.s3 Q X1 t17 key2_1 r6_1 i7_1 false))
    (New 200 #[] fun t58 =>
    LoopK (α := Sl × Int) (fun X x => ref16_Locks_Moved.b4 Q X1 (fun left8_4 i9_4 => X (left8_4, i9_4)) t17 key2_1 r6_1 x.1 x.2) ((Sl.mk (some t58) 0 0), 0))
def ref16_Locks_Moved (l0 : (Option Addr)) (s1 : (Option Addr)) (key2 : ByteArray) (Q : K) : K :=
  ref06_Store_Get.call s1 key2 fun t14 =>
  New 47 #[(.bool false), (Sl.val ⟨none, 0, 0⟩), (.int .i64 0), (.int .u64 0)] fun r6 =>
  StN r6 4 t14 <|
  LoopK (α := Int) (fun X x => ref16_Locks_Moved.b1 Q X l0 key2 r6 x) 0
theorem ref16_Locks_Moved_ok (l0 : (Option Addr)) (s1 : (Option Addr)) (key2 : ByteArray) (Q : K) (w : World) (h : ref16_Locks_Moved l0 s1 key2 Q w) : ref16_Locks_Moved.call l0 s1 key2 Q w := by
  have hJ3 : ∀ (X1 : Int → K), XH 2 X1 → JH 3 fun D => ∃ (l0_2 : Addr) (key2_2 : ByteArray) (r6_2 : Addr) (i7_2 : Int), D [(0, (.pointer (some l0_2))), (2, (.string key2_2)), (6, (.pointer (some r6_2))), (7, (.int .i64 i7_2))] (fun C => C [(0, (.pointer (some l0_2))), (2, (.string key2_2)), (6, (.pointer (some r6_2))), (7, (.int .i64 i7_2))] (ref16_Locks_Moved.s2 Q X1 l0_2 key2_2 r6_2 i7_2)) := by intros; exact ⟨fun _ ⟨_, _, _, _, h⟩ => ⟨_, _, h⟩⟩
  have hJ5 : ∀ (X1 : Int → K), XH 2 X1 → JH 5 fun D => ∃ (l0_3 : Addr) (key2_3 : ByteArray) (r6_3 : Addr) (i7_3 : Int), D [(0, (.pointer (some l0_3))), (2, (.string key2_3)), (6, (.pointer (some r6_3))), (7, (.int .i64 i7_3))] (fun C => ∀ (t47_3 : Bool), C [(0, (.pointer (some l0_3))), (2, (.string key2_3)), (6, (.pointer (some r6_3))), (7, (.int .i64 i7_3)), (47, (.bool t47_3))] (ref16_Locks_Moved.s3 Q X1 l0_3 key2_3 r6_3 i7_3 t47_3)) := by intros; exact ⟨fun _ ⟨_, _, _, _, h⟩ => ⟨_, _, h⟩⟩
  have hD4 : DH 4 1 [21] (.s [0, 1, 2, 4, 9, 3, 5, 6, 7, 8, 10, 11] (.i (.s [13, 14, 15, 17, 12, 16, 18, 19, 20] (.a [(21, 0, .s [22, 23] .e)])) (.s [12, 13, 14, 15, 16, 17, 18, 19, 20, 21, 22, 23] .e))) := by intros; exact ⟨⟩
  have hJ9 : ∀ (X1 : Int → K), XH 2 X1 → ∀ (X4 : (Sl × Int) → K), XH 8 X4 → JH 9 fun D => ∃ (l0_5 : Addr) (key2_5 : ByteArray) (r6_5 : Addr) (i9_5 : Int), D [(0, (.pointer (some l0_5))), (2, (.string key2_5)), (6, (.pointer (some r6_5))), (9, (.int .i64 i9_5))] (fun C => ∀ (left8_5 : Sl), C [(0, (.pointer (some l0_5))), (2, (.string key2_5)), (6, (.pointer (some r6_5))), (8, (Sl.val left8_5)), (9, (.int .i64 i9_5))] (ref16_Locks_Moved.s5 Q X1 (fun left8_4 i9_4 => X4 (left8_4, i9_4)) l0_5 key2_5 r6_5 left8_5 i9_5)) := by intros; exact ⟨fun _ ⟨_, _, _, _, h⟩ => ⟨_, _, h⟩⟩
  have hD15 : DH 15 2 [9, 12] (.s [0, 2, 3, 4, 5, 7] (.a [(1, 1, .a [(6, 1, .a [(8, 1, .a [(9, 0, .s [10, 11] (.a [(12, 0, .e)]))])]), (8, 1, .a [(6, 1, .a [(9, 0, .s [10, 11] (.a [(12, 0, .e)]))])])]), (8, 1, .a [(1, 1, .a [(6, 1, .a [(9, 0, .s [10, 11] (.a [(12, 0, .e)]))])])])])) := by intros; exact ⟨⟩
  have hJ13 : ∀ (X1 : Int → K), XH 2 X1 → ∀ (X4 : (Sl × Int) → K), XH 8 X4 → JH 13 fun D => ∃ (l0_6 : Addr) (key2_6 : ByteArray) (r6_6 : Addr) (left8_6 : Sl) (i9_6 : Int) (c10_6 : Addr) (how11_6 : Int), D [(0, (.pointer (some l0_6))), (2, (.string key2_6)), (6, (.pointer (some r6_6))), (8, (Sl.val left8_6)), (9, (.int .i64 i9_6)), (10, (.pointer (some c10_6))), (11, (.int .i64 how11_6))] (fun C => ∀ (t87_6 : Bool), C [(0, (.pointer (some l0_6))), (2, (.string key2_6)), (6, (.pointer (some r6_6))), (8, (Sl.val left8_6)), (9, (.int .i64 i9_6)), (10, (.pointer (some c10_6))), (11, (.int .i64 how11_6)), (87, (.bool t87_6))] (ref16_Locks_Moved.s6 Q X1 (fun left8_4 i9_4 => X4 (left8_4, i9_4)) l0_6 key2_6 r6_6 left8_6 i9_6 c10_6 how11_6 t87_6)) := by intros; exact ⟨fun _ ⟨_, _, _, _, _, _, _, h⟩ => ⟨_, _, h⟩⟩
  have hL8 : ∀ (X1 : Int → K), XH 2 X1 → ∀ (l0_4 : Addr) (key2_4 : ByteArray) (r6_4 : Addr), LH 8 (fun x : Sl × Int => [(0, (.pointer (some l0_4))), (2, (.string key2_4)), (6, (.pointer (some r6_4))), (8, (Sl.val x.1)), (9, (.int .i64 x.2))]) (fun X x => ref16_Locks_Moved.b4 Q X1 (fun left8_4 i9_4 => X (left8_4, i9_4)) l0_4 key2_4 r6_4 x.1 x.2) := by intros; exact ⟨⟩
  have hL2 : ∀ (l0_1 : (Option Addr)) (key2_1 : ByteArray) (r6_1 : Addr), LH 2 (fun x : Int => [(0, (.pointer l0_1)), (2, (.string key2_1)), (6, (.pointer (some r6_1))), (7, (.int .i64 x))]) (fun X x => ref16_Locks_Moved.b1 Q X l0_1 key2_1 r6_1 x) := by intros; exact ⟨⟩
  exact g_walk 114 h Tryz.func75
def ref16_Locks_Enter.s2 (Q : K) (X1 : Int → K) (l0_2 : (Option Addr)) (s1_2 : (Option Addr)) (marks3_2 : Sl) (tag6_2 : Addr) (i8_2 : Int) : K :=
  Ar (IntKind.wrap .i64 (i8_2 + 1)) fun t16 =>
  X1 t16
def ref16_Locks_Enter.s3 (Q : K) (X1 : Int → K) (l0_3 : (Option Addr)) (s1_3 : (Option Addr)) (marks3_3 : Sl) (tag6_3 : Addr) (i8_3 : Int) (m9_3 : Addr) (t38_3 : Bool) : K :=
  Ite t38_3
    (ref16_Locks_Enter.s2 Q X1 l0_3 s1_3 marks3_3 tag6_3 i8_3)
    (Dr <| WithS fun S =>
    LdS S m9_3 Value.string fun t41 =>
    LdNS S m9_3 3 fun t43 =>
    ref06_Store_Get.call s1_3 t41 fun t42 =>
    Sv S <|
    ref10_Look.call t42 t43 fun t44 =>
    Ite (decide (t44 = 0))
      (Dr <| WithS fun S =>
      Nn l0_3 fun t50 =>
      LdS S t50 Sl.val fun t52 =>
      LdNS S tag6_3 4 fun t54 =>
      LdNS S m9_3 3 fun t55 =>
      Bld #[(.int .i64 0), (.int .u64 0), (.int .u64 0), (.int .i64 0), (.string ⟨#[]⟩), (.int .i64 0), (.int .u64 0)] ([(0, 4), (4, 3)][·]?) [(0, (.agg t54)), (1, (.agg t55))] fun t56 =>
      All [
        (New 200 #[] fun t48 =>
        Sv S <|
        All [
          (Do Tryz.prog (Builtin.append_ #[87, 87] 87 #[(Sl.val (Sl.mk (some t48) 0 0)), (Sl.val t52)]) Sl.val fun t53 =>
          Sv S <|
          Bld #[(.int .i64 0), (.int .u64 0), (.int .u64 0), (.int .i64 0), (.string ⟨#[]⟩), (.int .i64 0), (.int .u64 0)] (fun i => some (i * 7, 7)) [(0, (.agg t56))] fun ct57 =>
          New 200 ct57 fun t57 =>
          Sv S <|
          Do Tryz.prog (Builtin.append_ #[87, 87] 87 #[(Sl.val t53), (Sl.val (Sl.mk (some t57) 1 1))]) Sl.val fun t58 =>
          St t50 (Sl.val t58) <|
          ref16_Locks_Enter.s2 Q X1 (some t50) s1_3 marks3_3 tag6_3 i8_3),
          (Bld #[(.int .i64 0), (.int .u64 0), (.int .u64 0), (.int .i64 0), (.string ⟨#[]⟩), (.int .i64 0), (.int .u64 0)] (fun i => some (i * 7, 7)) [(0, (.agg t56))] fun ct57 =>
          New 200 ct57 fun t57 =>
          Sv S <|
          Do Tryz.prog (Builtin.append_ #[87, 87] 87 #[(Sl.val (Sl.mk (some t48) 0 0)), (Sl.val t52)]) Sl.val fun t53 =>
          Sv S <|
          Do Tryz.prog (Builtin.append_ #[87, 87] 87 #[(Sl.val t53), (Sl.val (Sl.mk (some t57) 1 1))]) Sl.val fun t58 =>
          St t50 (Sl.val t58) <|
          ref16_Locks_Enter.s2 Q X1 (some t50) s1_3 marks3_3 tag6_3 i8_3)
          ]),
        (Bld #[(.int .i64 0), (.int .u64 0), (.int .u64 0), (.int .i64 0), (.string ⟨#[]⟩), (.int .i64 0), (.int .u64 0)] (fun i => some (i * 7, 7)) [(0, (.agg t56))] fun ct57 =>
        New 200 ct57 fun t57 =>
        Sv S <|
        New 200 #[] fun t48 =>
        Sv S <|
        Do Tryz.prog (Builtin.append_ #[87, 87] 87 #[(Sl.val (Sl.mk (some t48) 0 0)), (Sl.val t52)]) Sl.val fun t53 =>
        Sv S <|
        Do Tryz.prog (Builtin.append_ #[87, 87] 87 #[(Sl.val t53), (Sl.val (Sl.mk (some t57) 1 1))]) Sl.val fun t58 =>
        St t50 (Sl.val t58) <|
        ref16_Locks_Enter.s2 Q X1 (some t50) s1_3 marks3_3 tag6_3 i8_3)
        ])
      (Ite (decide (t44 = 1))
        (Dr <| WithS fun S =>
        Nn l0_3 fun t66 =>
        LdS S (t66.add 1) Sl.val fun t68 =>
        LdNS S tag6_3 4 fun t70 =>
        LdNS S m9_3 3 fun t71 =>
        Bld #[(.int .i64 0), (.int .u64 0), (.int .u64 0), (.int .i64 0), (.string ⟨#[]⟩), (.int .i64 0), (.int .u64 0)] ([(0, 4), (4, 3)][·]?) [(0, (.agg t70)), (1, (.agg t71))] fun t72 =>
        All [
          (New 200 #[] fun t64 =>
          Sv S <|
          All [
            (Do Tryz.prog (Builtin.append_ #[87, 87] 87 #[(Sl.val (Sl.mk (some t64) 0 0)), (Sl.val t68)]) Sl.val fun t69 =>
            Sv S <|
            Bld #[(.int .i64 0), (.int .u64 0), (.int .u64 0), (.int .i64 0), (.string ⟨#[]⟩), (.int .i64 0), (.int .u64 0)] (fun i => some (i * 7, 7)) [(0, (.agg t72))] fun ct73 =>
            New 200 ct73 fun t73 =>
            Sv S <|
            Do Tryz.prog (Builtin.append_ #[87, 87] 87 #[(Sl.val t69), (Sl.val (Sl.mk (some t73) 1 1))]) Sl.val fun t74 =>
            St (t66.add 1) (Sl.val t74) <|
            ref16_Locks_Enter.s2 Q X1 (some t66) s1_3 marks3_3 tag6_3 i8_3),
            (Bld #[(.int .i64 0), (.int .u64 0), (.int .u64 0), (.int .i64 0), (.string ⟨#[]⟩), (.int .i64 0), (.int .u64 0)] (fun i => some (i * 7, 7)) [(0, (.agg t72))] fun ct73 =>
            New 200 ct73 fun t73 =>
            Sv S <|
            Do Tryz.prog (Builtin.append_ #[87, 87] 87 #[(Sl.val (Sl.mk (some t64) 0 0)), (Sl.val t68)]) Sl.val fun t69 =>
            Sv S <|
            Do Tryz.prog (Builtin.append_ #[87, 87] 87 #[(Sl.val t69), (Sl.val (Sl.mk (some t73) 1 1))]) Sl.val fun t74 =>
            St (t66.add 1) (Sl.val t74) <|
            ref16_Locks_Enter.s2 Q X1 (some t66) s1_3 marks3_3 tag6_3 i8_3)
            ]),
          (Bld #[(.int .i64 0), (.int .u64 0), (.int .u64 0), (.int .i64 0), (.string ⟨#[]⟩), (.int .i64 0), (.int .u64 0)] (fun i => some (i * 7, 7)) [(0, (.agg t72))] fun ct73 =>
          New 200 ct73 fun t73 =>
          Sv S <|
          New 200 #[] fun t64 =>
          Sv S <|
          Do Tryz.prog (Builtin.append_ #[87, 87] 87 #[(Sl.val (Sl.mk (some t64) 0 0)), (Sl.val t68)]) Sl.val fun t69 =>
          Sv S <|
          Do Tryz.prog (Builtin.append_ #[87, 87] 87 #[(Sl.val t69), (Sl.val (Sl.mk (some t73) 1 1))]) Sl.val fun t74 =>
          St (t66.add 1) (Sl.val t74) <|
          ref16_Locks_Enter.s2 Q X1 (some t66) s1_3 marks3_3 tag6_3 i8_3)
          ])
        (LdN tag6_3 4 fun t78 =>
        ref16_Locks_doom.call l0_3 t78 <|
        ref16_Locks_Enter.s2 Q X1 l0_3 s1_3 marks3_3 tag6_3 i8_3)))
def ref16_Locks_Enter.b1 (Q : K)  (X1 : Int → K) (l0_1 : (Option Addr)) (s1_1 : (Option Addr)) (marks3_1 : Sl) (tag6_1 : Addr) (i8_1 : Int) : K :=
  Ite (decide (i8_1 < (marks3_1.n : Int)))
    (Idx marks3_1 i8_1 3 fun t19 =>
    LdN t19 3 fun t20 =>
    New 105 #[(.string ⟨#[]⟩), (.int .i64 0), (.int .u64 0)] fun m9 =>
    StN m9 3 t20 <|
    Dr <| WithS fun S =>
    Nn l0_1 fun t22 =>
    LdS S t22 Sl.val fun t24 =>
    LdS S m9 Value.string fun t26 =>
    LdNS S tag6_1 4 fun t27 =>
    ref16_has.call t24 t26 t27 fun t28 =>
    Sv S <|
    Ite t28
      (ref16_Locks_Enter.s3 Q X1 (some t22) s1_1 marks3_1 tag6_1 i8_1 m9 true)
      (LdS S (t22.add 1) Sl.val fun t33 =>
      LdS S m9 Value.string fun t35 =>
      LdNS S tag6_1 4 fun t36 =>
      ref16_has.call t33 t35 t36 fun t37 =>
      ref16_Locks_Enter.s3 Q X1 (some t22) s1_1 marks3_1 tag6_1 i8_1 m9 t37))
    (Q)
def ref16_Locks_Enter (l0 : (Option Addr)) (s1 : (Option Addr)) (tag2 : (Array Value)) (marks3 : Sl) (Q : K) : K :=
  New 39 tag2 fun tag6 =>
  LoopK (α := Int) (fun X x => ref16_Locks_Enter.b1 Q X l0 s1 marks3 tag6 x) 0
theorem ref16_Locks_Enter_ok (l0 : (Option Addr)) (s1 : (Option Addr)) (tag2 : (Array Value)) (marks3 : Sl) (Q : K) (w : World) (h : ref16_Locks_Enter l0 s1 tag2 marks3 Q w) : ref16_Locks_Enter.call l0 s1 tag2 marks3 Q w := by
  have hJ3 : ∀ (X1 : Int → K), XH 2 X1 → JH 3 fun D => ∃ (l0_2 : (Option Addr)) (s1_2 : (Option Addr)) (marks3_2 : Sl) (tag6_2 : Addr) (i8_2 : Int), D [(0, (.pointer l0_2)), (1, (.pointer s1_2)), (3, (Sl.val marks3_2)), (6, (.pointer (some tag6_2))), (8, (.int .i64 i8_2))] (fun C => C [(0, (.pointer l0_2)), (1, (.pointer s1_2)), (3, (Sl.val marks3_2)), (6, (.pointer (some tag6_2))), (8, (.int .i64 i8_2))] (ref16_Locks_Enter.s2 Q X1 l0_2 s1_2 marks3_2 tag6_2 i8_2)) := by intros; exact ⟨fun _ ⟨_, _, _, _, _, h⟩ => ⟨_, _, h⟩⟩
  have hD8 : DH 8 2 [11, 14] (.s [0, 2, 3, 4, 5, 7, 8, 9] (.a [(1, 1, .a [(6, 1, .a [(10, 1, .a [(11, 0, .s [12, 13] (.a [(14, 0, .e)]))])]), (10, 1, .a [(6, 1, .a [(11, 0, .s [12, 13] (.a [(14, 0, .e)]))])])]), (10, 1, .a [(1, 1, .a [(6, 1, .a [(11, 0, .s [12, 13] (.a [(14, 0, .e)]))])])])])) := by intros; exact ⟨⟩
  have hD10 : DH 10 2 [11, 14] (.s [0, 2, 3, 4, 5, 7, 8, 9] (.a [(1, 1, .a [(6, 1, .a [(10, 1, .a [(11, 0, .s [12, 13] (.a [(14, 0, .e)]))])]), (10, 1, .a [(6, 1, .a [(11, 0, .s [12, 13] (.a [(14, 0, .e)]))])])]), (10, 1, .a [(1, 1, .a [(6, 1, .a [(11, 0, .s [12, 13] (.a [(14, 0, .e)]))])])])])) := by intros; exact ⟨⟩
  have hD6 : DH 6 2 [5] (.s [0, 1, 2, 4] (.a [(3, 1, .a [(5, 0, .s [6] .e)])])) := by intros; exact ⟨⟩
  have hJ1000005 : ∀ (X1 : Int → K), XH 2 X1 → JH 1000005 fun D => ∃ (l0_3 : (Option Addr)) (s1_3 : (Option Addr)) (marks3_3 : Sl) (tag6_3 : Addr) (i8_3 : Int) (m9_3 : Addr), D [(0, (.pointer l0_3)), (1, (.pointer s1_3)), (3, (Sl.val marks3_3)), (6, (.pointer (some tag6_3))), (8, (.int .i64 i8_3)), (9, (.pointer (some m9_3)))] (fun C => ∀ (t38_3 : Bool), C [(0, (.pointer l0_3)), (1, (.pointer s1_3)), (3, (Sl.val marks3_3)), (6, (.pointer (some tag6_3))), (8, (.int .i64 i8_3)), (9, (.pointer (some m9_3))), (38, (.bool t38_3))] (ref16_Locks_Enter.s3 Q X1 l0_3 s1_3 marks3_3 tag6_3 i8_3 m9_3 t38_3)) := by intros; exact ⟨fun _ ⟨_, _, _, _, _, _, h⟩ => ⟨_, _, h⟩⟩
  have hD5 : DH 5 2 [16] (.s [0, 1, 2, 4, 3, 5, 6] (.a [(7, 1, .s [8] (.i (.s [9, 10, 11, 12, 13, 14, 15, 16, 17] .e) (.s [9, 10, 11, 13, 12, 14, 15] (.a [(16, 0, .s [17] .e)]))))])) := by intros; exact ⟨⟩
  have hL2 : ∀ (l0_1 : (Option Addr)) (s1_1 : (Option Addr)) (marks3_1 : Sl) (tag6_1 : Addr), LH 2 (fun x : Int => [(0, (.pointer l0_1)), (1, (.pointer s1_1)), (3, (Sl.val marks3_1)), (6, (.pointer (some tag6_1))), (8, (.int .i64 x))]) (fun X x => ref16_Locks_Enter.b1 Q X l0_1 s1_1 marks3_1 tag6_1 x) := by intros; exact ⟨⟩
  exact g_walk 80 h Tryz.func76
def ref16_without.s2 (Q : Sl → K) (X1 : Sl → Int → K) (list0_2 : Sl) (tag3_2 : Addr) (out5_2 : Sl) (i6_2 : Int) : K :=
  Ar (IntKind.wrap .i64 (i6_2 + 1)) fun t13 =>
  X1 out5_2 t13
def ref16_without.b1 (Q : Sl → K)  (X1 : Sl → Int → K) (list0_1 : Sl) (tag3_1 : Addr) (out5_1 : Sl) (i6_1 : Int) : K :=
  Ite (decide (i6_1 < (list0_1.n : Int)))
    (Dr <|
    Idx list0_1 i6_1 7 fun t16 =>
    LdN t16 4 fun t18 =>
    LdN tag3_1 4 fun t19 =>
    Pu Tryz.prog (do eqGuard .neq 39 (.tmp 18) (.tmp 19) (.agg t18) (.agg t19); binOp .neq 39 (.agg t18) (.agg t19) : Sem Value) Value.bool fun t20 =>
    Ite t20
      (Idx list0_1 i6_1 7 fun t24 =>
      LdN t24 7 fun t25 =>
      Bld #[(.int .i64 0), (.int .u64 0), (.int .u64 0), (.int .i64 0), (.string ⟨#[]⟩), (.int .i64 0), (.int .u64 0)] (fun i => some (i * 7, 7)) [(0, (.agg t25))] fun ct26 =>
      New 200 ct26 fun t26 =>
      Do Tryz.prog (Builtin.append_ #[87, 87] 87 #[(Sl.val out5_1), (Sl.val (Sl.mk (some t26) 1 1))]) Sl.val fun t27 =>
      ref16_without.s2 Q X1 list0_1 tag3_1 t27 i6_1)
      (ref16_without.s2 Q X1 list0_1 tag3_1 out5_1 i6_1))
    (Q out5_1)
def ref16_without (list0 : Sl) (tag1 : (Array Value)) (Q : Sl → K) : K :=
  New 39 tag1 fun tag3 =>
  New 200 #[] fun t7 =>
  LoopK (α := Sl × Int) (fun X x => ref16_without.b1 Q (fun out5_1 i6_1 => X (out5_1, i6_1)) list0 tag3 x.1 x.2) ((Sl.mk (some t7) 0 0), 0)
theorem ref16_without_ok (list0 : Sl) (tag1 : (Array Value)) (Q : Sl → K) (w : World) (h : ref16_without list0 tag1 Q w) : ref16_without.call list0 tag1 Q w := by
  have hJ4 : ∀ (X1 : (Sl × Int) → K), XH 3 X1 → JH 4 fun D => ∃ (list0_2 : Sl) (tag3_2 : Addr) (i6_2 : Int), D [(0, (Sl.val list0_2)), (3, (.pointer (some tag3_2))), (6, (.int .i64 i6_2))] (fun C => ∀ (out5_2 : Sl), C [(0, (Sl.val list0_2)), (3, (.pointer (some tag3_2))), (5, (Sl.val out5_2)), (6, (.int .i64 i6_2))] (ref16_without.s2 Q (fun out5_1 i6_1 => X1 (out5_1, i6_1)) list0_2 tag3_2 out5_2 i6_2)) := by intros; exact ⟨fun _ ⟨_, _, _, h⟩ => ⟨_, _, h⟩⟩
  have hL3 : ∀ (list0_1 : Sl) (tag3_1 : Addr), LH 3 (fun x : Sl × Int => [(0, (Sl.val list0_1)), (3, (.pointer (some tag3_1))), (5, (Sl.val x.1)), (6, (.int .i64 x.2))]) (fun X x => ref16_without.b1 Q (fun out5_1 i6_1 => X (out5_1, i6_1)) list0_1 tag3_1 x.1 x.2) := by intros; exact ⟨⟩
  exact g_walk 29 h Tryz.func109
def ref16_Locks_doom (l0 : (Option Addr)) (tag1 : (Array Value)) (Q : K) : K :=
  New 39 tag1 fun tag3 =>
  Dr <|
  Nn l0 fun t5 =>
  Ld (t5.add 2) Sl.val fun t7 =>
  LdN tag3 4 fun t8 =>
  ref16_In.call t7 t8 fun t9 =>
  Ite (!t9)
    (Dr <| WithS fun S =>
    LdS S (t5.add 2) Sl.val fun t16 =>
    LdNS S tag3 4 fun t18 =>
    All [
      (New 39 #[] fun t12 =>
      Sv S <|
      All [
        (Do Tryz.prog (Builtin.append_ #[88, 88] 88 #[(Sl.val (Sl.mk (some t12) 0 0)), (Sl.val t16)]) Sl.val fun t17 =>
        Sv S <|
        Bld #[(.int .i64 0), (.int .u64 0), (.int .u64 0), (.int .i64 0)] (fun i => some (i * 4, 4)) [(0, (.agg t18))] fun ct19 =>
        New 39 ct19 fun t19 =>
        Sv S <|
        Do Tryz.prog (Builtin.append_ #[88, 88] 88 #[(Sl.val t17), (Sl.val (Sl.mk (some t19) 1 1))]) Sl.val fun t20 =>
        St (t5.add 2) (Sl.val t20) <|
        Q),
        (Bld #[(.int .i64 0), (.int .u64 0), (.int .u64 0), (.int .i64 0)] (fun i => some (i * 4, 4)) [(0, (.agg t18))] fun ct19 =>
        New 39 ct19 fun t19 =>
        Sv S <|
        Do Tryz.prog (Builtin.append_ #[88, 88] 88 #[(Sl.val (Sl.mk (some t12) 0 0)), (Sl.val t16)]) Sl.val fun t17 =>
        Sv S <|
        Do Tryz.prog (Builtin.append_ #[88, 88] 88 #[(Sl.val t17), (Sl.val (Sl.mk (some t19) 1 1))]) Sl.val fun t20 =>
        St (t5.add 2) (Sl.val t20) <|
        Q)
        ]),
      (Bld #[(.int .i64 0), (.int .u64 0), (.int .u64 0), (.int .i64 0)] (fun i => some (i * 4, 4)) [(0, (.agg t18))] fun ct19 =>
      New 39 ct19 fun t19 =>
      Sv S <|
      New 39 #[] fun t12 =>
      Sv S <|
      Do Tryz.prog (Builtin.append_ #[88, 88] 88 #[(Sl.val (Sl.mk (some t12) 0 0)), (Sl.val t16)]) Sl.val fun t17 =>
      Sv S <|
      Do Tryz.prog (Builtin.append_ #[88, 88] 88 #[(Sl.val t17), (Sl.val (Sl.mk (some t19) 1 1))]) Sl.val fun t20 =>
      St (t5.add 2) (Sl.val t20) <|
      Q)
      ])
    (Q)
theorem ref16_Locks_doom_ok (l0 : (Option Addr)) (tag1 : (Array Value)) (Q : K) (w : World) (h : ref16_Locks_doom l0 tag1 Q w) : ref16_Locks_doom.call l0 tag1 Q w := by
  have hD2 : DH 2 2 [9, 12] (.s [0, 2, 3, 4, 5, 7] (.a [(1, 1, .a [(6, 1, .a [(8, 1, .a [(9, 0, .s [10, 11] (.a [(12, 0, .e)]))])]), (8, 1, .a [(6, 1, .a [(9, 0, .s [10, 11] (.a [(12, 0, .e)]))])])]), (8, 1, .a [(1, 1, .a [(6, 1, .a [(9, 0, .s [10, 11] (.a [(12, 0, .e)]))])])])])) := by intros; exact ⟨⟩
  have hD1 : DH 1 1 [5] (.s [0, 1, 2, 3, 4] (.a [(5, 0, .s [6] .e)])) := by intros; exact ⟨⟩
  exact g_walk 23 h Tryz.func112
def ref16_has.s2 (Q : Bool → K) (X1 : Int → K) (list0_2 : Sl) (key1_2 : ByteArray) (tag5_2 : Addr) (i7_2 : Int) (t30_2 : Bool) : K :=
  Ite t30_2
    (Q true)
    (Ar (IntKind.wrap .i64 (i7_2 + 1)) fun t13 =>
    X1 t13)
def ref16_has.b1 (Q : Bool → K)  (X1 : Int → K) (list0_1 : Sl) (key1_1 : ByteArray) (tag5_1 : Addr) (i7_1 : Int) : K :=
  Ite (decide (i7_1 < (list0_1.n : Int)))
    (Dr <|
    Idx list0_1 i7_1 7 fun t16 =>
    Ld (t16.add 4) Value.string fun t19 =>
    Ite (t19.toList == key1_1.toList)
      (Idx list0_1 i7_1 7 fun t25 =>
      LdN t25 4 fun t27 =>
      LdN tag5_1 4 fun t28 =>
      Pu Tryz.prog (do eqGuard .eql 39 (.tmp 27) (.tmp 28) (.agg t27) (.agg t28); binOp .eql 39 (.agg t27) (.agg t28) : Sem Value) Value.bool fun t29 =>
      ref16_has.s2 Q X1 list0_1 key1_1 tag5_1 i7_1 t29)
      (ref16_has.s2 Q X1 list0_1 key1_1 tag5_1 i7_1 false))
    (Q false)
def ref16_has (list0 : Sl) (key1 : ByteArray) (tag2 : (Array Value)) (Q : Bool → K) : K :=
  New 39 tag2 fun tag5 =>
  LoopK (α := Int) (fun X x => ref16_has.b1 Q X list0 key1 tag5 x) 0
theorem ref16_has_ok (list0 : Sl) (key1 : ByteArray) (tag2 : (Array Value)) (Q : Bool → K) (w : World) (h : ref16_has list0 key1 tag2 Q w) : ref16_has.call list0 key1 tag2 Q w := by
  have hJ5 : ∀ (X1 : Int → K), XH 2 X1 → JH 5 fun D => ∃ (list0_2 : Sl) (key1_2 : ByteArray) (tag5_2 : Addr) (i7_2 : Int), D [(0, (Sl.val list0_2)), (1, (.string key1_2)), (5, (.pointer (some tag5_2))), (7, (.int .i64 i7_2))] (fun C => ∀ (t30_2 : Bool), C [(0, (Sl.val list0_2)), (1, (.string key1_2)), (5, (.pointer (some tag5_2))), (7, (.int .i64 i7_2)), (30, (.bool t30_2))] (ref16_has.s2 Q X1 list0_2 key1_2 tag5_2 i7_2 t30_2)) := by intros; exact ⟨fun _ ⟨_, _, _, _, h⟩ => ⟨_, _, h⟩⟩
  have hL2 : ∀ (list0_1 : Sl) (key1_1 : ByteArray) (tag5_1 : Addr), LH 2 (fun x : Int => [(0, (Sl.val list0_1)), (1, (.string key1_1)), (5, (.pointer (some tag5_1))), (7, (.int .i64 x))]) (fun X x => ref16_has.b1 Q X list0_1 key1_1 tag5_1 x) := by intros; exact ⟨⟩
  exact g_walk 31 h Tryz.func113
end Go.Proofs.YtfjjocopmknhgaaGreat
