/- Texts of the claim EvalUndone, one behind the other. -/
import Derived.Test.YtfjjocopmknhgaaEvalUndoneM2
import Derived.MapKept
import GoSem.Instr.MapUpdate
import Derived.Shelf.SortM.Plain
import Derived.Shelf.SortM.SortNone
import Derived.Ground.SlgmProg
import Derived.Test.YtfjjocopmknhgaaProg
import Derived.Maps.RangeRun
import Derived.Deep.OwnRows
/- Plain forms of functions, and that their code comes to them (package lib_btree). -/
namespace Go.Proofs.Ytfjjocopmknhgaa
open Go Go.Sep
set_option linter.unusedVariables false
set_option linter.unusedSimpArgs false
set_option maxRecDepth 100000
set_option maxHeartbeats 4000000
attribute [local irreducible] G Gp Cx Tx Ex Sx Dx Ox Ax Lx Rx Fx Bx Bj Al Do Ld LdN St StN New CallF Ar DoU Rd Rd2 Pu Cd Ite Fv CallV CallY Ans0 Ans1 Ans2 Ans3 Ans4 Ans5 Ext Dead Dr WithS Sv LdS LdNS RdS Rd2S Nn Idx IdxA IdxS Fld Bld Slc SlcS Cat All LoopK RangeF RangeJ TakeD
namespace F_IRLibBtree
instance at_174 : AT Try.prog 174 5 := ⟨by kernel_rfl⟩
instance cb_136 : CB Try.prog 136 := ⟨by kernel_rfl⟩
instance cb_138 : CB Try.prog 138 := ⟨by kernel_rfl⟩
instance cb_144 : CB Try.prog 144 := ⟨by kernel_rfl⟩
instance cb_145 : CB Try.prog 145 := ⟨by kernel_rfl⟩
instance cb_147 : CB Try.prog 147 := ⟨by kernel_rfl⟩
instance cb_148 : CB Try.prog 148 := ⟨by kernel_rfl⟩
instance ct_164 : CT Try.prog 164 := ⟨by kernel_rfl⟩
instance ext_135 : EXT Try.prog 135 (Extern.SlicesOverlaps.overlaps #[165, 165] #[4]) := ext_of Try.func135 (by kernel_rfl) (by kernel_rfl) (by kernel_rfl) (by kernel_rfl)
instance ext_137 : EXT Try.prog 137 (Extern.SlicesOverlaps.overlaps #[166, 166] #[4]) := ext_of Try.func137 (by kernel_rfl) (by kernel_rfl) (by kernel_rfl) (by kernel_rfl)
instance in_119 : INT Try.prog 119 .u64 := ⟨by kernel_rfl⟩
instance in_3 : INT Try.prog 3 .i64 := ⟨by kernel_rfl⟩
instance mx : MX Try.prog := ⟨mixed⟩
instance sl_165 : SLT Try.prog 165 174 5 := ⟨by kernel_rfl⟩
instance sl_166 : SLT Try.prog 166 164 1 := ⟨by kernel_rfl⟩
instance sz_164 : SZ Try.prog 164 1 := ⟨by kernel_rfl⟩
instance sz_174 : SZ Try.prog 174 5 := ⟨by kernel_rfl⟩
instance un_165 : UN Try.prog 165 (.slice 174) := ⟨Try.underlying165⟩
instance un_166 : UN Try.prog 166 (.slice 164) := ⟨Try.underlying166⟩
instance zt_164 : ZT Try.prog 164 (.pointer none) := ⟨Try.t164, by kernel_rfl, by kernel_rfl⟩
instance zt_174 : ZT Try.prog 174 (.agg #[(.string ⟨#[]⟩), (.bool false), (Sl.val ⟨none, 0, 0⟩), (.int .i64 0), (.int .u64 0)]) := ⟨Try.t174, by kernel_rfl, by kernel_rfl⟩
end F_IRLibBtree
def slices_BinarySearchFunc_s_btree_item_string_api_Record_btree_item_string_api_Record_string.s2 (Q : Int → Bool → K) (X1 : Int → Int → K) (t6_2 : Int) (t7_2 : Bool) : K :=
  Q t6_2 t7_2
def slices_BinarySearchFunc_s_btree_item_string_api_Record_btree_item_string_api_Record_string.b1 (Q : Int → Bool → K)  (X1 : Int → Int → K) (x0_1 : Sl) (target1_1 : ByteArray) (cmp2_1 : Value) (n8_1 : Int) (i9_1 : Int) (j10_1 : Int) : K :=
  Ite (decide (i9_1 < j10_1))
    (Ar (IntKind.wrap .i64 (i9_1 + j10_1)) fun t20 =>
    Ar (IntKind.wrap .u64 t20) fun t21 =>
    Cd (0 ≤ (1 : Int)) <|
    Ar (shrOf .u64 t21 1) fun t22 =>
    Ar (IntKind.wrap .i64 t22) fun t23 =>
    Idx x0_1 t23 5 fun t27 =>
    LdN t27 5 fun t28 =>
    CallV Try.prog cmp2_1 [(.agg t28), (.string target1_1)] <| Ans1 (fun (t30 : Int) => (Value.int .i64) t30) fun t30 =>
    Ite (decide (t30 < 0))
      (Ar (IntKind.wrap .i64 (t23 + 1)) fun t33 =>
      X1 t33 j10_1)
      (X1 i9_1 t23))
    (Ite (decide (i9_1 < n8_1))
      (Idx x0_1 i9_1 5 fun t43 =>
      LdN t43 5 fun t44 =>
      CallV Try.prog cmp2_1 [(.agg t44), (.string target1_1)] <| Ans1 (fun (t46 : Int) => (Value.int .i64) t46) fun t46 =>
      slices_BinarySearchFunc_s_btree_item_string_api_Record_btree_item_string_api_Record_string.s2 Q X1 i9_1 (decide (t46 = 0)))
      (slices_BinarySearchFunc_s_btree_item_string_api_Record_btree_item_string_api_Record_string.s2 Q X1 i9_1 false))
def slices_BinarySearchFunc_s_btree_item_string_api_Record_btree_item_string_api_Record_string (x0 : Sl) (target1 : ByteArray) (cmp2 : Value) (Q : Int → Bool → K) : K :=
  LoopK (α := Int × Int) (fun X x => slices_BinarySearchFunc_s_btree_item_string_api_Record_btree_item_string_api_Record_string.b1 Q (fun i9_1 j10_1 => X (i9_1, j10_1)) x0 target1 cmp2 (x0.n : Int) x.1 x.2) (0, (x0.n : Int))
theorem slices_BinarySearchFunc_s_btree_item_string_api_Record_btree_item_string_api_Record_string_ok (x0 : Sl) (target1 : ByteArray) (cmp2 : Value) (Q : Int → Bool → K) (w : World) (h : slices_BinarySearchFunc_s_btree_item_string_api_Record_btree_item_string_api_Record_string x0 target1 cmp2 Q w) : slices_BinarySearchFunc_s_btree_item_string_api_Record_btree_item_string_api_Record_string.call x0 target1 cmp2 Q w := by
  have hJ1000008 : ∀ (X1 : (Int × Int) → K), XH 3 X1 → JH 1000008 fun D => D [] (fun C => ∀ (t6_2 : Int) (t7_2 : Bool), C [(6, (.int .i64 t6_2)), (7, (.bool t7_2))] (slices_BinarySearchFunc_s_btree_item_string_api_Record_btree_item_string_api_Record_string.s2 Q (fun i9_1 j10_1 => X1 (i9_1, j10_1)) t6_2 t7_2)) := by intros; exact ⟨fun _ h => ⟨_, _, h⟩⟩
  have hL3 : ∀ (x0_1 : Sl) (target1_1 : ByteArray) (cmp2_1 : Value) (n8_1 : Int), LH 3 (fun x : Int × Int => [(0, (Sl.val x0_1)), (1, (.string target1_1)), (2, cmp2_1), (8, (.int .i64 n8_1)), (9, (.int .i64 x.1)), (10, (.int .i64 x.2))]) (fun X x => slices_BinarySearchFunc_s_btree_item_string_api_Record_btree_item_string_api_Record_string.b1 Q (fun i9_1 j10_1 => X (i9_1, j10_1)) x0_1 target1_1 cmp2_1 n8_1 x.1 x.2) := by intros; exact ⟨⟩
  exact g_walk 49 h Try.func106
def slices_Delete_s_btree_item_string_api_Record_btree_item_string_api_Record (s0 : Sl) (i1 : Int) (j2 : Int) (Q : Sl → K) : K :=
  Slc s0 i1 j2 (s0.n : Int) 5 fun t13 =>
  Ite (decide (i1 = j2))
    (Q s0)
    (Dr <|
    Slc s0 0 i1 (s0.c : Int) 5 fun t22 =>
    Slc s0 j2 (s0.n : Int) (s0.c : Int) 5 fun t25 =>
    Do Try.prog (Builtin.append_ #[165, 165] 165 #[(Sl.val t22), (Sl.val t25)]) Sl.val fun t26 =>
    Slc t26 (t26.n : Int) (s0.n : Int) (t26.c : Int) 5 fun t31 =>
    Do Try.prog (Builtin.clear_ #[165] 0 #[(Sl.val t31)]) id fun _ =>
    Q t26)
theorem slices_Delete_s_btree_item_string_api_Record_btree_item_string_api_Record_ok (s0 : Sl) (i1 : Int) (j2 : Int) (Q : Sl → K) (w : World) (h : slices_Delete_s_btree_item_string_api_Record_btree_item_string_api_Record s0 i1 j2 Q w) : slices_Delete_s_btree_item_string_api_Record_btree_item_string_api_Record.call s0 i1 j2 Q w := by
  have hD5 : DH 5 0 [] (.s [0, 1, 2, 3, 4, 5] (.a [(6, 0, .s [7] .e)])) := by intros; exact ⟨⟩
  exact g_walk 33 h Try.func116
def slices_Insert_s_btree_item_string_api_Record_btree_item_string_api_Record (s0 : Sl) (i1 : Int) (v2 : Sl) (Q : Sl → K) : K :=
  Slc s0 i1 (s0.n : Int) (s0.c : Int) 5 fun t12 =>
  Ite (decide ((v2.n : Int) = 0))
    (Q s0)
    (Ite (decide (i1 = (s0.n : Int)))
      (Do Try.prog (Builtin.append_ #[165, 165] 165 #[(Sl.val s0), (Sl.val v2)]) Sl.val fun t25 =>
      Q t25)
      (Ar (IntKind.wrap .i64 ((s0.n : Int) + (v2.n : Int))) fun t28 =>
      Do Try.prog (Builtin.cap_ #[165] 3 #[(Sl.val s0)]) (Value.int .i64) fun t30 =>
      Ite (decide (t30 < t28))
        (Slc s0 0 i1 (s0.c : Int) 5 fun t34 =>
        Ar (IntKind.wrap .i64 ((s0.n : Int) + (v2.n : Int))) fun t37 =>
        Ar (IntKind.wrap .i64 (t37 - i1)) fun t39 =>
        Do Try.prog (Builtin.append_ #[165, 3] 165 #[(Sl.val t34), (.int .i64 t39)]) Sl.val fun t40 =>
        Slc t40 i1 (t40.n : Int) (t40.c : Int) 5 fun t43 =>
        Do Try.prog (Builtin.copy_ #[165, 165] 3 #[(Sl.val t43), (Sl.val v2)]) (Value.int .i64) fun t45 =>
        Dr <|
        Ar (IntKind.wrap .i64 (i1 + (v2.n : Int))) fun t49 =>
        Slc t40 t49 (t40.n : Int) (t40.c : Int) 5 fun t50 =>
        Slc s0 i1 (s0.n : Int) (s0.c : Int) 5 fun t53 =>
        Do Try.prog (Builtin.copy_ #[165, 165] 3 #[(Sl.val t50), (Sl.val t53)]) (Value.int .i64) fun t54 =>
        Q t40)
        (Ar (IntKind.wrap .i64 ((s0.n : Int) + (v2.n : Int))) fun t59 =>
        Slc s0 0 t59 (s0.c : Int) 5 fun t60 =>
        Ar (IntKind.wrap .i64 (i1 + (v2.n : Int))) fun t65 =>
        Slc t60 t65 (t60.n : Int) (t60.c : Int) 5 fun t66 =>
        Rd Try.prog (Extern.SlicesOverlaps.overlaps #[165, 165] #[4] [(Sl.val v2), (Sl.val t66)].toArray) Value.bool fun t67 =>
        Ite (!t67)
          (Dr <|
          Ar (IntKind.wrap .i64 (i1 + (v2.n : Int))) fun t72 =>
          Slc t60 t72 (t60.n : Int) (t60.c : Int) 5 fun t73 =>
          Slc t60 i1 (t60.n : Int) (t60.c : Int) 5 fun t76 =>
          Do Try.prog (Builtin.copy_ #[165, 165] 3 #[(Sl.val t73), (Sl.val t76)]) (Value.int .i64) fun t77 =>
          Slc t60 i1 (t60.n : Int) (t60.c : Int) 5 fun t80 =>
          Do Try.prog (Builtin.copy_ #[165, 165] 3 #[(Sl.val t80), (Sl.val v2)]) (Value.int .i64) fun t82 =>
          Q t60)
          (Slc t60 (s0.n : Int) (t60.n : Int) (t60.c : Int) 5 fun t86 =>
          Do Try.prog (Builtin.copy_ #[165, 165] 3 #[(Sl.val t86), (Sl.val v2)]) (Value.int .i64) fun t88 =>
          Slc t60 i1 (t60.n : Int) (t60.c : Int) 5 fun t91 =>
          slices_rotateRight_btree_item_string_api_Record.call t91 (v2.n : Int) <|
          Q t60))))
theorem slices_Insert_s_btree_item_string_api_Record_btree_item_string_api_Record_ok (s0 : Sl) (i1 : Int) (v2 : Sl) (Q : Sl → K) (w : World) (h : slices_Insert_s_btree_item_string_api_Record_btree_item_string_api_Record s0 i1 v2 Q w) : slices_Insert_s_btree_item_string_api_Record_btree_item_string_api_Record.call s0 i1 v2 Q w := by
  have hD11 : DH 11 0 [] (.s [0, 1, 2, 3, 4, 5, 6, 7] (.a [(8, 0, .e)])) := by intros; exact ⟨⟩
  have hD15 : DH 15 0 [] (.s [0, 1, 2, 3, 4, 5, 6, 7] (.a [(8, 0, .e)])) := by intros; exact ⟨⟩
  exact g_walk 95 h Try.func119
def slices_Insert_s_btree_node_string_api_Record_btree_node_string_api_Record (s0 : Sl) (i1 : Int) (v2 : Sl) (Q : Sl → K) : K :=
  Slc s0 i1 (s0.n : Int) (s0.c : Int) 1 fun t12 =>
  Ite (decide ((v2.n : Int) = 0))
    (Q s0)
    (Ite (decide (i1 = (s0.n : Int)))
      (Do Try.prog (Builtin.append_ #[166, 166] 166 #[(Sl.val s0), (Sl.val v2)]) Sl.val fun t25 =>
      Q t25)
      (Ar (IntKind.wrap .i64 ((s0.n : Int) + (v2.n : Int))) fun t28 =>
      Do Try.prog (Builtin.cap_ #[166] 3 #[(Sl.val s0)]) (Value.int .i64) fun t30 =>
      Ite (decide (t30 < t28))
        (Slc s0 0 i1 (s0.c : Int) 1 fun t34 =>
        Ar (IntKind.wrap .i64 ((s0.n : Int) + (v2.n : Int))) fun t37 =>
        Ar (IntKind.wrap .i64 (t37 - i1)) fun t39 =>
        Do Try.prog (Builtin.append_ #[166, 3] 166 #[(Sl.val t34), (.int .i64 t39)]) Sl.val fun t40 =>
        Slc t40 i1 (t40.n : Int) (t40.c : Int) 1 fun t43 =>
        Do Try.prog (Builtin.copy_ #[166, 166] 3 #[(Sl.val t43), (Sl.val v2)]) (Value.int .i64) fun t45 =>
        Dr <|
        Ar (IntKind.wrap .i64 (i1 + (v2.n : Int))) fun t49 =>
        Slc t40 t49 (t40.n : Int) (t40.c : Int) 1 fun t50 =>
        Slc s0 i1 (s0.n : Int) (s0.c : Int) 1 fun t53 =>
        Do Try.prog (Builtin.copy_ #[166, 166] 3 #[(Sl.val t50), (Sl.val t53)]) (Value.int .i64) fun t54 =>
        Q t40)
        (Ar (IntKind.wrap .i64 ((s0.n : Int) + (v2.n : Int))) fun t59 =>
        Slc s0 0 t59 (s0.c : Int) 1 fun t60 =>
        Ar (IntKind.wrap .i64 (i1 + (v2.n : Int))) fun t65 =>
        Slc t60 t65 (t60.n : Int) (t60.c : Int) 1 fun t66 =>
        Rd Try.prog (Extern.SlicesOverlaps.overlaps #[166, 166] #[4] [(Sl.val v2), (Sl.val t66)].toArray) Value.bool fun t67 =>
        Ite (!t67)
          (Dr <|
          Ar (IntKind.wrap .i64 (i1 + (v2.n : Int))) fun t72 =>
          Slc t60 t72 (t60.n : Int) (t60.c : Int) 1 fun t73 =>
          Slc t60 i1 (t60.n : Int) (t60.c : Int) 1 fun t76 =>
          Do Try.prog (Builtin.copy_ #[166, 166] 3 #[(Sl.val t73), (Sl.val t76)]) (Value.int .i64) fun t77 =>
          Slc t60 i1 (t60.n : Int) (t60.c : Int) 1 fun t80 =>
          Do Try.prog (Builtin.copy_ #[166, 166] 3 #[(Sl.val t80), (Sl.val v2)]) (Value.int .i64) fun t82 =>
          Q t60)
          (Slc t60 (s0.n : Int) (t60.n : Int) (t60.c : Int) 1 fun t86 =>
          Do Try.prog (Builtin.copy_ #[166, 166] 3 #[(Sl.val t86), (Sl.val v2)]) (Value.int .i64) fun t88 =>
          Slc t60 i1 (t60.n : Int) (t60.c : Int) 1 fun t91 =>
          slices_rotateRight_btree_node_string_api_Record.call t91 (v2.n : Int) <|
          Q t60))))
theorem slices_Insert_s_btree_node_string_api_Record_btree_node_string_api_Record_ok (s0 : Sl) (i1 : Int) (v2 : Sl) (Q : Sl → K) (w : World) (h : slices_Insert_s_btree_node_string_api_Record_btree_node_string_api_Record s0 i1 v2 Q w) : slices_Insert_s_btree_node_string_api_Record_btree_node_string_api_Record.call s0 i1 v2 Q w := by
  have hD11 : DH 11 0 [] (.s [0, 1, 2, 3, 4, 5, 6, 7] (.a [(8, 0, .e)])) := by intros; exact ⟨⟩
  have hD15 : DH 15 0 [] (.s [0, 1, 2, 3, 4, 5, 6, 7] (.a [(8, 0, .e)])) := by intros; exact ⟨⟩
  exact g_walk 95 h Try.func120
def slices_Clone_s_btree_item_string_api_Record_btree_item_string_api_Record (s0 : Sl) (Q : Sl → K) : K :=
  Ite ((s0).a.isNone)
    (Q (Sl.mk none 0 0))
    (New 174 #[] fun t5 =>
    Do Try.prog (Builtin.append_ #[165, 165] 165 #[(Sl.val (Sl.mk (some t5) 0 0)), (Sl.val s0)]) Sl.val fun t7 =>
    Q t7)
theorem slices_Clone_s_btree_item_string_api_Record_btree_item_string_api_Record_ok (s0 : Sl) (Q : Sl → K) (w : World) (h : slices_Clone_s_btree_item_string_api_Record_btree_item_string_api_Record s0 Q w) : slices_Clone_s_btree_item_string_api_Record_btree_item_string_api_Record.call s0 Q w := by
  exact g_walk 8 h Try.func121
def slices_Clone_s_btree_node_string_api_Record_btree_node_string_api_Record (s0 : Sl) (Q : Sl → K) : K :=
  Ite ((s0).a.isNone)
    (Q (Sl.mk none 0 0))
    (New 164 #[] fun t5 =>
    Do Try.prog (Builtin.append_ #[166, 166] 166 #[(Sl.val (Sl.mk (some t5) 0 0)), (Sl.val s0)]) Sl.val fun t7 =>
    Q t7)
theorem slices_Clone_s_btree_node_string_api_Record_btree_node_string_api_Record_ok (s0 : Sl) (Q : Sl → K) (w : World) (h : slices_Clone_s_btree_node_string_api_Record_btree_node_string_api_Record s0 Q w) : slices_Clone_s_btree_node_string_api_Record_btree_node_string_api_Record.call s0 Q w := by
  exact g_walk 8 h Try.func122
def slices_Delete_s_btree_node_string_api_Record_btree_node_string_api_Record (s0 : Sl) (i1 : Int) (j2 : Int) (Q : Sl → K) : K :=
  Slc s0 i1 j2 (s0.n : Int) 1 fun t13 =>
  Ite (decide (i1 = j2))
    (Q s0)
    (Dr <|
    Slc s0 0 i1 (s0.c : Int) 1 fun t22 =>
    Slc s0 j2 (s0.n : Int) (s0.c : Int) 1 fun t25 =>
    Do Try.prog (Builtin.append_ #[166, 166] 166 #[(Sl.val t22), (Sl.val t25)]) Sl.val fun t26 =>
    Slc t26 (t26.n : Int) (s0.n : Int) (t26.c : Int) 1 fun t31 =>
    Do Try.prog (Builtin.clear_ #[166] 0 #[(Sl.val t31)]) id fun _ =>
    Q t26)
theorem slices_Delete_s_btree_node_string_api_Record_btree_node_string_api_Record_ok (s0 : Sl) (i1 : Int) (j2 : Int) (Q : Sl → K) (w : World) (h : slices_Delete_s_btree_node_string_api_Record_btree_node_string_api_Record s0 i1 j2 Q w) : slices_Delete_s_btree_node_string_api_Record_btree_node_string_api_Record.call s0 i1 j2 Q w := by
  have hD5 : DH 5 0 [] (.s [0, 1, 2, 3, 4, 5] (.a [(6, 0, .s [7] .e)])) := by intros; exact ⟨⟩
  exact g_walk 33 h Try.func134
def slices_rotateRight_btree_item_string_api_Record (s0 : Sl) (r1 : Int) (Q : K) : K :=
  Ar (IntKind.wrap .i64 ((s0.n : Int) - r1)) fun t8 =>
  slices_rotateLeft_btree_item_string_api_Record.call s0 t8 <|
  Q
theorem slices_rotateRight_btree_item_string_api_Record_ok (s0 : Sl) (r1 : Int) (Q : K) (w : World) (h : slices_rotateRight_btree_item_string_api_Record s0 r1 Q w) : slices_rotateRight_btree_item_string_api_Record.call s0 r1 Q w := by
  exact g_walk 10 h Try.func136
def slices_rotateRight_btree_node_string_api_Record (s0 : Sl) (r1 : Int) (Q : K) : K :=
  Ar (IntKind.wrap .i64 ((s0.n : Int) - r1)) fun t8 =>
  slices_rotateLeft_btree_node_string_api_Record.call s0 t8 <|
  Q
theorem slices_rotateRight_btree_node_string_api_Record_ok (s0 : Sl) (r1 : Int) (Q : K) (w : World) (h : slices_rotateRight_btree_node_string_api_Record s0 r1 Q w) : slices_rotateRight_btree_node_string_api_Record.call s0 r1 Q w := by
  exact g_walk 10 h Try.func138
def slices_rotateLeft_btree_item_string_api_Record (s0 : Sl) (r1 : Int) (Q : K) : K :=
  Slc s0 0 r1 (s0.c : Int) 5 fun t6 =>
  slices_Reverse_s_btree_item_string_api_Record_btree_item_string_api_Record.call t6 <|
  Slc s0 r1 (s0.n : Int) (s0.c : Int) 5 fun t10 =>
  slices_Reverse_s_btree_item_string_api_Record_btree_item_string_api_Record.call t10 <|
  slices_Reverse_s_btree_item_string_api_Record_btree_item_string_api_Record.call s0 <|
  Q
theorem slices_rotateLeft_btree_item_string_api_Record_ok (s0 : Sl) (r1 : Int) (Q : K) (w : World) (h : slices_rotateLeft_btree_item_string_api_Record s0 r1 Q w) : slices_rotateLeft_btree_item_string_api_Record.call s0 r1 Q w := by
  exact g_walk 14 h Try.func144
def slices_rotateLeft_btree_node_string_api_Record (s0 : Sl) (r1 : Int) (Q : K) : K :=
  Slc s0 0 r1 (s0.c : Int) 1 fun t6 =>
  slices_Reverse_s_btree_node_string_api_Record_btree_node_string_api_Record.call t6 <|
  Slc s0 r1 (s0.n : Int) (s0.c : Int) 1 fun t10 =>
  slices_Reverse_s_btree_node_string_api_Record_btree_node_string_api_Record.call t10 <|
  slices_Reverse_s_btree_node_string_api_Record_btree_node_string_api_Record.call s0 <|
  Q
theorem slices_rotateLeft_btree_node_string_api_Record_ok (s0 : Sl) (r1 : Int) (Q : K) (w : World) (h : slices_rotateLeft_btree_node_string_api_Record s0 r1 Q w) : slices_rotateLeft_btree_node_string_api_Record.call s0 r1 Q w := by
  exact g_walk 14 h Try.func145
def slices_Reverse_s_btree_item_string_api_Record_btree_item_string_api_Record.b1 (Q : K)  (X1 : Int → Int → K) (s0_1 : Sl) (i2_1 : Int) (j3_1 : Int) : K :=
  Ite (decide (i2_1 < j3_1))
    (Dr <|
    Idx s0_1 j3_1 5 fun t20 =>
    Idx s0_1 i2_1 5 fun t24 =>
    LdN t20 5 fun t21 =>
    LdN t24 5 fun t25 =>
    Idx s0_1 i2_1 5 fun t26 =>
    StN t26 5 t21 <|
    Idx s0_1 j3_1 5 fun t27 =>
    StN t27 5 t25 <|
    Ar (IntKind.wrap .i64 (i2_1 + 1)) fun t11 =>
    Ar (IntKind.wrap .i64 (j3_1 - 1)) fun t13 =>
    X1 t11 t13)
    (Q)
def slices_Reverse_s_btree_item_string_api_Record_btree_item_string_api_Record (s0 : Sl) (Q : K) : K :=
  Ar (IntKind.wrap .i64 ((s0.n : Int) - 1)) fun t6 =>
  LoopK (α := Int × Int) (fun X x => slices_Reverse_s_btree_item_string_api_Record_btree_item_string_api_Record.b1 Q (fun i2_1 j3_1 => X (i2_1, j3_1)) s0 x.1 x.2) (0, t6)
theorem slices_Reverse_s_btree_item_string_api_Record_btree_item_string_api_Record_ok (s0 : Sl) (Q : K) (w : World) (h : slices_Reverse_s_btree_item_string_api_Record_btree_item_string_api_Record s0 Q w) : slices_Reverse_s_btree_item_string_api_Record_btree_item_string_api_Record.call s0 Q w := by
  have hD3 : DH 3 1 [13, 15] (.s [0, 1, 2, 3, 4, 5, 6, 8, 9, 10, 7, 11, 12] (.a [(13, 0, .s [14] (.a [(15, 0, .e)]))])) := by intros; exact ⟨⟩
  have hL1 : ∀ (s0_1 : Sl), LH 1 (fun x : Int × Int => [(0, (Sl.val s0_1)), (2, (.int .i64 x.1)), (3, (.int .i64 x.2))]) (fun X x => slices_Reverse_s_btree_item_string_api_Record_btree_item_string_api_Record.b1 Q (fun i2_1 j3_1 => X (i2_1, j3_1)) s0_1 x.1 x.2) := by intros; exact ⟨⟩
  exact g_walk 28 h Try.func147
def slices_Reverse_s_btree_node_string_api_Record_btree_node_string_api_Record.b1 (Q : K)  (X1 : Int → Int → K) (s0_1 : Sl) (i2_1 : Int) (j3_1 : Int) : K :=
  Ite (decide (i2_1 < j3_1))
    (Dr <|
    Idx s0_1 j3_1 1 fun t20 =>
    Idx s0_1 i2_1 1 fun t24 =>
    Ld t20 Value.pointer fun t21 =>
    Ld t24 Value.pointer fun t25 =>
    Idx s0_1 i2_1 1 fun t26 =>
    St t26 (.pointer t21) <|
    Idx s0_1 j3_1 1 fun t27 =>
    St t27 (.pointer t25) <|
    Ar (IntKind.wrap .i64 (i2_1 + 1)) fun t11 =>
    Ar (IntKind.wrap .i64 (j3_1 - 1)) fun t13 =>
    X1 t11 t13)
    (Q)
def slices_Reverse_s_btree_node_string_api_Record_btree_node_string_api_Record (s0 : Sl) (Q : K) : K :=
  Ar (IntKind.wrap .i64 ((s0.n : Int) - 1)) fun t6 =>
  LoopK (α := Int × Int) (fun X x => slices_Reverse_s_btree_node_string_api_Record_btree_node_string_api_Record.b1 Q (fun i2_1 j3_1 => X (i2_1, j3_1)) s0 x.1 x.2) (0, t6)
theorem slices_Reverse_s_btree_node_string_api_Record_btree_node_string_api_Record_ok (s0 : Sl) (Q : K) (w : World) (h : slices_Reverse_s_btree_node_string_api_Record_btree_node_string_api_Record s0 Q w) : slices_Reverse_s_btree_node_string_api_Record_btree_node_string_api_Record.call s0 Q w := by
  have hD3 : DH 3 1 [13, 15] (.s [0, 1, 2, 3, 4, 5, 6, 8, 9, 10, 7, 11, 12] (.a [(13, 0, .s [14] (.a [(15, 0, .e)]))])) := by intros; exact ⟨⟩
  have hL1 : ∀ (s0_1 : Sl), LH 1 (fun x : Int × Int => [(0, (Sl.val s0_1)), (2, (.int .i64 x.1)), (3, (.int .i64 x.2))]) (fun X x => slices_Reverse_s_btree_node_string_api_Record_btree_node_string_api_Record.b1 Q (fun i2_1 j3_1 => X (i2_1, j3_1)) s0_1 x.1 x.2) := by intros; exact ⟨⟩
  exact g_walk 28 h Try.func148
end Go.Proofs.Ytfjjocopmknhgaa
/- Plain forms of functions, and that their code comes to them (package lib_cmp). -/
namespace Go.Proofs.Ytfjjocopmknhgaa
open Go Go.Sep
set_option linter.unusedVariables false
set_option linter.unusedSimpArgs false
set_option maxRecDepth 100000
set_option maxHeartbeats 4000000
attribute [local irreducible] G Gp Cx Tx Ex Sx Dx Ox Ax Lx Rx Fx Bx Bj Al Do Ld LdN St StN New CallF Ar DoU Rd Rd2 Pu Cd Ite Fv CallV CallY Ans0 Ans1 Ans2 Ans3 Ans4 Ans5 Ext Dead Dr WithS Sv LdS LdNS RdS Rd2S Nn Idx IdxA IdxS Fld Bld Slc SlcS Cat All LoopK RangeF RangeJ TakeD
namespace F_IRLibCmp
instance cb_115 : CB Try.prog 115 := ⟨by kernel_rfl⟩
instance mx : MX Try.prog := ⟨mixed⟩
end F_IRLibCmp
def cmp_Compare_string (x0 : ByteArray) (y1 : ByteArray) (Q : Int → K) : K :=
  cmp_isNaN_string.call x0 fun t8 =>
  cmp_isNaN_string.call y1 fun t10 =>
  Ite t8
    (Ite t10
      (Q 0)
      (Q (-1)))
    (Ite t10
      (Q 1)
      (Ite (Op.bytesLess x0.toList y1.toList)
        (Q (-1))
        (Ite (!(Op.bytesLess x0.toList y1.toList || x0.toList == y1.toList))
          (Q 1)
          (Q 0))))
theorem cmp_Compare_string_ok (x0 : ByteArray) (y1 : ByteArray) (Q : Int → K) (w : World) (h : cmp_Compare_string x0 y1 Q w) : cmp_Compare_string.call x0 y1 Q w := by
  exact g_walk 20 h Try.func108
def cmp_isNaN_string (x0 : ByteArray) (Q : Bool → K) : K :=
  Q (!(x0.toList == x0.toList))
theorem cmp_isNaN_string_ok (x0 : ByteArray) (Q : Bool → K) (w : World) (h : cmp_isNaN_string x0 Q w) : cmp_isNaN_string.call x0 Q w := by
  exact g_walk 6 h Try.func115
def cmp_Less_string.s1 (Q : Bool → K)  (t4_1 : Bool) : K :=
  Q t4_1
def cmp_Less_string (x0 : ByteArray) (y1 : ByteArray) (Q : Bool → K) : K :=
  cmp_isNaN_string.call x0 fun t6 =>
  Ite t6
    (cmp_isNaN_string.call y1 fun t9 =>
    Ite (!t9)
      (cmp_Less_string.s1 Q true)
      (cmp_Less_string.s1 Q (Op.bytesLess x0.toList y1.toList)))
    (cmp_Less_string.s1 Q (Op.bytesLess x0.toList y1.toList))
theorem cmp_Less_string_ok (x0 : ByteArray) (y1 : ByteArray) (Q : Bool → K) (w : World) (h : cmp_Less_string x0 y1 Q w) : cmp_Less_string.call x0 y1 Q w := by
  have hJ1000001 : JH 1000001 fun D => D [] (fun C => ∀ (t4_1 : Bool), C [(4, (.bool t4_1))] (cmp_Less_string.s1 Q t4_1)) := by intros; exact ⟨fun _ h => ⟨_, _, h⟩⟩
  exact g_walk 17 h Try.func129
end Go.Proofs.Ytfjjocopmknhgaa
/- The B-tree of records by strings is one of Bt's. -/
namespace Go.Proofs.Ytfjjocopmknhgaa
open Go Go.Sep Go.Sep.Bt
set_option linter.unusedSimpArgs false
set_option linter.unusedVariables false
set_option maxRecDepth 100000

noncomputable def btS : BtT ByteArray where
  P := Try.prog
  tI := ty_btree_item_string_api_Record
  tSI := ty_s_btree_item_string_api_Record
  tV := ty_api_Record
  tK := ty_p_btree_node_string_api_Record
  tSK := ty_s_p_btree_node_string_api_Record
  tN := ty_btree_node_string_api_Record
  tT := ty_btree_Tree_string_api_Record
  nv := 4
  kz := .string ⟨#[]⟩
  vz := [.bool false, Sl.val ⟨none, 0, 0⟩, .int .i64 0, .int .u64 0]
  kV := Value.string
  cv := .func (.func 107) #[] #[]
  bsC := slices_BinarySearchFunc_s_btree_item_string_api_Record_btree_item_string_api_Record_string.call
  nsearchC := btree_node_string_api_Record_search.call
  nputC := btree_node_string_api_Record_put.call
  insIC := slices_Insert_s_btree_item_string_api_Record_btree_item_string_api_Record.call
  insKC := slices_Insert_s_btree_node_string_api_Record_btree_node_string_api_Record.call
  cloneIC := slices_Clone_s_btree_item_string_api_Record_btree_item_string_api_Record.call
  cloneKC := slices_Clone_s_btree_node_string_api_Record_btree_node_string_api_Record.call

/-- How strings are compared. -/
def cmpS (a b : ByteArray) : Int := if a.toList < b.toList then -1 else if a.toList = b.toList then 0 else 1
theorem toList_inj {a b : ByteArray} (h : a.toList = b.toList) : a = b := by
  obtain ⟨x, rfl⟩ := bs_of a
  obtain ⟨y, rfl⟩ := bs_of b
  rw [bs_list, bs_list] at h
  rw [h]
theorem cmpS_neg {a b : ByteArray} : cmpS a b < 0 ↔ a.toList < b.toList := by
  unfold cmpS
  split
  · simp [*]
  · split <;> simp [*]
theorem cmpS_zero {a b : ByteArray} : cmpS a b = 0 ↔ a = b := by
  unfold cmpS
  split
  · rename_i h
    simp only [show ¬ ((-1 : Int) = 0) by omega, false_iff]
    rintro rfl; exact List.lt_irrefl _ h
  · split
    · rename_i h; simp [toList_inj h]
    · rename_i h
      simp only [show ¬ ((1 : Int) = 0) by omega, false_iff]
      rintro rfl; exact h rfl
theorem list_tri {x y : List UInt8} (h1 : ¬ x < y) (h2 : ¬ x = y) : y < x := by
  have h4 : y ≤ x := by rw [← List.not_lt]; exact h1
  rcases List.le_iff_lt_or_eq.1 h4 with h5 | h5
  · exact h5
  · exact absurd h5.symm h2
theorem cmpS_pos {a b : ByteArray} : 0 < cmpS a b ↔ b.toList < a.toList := by
  unfold cmpS
  split
  · rename_i h
    simp only [show ¬ (0 < (-1 : Int)) by omega, false_iff]
    exact fun h2 => List.lt_irrefl _ (List.lt_trans h h2)
  · split
    · rename_i h
      simp only [show ¬ (0 < (0 : Int)) by omega, false_iff]
      rw [h]; exact List.lt_irrefl _
    · rename_i h1 h2
      simp only [show 0 < (1 : Int) by omega, true_iff]
      exact list_tri h1 h2
theorem isNaN_spec {B : World} {Γ : List HProp} {x : ByteArray} {q : Bool → K} (h : HG B Γ (q false)) : HG B Γ (cmp_isNaN_string.call x q) := fun w hw => cmp_isNaN_string_ok _ _ _ (by unfold cmp_isNaN_string; simpa using h w hw)
theorem Compare_spec {B : World} {Γ : List HProp} {x y : ByteArray} {q : Int → K} (h : HG B Γ (q (cmpS x y))) : HG B Γ (cmp_Compare_string.call x y q) := fun w hw => by
  refine cmp_Compare_string_ok _ _ _ _ ?_
  refine hg hw ?_
  unfold cmp_Compare_string
  refine isNaN_spec (isNaN_spec ?_)
  refine s_f ?_ rfl
  refine s_f ?_ rfl
  rw [gt_dec, bytesLess_dec]
  refine s_ite (fun h1 => ?_) fun h1 => ?_
  · have e : cmpS x y = -1 := by unfold cmpS; rw [if_pos (by simpa using h1)]
    rw [e] at h; exact h
  refine s_ite (fun h2 => ?_) fun h2 => ?_
  · have h3 : y.toList < x.toList := by simpa using h2
    have e : cmpS x y = 1 := by
      unfold cmpS
      rw [if_neg (by simpa using h1), if_neg fun h4 => by rw [h4] at h3; exact List.lt_irrefl _ h3]
    rw [e] at h; exact h
  · have h3 : ¬ y.toList < x.toList := by simpa using h2
    have e : cmpS x y = 0 := by
      unfold cmpS
      rw [if_neg (by simpa using h1), if_pos (Classical.byContradiction fun h4 => h3 (list_tri (by simpa using h1) h4))]
    rw [e] at h; exact h
theorem btS_ok : BtOk btS cmpS where
  kf := fun _ => rfl
  kzf := rfl
  vz := ⟨rfl, rfl⟩
  TI := by kernel_rfl
  ZI := by kernel_rfl
  TK := by kernel_rfl
  ZK := by kernel_rfl
  tr := fun h1 h2 => cmpS_neg.2 (List.lt_trans (cmpS_neg.1 h1) (cmpS_neg.1 h2))
  eq := cmpS_zero
  sw := by intro a b; rw [cmpS_neg, cmpS_pos]
  cmp := fun a b vs q hl h => by
    refine s_callv ?_
    refine fun w hw => btree_node_string_api_Record_search_1_ok _ _ _ _ ?_
    refine hg hw ?_
    clear hw w
    unfold btree_node_string_api_Record_search_1
    refine s_new fun t => ?_
    refine s_ld (b := t) (x := a) ?_
    refine Compare_spec ?_
    exact s_end h
  bs := fun s k Q w h => slices_BinarySearchFunc_s_btree_item_string_api_Record_btree_item_string_api_Record_string_ok _ _ _ _ _ h
  search := fun n k Q w h => btree_node_string_api_Record_search_ok _ _ _ _ h
  put := fun n x Q w h => btree_node_string_api_Record_put_ok _ _ _ _ h
  insI := ⟨_, _, fun s i v Q w h => slices_Insert_s_btree_item_string_api_Record_btree_item_string_api_Record_ok _ _ _ _ _ h⟩
  insK := ⟨_, _, fun s i v Q w h => slices_Insert_s_btree_node_string_api_Record_btree_node_string_api_Record_ok _ _ _ _ _ h⟩
  cloneI := fun s Q w h => slices_Clone_s_btree_item_string_api_Record_btree_item_string_api_Record_ok _ _ _ h
  cloneK := fun s Q w h => slices_Clone_s_btree_node_string_api_Record_btree_node_string_api_Record_ok _ _ _ h

section
variable {B : World} {Γ : List HProp}
theorem btNew_spec {Q : Option Addr → K} (h : ∀ t, HG B (TreeR btS cmpS t [] :: Γ) (Q (some ⟨t, 0, none⟩))) : HG B Γ (btree_New_string_api_Record.call Q) := fun w hw =>
  btree_New_string_api_Record_ok _ _ (show tnew btS Q w from hg hw (tnew_spec h))
theorem btGet_spec {t : Nat} {L : List btS.It} {k : ByteArray} {Q : Array Value → Bool → K} (hfound : ∀ A v C, L = A ++ (k, v) :: C → HG B (TreeR btS cmpS t L :: Γ) (Q v.1.toArray true)) (hnot : (∀ A C, L = A ++ C → (∀ x ∈ A, cmpS x.1 k < 0) → (∀ x ∈ C, cmpS k x.1 < 0) → HG B (TreeR btS cmpS t L :: Γ) (Q btS.vz.toArray false))) :
    HG B (TreeR btS cmpS t L :: Γ) (btree_Tree_string_api_Record_Get.call (some ⟨t, 0, none⟩) k Q) := fun w hw =>
  btree_Tree_string_api_Record_Get_ok _ _ _ _ (show tget btS (some ⟨t, 0, none⟩) k Q w from hg hw (tget_spec btS_ok hfound hnot))
theorem btPut_spec {t : Nat} {L : List btS.It} {k : ByteArray} {v : Cel btS.nv} {Q : Array Value → Bool → K} (hL : L.length < 1000000000) (h : ∀ L' old had, PutR cmpS (btS.z0 btS_ok.vz) L k v L' old had → HG B (TreeR btS cmpS t L' :: Γ) (Q old.1.toArray had)) :
    HG B (TreeR btS cmpS t L :: Γ) (btree_Tree_string_api_Record_Put.call (some ⟨t, 0, none⟩) k v.1.toArray Q) := fun w hw =>
  btree_Tree_string_api_Record_Put_ok _ _ _ _ _ (show tput btS (some ⟨t, 0, none⟩) k v.1.toArray Q w from hg hw (tput_spec btS_ok hL h))
end
end Go.Proofs.Ytfjjocopmknhgaa
/- Plain forms of functions, and that their code comes to them (package lib_bytes). -/
namespace Go.Proofs.Ytfjjocopmknhgaa
open Go Go.Sep
set_option linter.unusedVariables false
set_option linter.unusedSimpArgs false
set_option maxRecDepth 100000
set_option maxHeartbeats 4000000
attribute [local irreducible] G Gp Cx Tx Ex Sx Dx Ox Ax Lx Rx Fx Bx Bj Al Do Ld LdN St StN New CallF Ar DoU Rd Rd2 Pu Cd Ite Fv CallV CallY Ans0 Ans1 Ans2 Ans3 Ans4 Ans5 Ext Dead Dr WithS Sv LdS LdNS RdS Rd2S Nn Idx IdxA IdxS Fld Bld Slc SlcS Cat All LoopK RangeF RangeJ TakeD
namespace F_IRLibBytes
instance mx : MX Try.prog := ⟨mixed⟩
instance sl_33 : SLT Try.prog 33 5 1 := ⟨by kernel_rfl⟩
instance un_33 : UN Try.prog 33 (.slice 5) := ⟨Try.underlying33⟩
instance zt_5 : ZT Try.prog 5 (.int .u8 0) := ⟨Try.t5, by kernel_rfl, by kernel_rfl⟩
end F_IRLibBytes
def bytes_Clone (b0 : Sl) (Q : Sl → K) : K :=
  Ite ((b0).a.isNone)
    (Q (Sl.mk none 0 0))
    (New 5 #[] fun t5 =>
    Do Try.prog (Builtin.append_ #[33, 33] 33 #[(Sl.val (Sl.mk (some t5) 0 0)), (Sl.val b0)]) Sl.val fun t7 =>
    Q t7)
theorem bytes_Clone_ok (b0 : Sl) (Q : Sl → K) (w : World) (h : bytes_Clone b0 Q w) : bytes_Clone.call b0 Q w := by
  exact g_walk 8 h Try.func56
def bytes_Equal (a0 : Sl) (b1 : Sl) (Q : Bool → K) : K :=
  Rd Try.prog (convert 33 9 (Sl.val a0)) Value.string fun t6 =>
  Rd Try.prog (convert 33 9 (Sl.val b1)) Value.string fun t8 =>
  Q (t6.toList == t8.toList)
theorem bytes_Equal_ok (a0 : Sl) (b1 : Sl) (Q : Bool → K) (w : World) (h : bytes_Equal a0 b1 Q w) : bytes_Equal.call a0 b1 Q w := by
  exact g_walk 10 h Try.func98
end Go.Proofs.Ytfjjocopmknhgaa
/- bytes.Clone gives the same bytes in memory of one's own. -/
namespace Go.Proofs.Ytfjjocopmknhgaa
open Go Go.Sep
set_option linter.unusedSimpArgs false
set_option linter.unusedVariables false
section
variable {B w : World} {Γ : List HProp}
theorem bytes_Clone_spec {b : Sl} {xs : List UInt8} {k : Sl → K} (h : Holds B Γ w) (hr : ∀ w, Holds B Γ w → RdB w b xs) (hl : xs.length ≤ 1000000000)
    (hk : ∀ s w, Holds B (Bytes ty_uint8 s xs :: Γ) w → s.a.isNone = b.a.isNone → k s w) : bytes_Clone.call b k w := by
  refine bytes_Clone_ok _ _ _ ?_
  unfold bytes_Clone
  refine r_ite (fun hb => ?_) (fun hb => ?_)
  · have hx : xs = [] := by
      have h1 := (hr w h).nil (by simpa using hb)
      have h2 := (hr w h).len
      rw [h1] at h2; simpa using h2
    subst hx
    exact hk _ _ (h.nilSl _ _) (by rw [hb]; rfl)
  · refine r_new h ?_
    clear h
    intro t w h
    try simp only [add_mk, Nat.zero_add, Nat.reduceAdd]
    have hn : b.n = xs.length := by have h2 := (hr w h.tail).len; simpa using h2.symm
    refine r_append (vs := []) (h.imp (blk_SlC rfl rfl)) (by kernel_rfl) (by kernel_rfl) (by' := 1) (by kernel_rfl) zero_ty_uint8 rfl (hr w h.tail) (byteV_flat _) (by simp only [hn]; omega) (by decide) fun s w h hs ha => ?_
    refine hk s w h ?_
    rw [hb]
    have := ha rfl
    cases hh : s.a <;> simp [hh] at this ⊢
end
end Go.Proofs.Ytfjjocopmknhgaa
/- Plain forms of functions, and that their code comes to them (package store). -/
namespace Go.Proofs.Ytfjjocopmknhgaa
open Go Go.Sep
set_option linter.unusedVariables false
set_option linter.unusedSimpArgs false
set_option maxRecDepth 100000
set_option maxHeartbeats 4000000
attribute [local irreducible] G Gp Cx Tx Ex Sx Dx Ox Ax Lx Rx Fx Bx Bj Al Do Ld LdN St StN New CallF Ar DoU Rd Rd2 Pu Cd Ite Fv CallV CallY Ans0 Ans1 Ans2 Ans3 Ans4 Ans5 Ext Dead Dr WithS Sv LdS LdNS RdS Rd2S Nn Idx IdxA IdxS Fld Bld Slc SlcS Cat All LoopK RangeF RangeJ TakeD
namespace F_IRStore
instance at_36 : AT Try.prog 36 4 := ⟨by kernel_rfl⟩
instance cb_14 : CB Try.prog 14 := ⟨by kernel_rfl⟩
instance cb_53 : CB Try.prog 53 := ⟨by kernel_rfl⟩
instance cb_54 : CB Try.prog 54 := ⟨by kernel_rfl⟩
instance cb_55 : CB Try.prog 55 := ⟨by kernel_rfl⟩
instance cb_56 : CB Try.prog 56 := ⟨by kernel_rfl⟩
instance cb_57 : CB Try.prog 57 := ⟨by kernel_rfl⟩
instance cb_88 : CB Try.prog 88 := ⟨by kernel_rfl⟩
instance cb_89 : CB Try.prog 89 := ⟨by kernel_rfl⟩
instance ct_109 : CT Try.prog 109 := ⟨by kernel_rfl⟩
instance ct_3 : CT Try.prog 3 := ⟨by kernel_rfl⟩
instance ct_33 : CT Try.prog 33 := ⟨by kernel_rfl⟩
instance ct_34 : CT Try.prog 34 := ⟨by kernel_rfl⟩
instance ct_4 : CT Try.prog 4 := ⟨by kernel_rfl⟩
instance ft_112_0 : FT Try.prog 112 0 0 1 := ⟨by kernel_rfl⟩
instance ft_112_1 : FT Try.prog 112 1 1 1 := ⟨by kernel_rfl⟩
instance ft_36_0 : FT Try.prog 36 0 0 1 := ⟨by kernel_rfl⟩
instance ft_36_1 : FT Try.prog 36 1 1 1 := ⟨by kernel_rfl⟩
instance ft_36_2 : FT Try.prog 36 2 2 1 := ⟨by kernel_rfl⟩
instance ft_36_3 : FT Try.prog 36 3 3 1 := ⟨by kernel_rfl⟩
instance in_3 : INT Try.prog 3 .i64 := ⟨by kernel_rfl⟩
instance in_5 : INT Try.prog 5 .u8 := ⟨by kernel_rfl⟩
instance mx : MX Try.prog := ⟨mixed⟩
instance pl_112 : PLT Try.prog 112 [(0, 1), (1, 1)] := ⟨_, Try.underlying112, by kernel_rfl⟩
instance st_9 : STT Try.prog 9 := ⟨by kernel_rfl⟩
instance sz_3 : SZ Try.prog 3 1 := ⟨by kernel_rfl⟩
instance sz_33 : SZ Try.prog 33 1 := ⟨by kernel_rfl⟩
instance sz_34 : SZ Try.prog 34 1 := ⟨by kernel_rfl⟩
instance sz_36 : SZ Try.prog 36 4 := ⟨by kernel_rfl⟩
instance sz_4 : SZ Try.prog 4 1 := ⟨by kernel_rfl⟩
instance zt_112 : ZT Try.prog 112 (.agg #[(.int .i64 0), (.pointer none)]) := ⟨Try.t112, by kernel_rfl, by kernel_rfl⟩
instance zt_36 : ZT Try.prog 36 (.agg #[(.bool false), (Sl.val ⟨none, 0, 0⟩), (.int .i64 0), (.int .u64 0)]) := ⟨Try.t36, by kernel_rfl, by kernel_rfl⟩
end F_IRStore
def store_New.s1 (Q : (Option Addr) → Int → K)  (regions0_1 : Int) (t9_1 : Bool) : K :=
  Ite t9_1
    (Q none 1)
    (btree_New_string_api_Record.call  fun t11 =>
    New 112 #[(.int .i64 regions0_1), (.pointer t11)] fun t13 =>
    Q (some t13) 0)
def store_New (regions0 : Int) (Q : (Option Addr) → Int → K) : K :=
  Ite (decide (regions0 < 1))
    (store_New.s1 Q regions0 true)
    (store_New.s1 Q regions0 (decide ((3 : Int) < regions0)))
theorem store_New_ok (regions0 : Int) (Q : (Option Addr) → Int → K) (w : World) (h : store_New regions0 Q w) : store_New.call regions0 Q w := by
  have hJ2 : JH 2 fun D => ∃ (regions0_1 : Int), D [(0, (.int .i64 regions0_1))] (fun C => ∀ (t9_1 : Bool), C [(0, (.int .i64 regions0_1)), (9, (.bool t9_1))] (store_New.s1 Q regions0_1 t9_1)) := by intros; exact ⟨fun _ ⟨_, h⟩ => ⟨_, _, h⟩⟩
  exact g_walk 14 h Try.func13
def store_Store_Get.s1 (Q : (Array Value) → K)  (t4_1 : Addr) (r5_1 : Addr) : K :=
  Ld (r5_1.add 1) Sl.val fun t26 =>
  bytes_Clone.call t26 fun t27 =>
  St (r5_1.add 1) (Sl.val t27) <|
  LdN r5_1 4 fun t29 =>
  StN t4_1 4 t29 <|
  LdN t4_1 4 fun r0 =>
  Q r0
def store_Store_Get (s0 : (Option Addr)) (key1 : ByteArray) (Q : (Array Value) → K) : K :=
  New 36 #[(.bool false), (Sl.val ⟨none, 0, 0⟩), (.int .i64 0), (.int .u64 0)] fun t4 =>
  Nn s0 fun t9 =>
  Ld (t9.add 1) Value.pointer fun t11 =>
  btree_Tree_string_api_Record_Get.call t11 key1 fun t13x0 t13x1 =>
  New 36 #[(.bool false), (Sl.val ⟨none, 0, 0⟩), (.int .i64 0), (.int .u64 0)] fun r5 =>
  StN r5 4 t13x0 <|
  Ite (!t13x1)
    (Ld t9 (Value.int .i64) fun t22 =>
    store_Default.call key1 t22 fun t23 =>
    St (r5.add 2) (.int .i64 t23) <|
    store_Store_Get.s1 Q t4 r5)
    (store_Store_Get.s1 Q t4 r5)
theorem store_Store_Get_ok (s0 : (Option Addr)) (key1 : ByteArray) (Q : (Array Value) → K) (w : World) (h : store_Store_Get s0 key1 Q w) : store_Store_Get.call s0 key1 Q w := by
  have hJ4 : JH 4 fun D => ∃ (t4_1 : Addr) (r5_1 : Addr), D [(4, (.pointer (some t4_1))), (5, (.pointer (some r5_1)))] (fun C => C [(4, (.pointer (some t4_1))), (5, (.pointer (some r5_1)))] (store_Store_Get.s1 Q t4_1 r5_1)) := by intros; exact ⟨fun _ ⟨_, _, h⟩ => ⟨_, _, h⟩⟩
  exact g_walk 30 h Try.func14
def store_Store_Move.s1 (Q : Int → K)  (s0_1 : (Option Addr)) (key1_1 : ByteArray) (home2_1 : Int) (r7_1 : Addr) (t11_1 : Bool) : K :=
  Ite t11_1
    (Q 1)
    (Ld (r7_1.add 3) (Value.int .u64) fun t24 =>
    Ite (decide (t24 = 18446744073709551615))
      (Q 111)
      (St (r7_1.add 2) (.int .i64 home2_1) <|
      Ld (r7_1.add 3) (Value.int .u64) fun t29 =>
      Ar (IntKind.wrap .u64 (t29 + 1)) fun t30 =>
      St (r7_1.add 3) (.int .u64 t30) <|
      LdN r7_1 4 fun t34 =>
      store_Store_set.call s0_1 key1_1 t34 <|
      Q 0))
def store_Store_Move (s0 : (Option Addr)) (key1 : ByteArray) (home2 : Int) (Q : Int → K) : K :=
  store_Store_Get.call s0 key1 fun t10 =>
  New 36 #[(.bool false), (Sl.val ⟨none, 0, 0⟩), (.int .i64 0), (.int .u64 0)] fun r7 =>
  StN r7 4 t10 <|
  Ite (decide (home2 < 0))
    (store_Store_Move.s1 Q s0 key1 home2 r7 true)
    (Nn s0 fun t17 =>
    Ld t17 (Value.int .i64) fun t19 =>
    store_Store_Move.s1 Q (some t17) key1 home2 r7 (decide (t19 ≤ home2)))
theorem store_Store_Move_ok (s0 : (Option Addr)) (key1 : ByteArray) (home2 : Int) (Q : Int → K) (w : World) (h : store_Store_Move s0 key1 home2 Q w) : store_Store_Move.call s0 key1 home2 Q w := by
  have hJ3 : JH 3 fun D => ∃ (s0_1 : (Option Addr)) (key1_1 : ByteArray) (home2_1 : Int) (r7_1 : Addr), D [(0, (.pointer s0_1)), (1, (.string key1_1)), (2, (.int .i64 home2_1)), (7, (.pointer (some r7_1)))] (fun C => ∀ (t11_1 : Bool), C [(0, (.pointer s0_1)), (1, (.string key1_1)), (2, (.int .i64 home2_1)), (7, (.pointer (some r7_1))), (11, (.bool t11_1))] (store_Store_Move.s1 Q s0_1 key1_1 home2_1 r7_1 t11_1)) := by intros; exact ⟨fun _ ⟨_, _, _, _, h⟩ => ⟨_, _, h⟩⟩
  exact g_walk 36 h Try.func15
def store_Store_Put (s0 : (Option Addr)) (key1 : ByteArray) (value2 : Sl) (Q : K) : K :=
  store_Store_Get.call s0 key1 fun t9 =>
  New 36 #[(.bool false), (Sl.val ⟨none, 0, 0⟩), (.int .i64 0), (.int .u64 0)] fun r6 =>
  StN r6 4 t9 <|
  bytes_Clone.call value2 fun t11 =>
  St r6 (.bool true) <|
  St (r6.add 1) (Sl.val t11) <|
  LdN r6 4 fun t16 =>
  store_Store_set.call s0 key1 t16 <|
  Q
theorem store_Store_Put_ok (s0 : (Option Addr)) (key1 : ByteArray) (value2 : Sl) (Q : K) (w : World) (h : store_Store_Put s0 key1 value2 Q w) : store_Store_Put.call s0 key1 value2 Q w := by
  exact g_walk 18 h Try.func38
def store_Default.b1 (Q : Int → K)  (X1 : Int → Int → K) (key0_1 : ByteArray) (regions1_1 : Int) (t10_1 : Int) (sum5_1 : Int) (t11_1 : Int) : K :=
  Ite (decide (t11_1 < t10_1))
    (IdxS key0_1 t11_1 fun t17 =>
    Ar (IntKind.wrap .i64 t17) fun t18 =>
    Ar (IntKind.wrap .i64 (sum5_1 + t18)) fun t19 =>
    Cd (regions1_1 ≠ 0) <|
    Ar (Int.tmod t19 regions1_1) fun t21 =>
    Ar (IntKind.wrap .i64 (t11_1 + 1)) fun t22 =>
    X1 t21 t22)
    (Q sum5_1)
def store_Default (key0 : ByteArray) (regions1 : Int) (Q : Int → K) : K :=
  Ite (decide (regions1 < 1))
    (Q 0)
    (LoopK (α := Int × Int) (fun X x => store_Default.b1 Q (fun sum5_1 t11_1 => X (sum5_1, t11_1)) key0 regions1 (key0.size : Int) x.1 x.2) (0, 0))
theorem store_Default_ok (key0 : ByteArray) (regions1 : Int) (Q : Int → K) (w : World) (h : store_Default key0 regions1 Q w) : store_Default.call key0 regions1 Q w := by
  have hL5 : ∀ (key0_1 : ByteArray) (regions1_1 : Int) (t10_1 : Int), LH 5 (fun x : Int × Int => [(0, (.string key0_1)), (1, (.int .i64 regions1_1)), (5, (.int .i64 x.1)), (10, (.int .i64 t10_1)), (11, (.int .i64 x.2))]) (fun X x => store_Default.b1 Q (fun sum5_1 t11_1 => X (sum5_1, t11_1)) key0_1 regions1_1 t10_1 x.1 x.2) := by intros; exact ⟨⟩
  exact g_walk 24 h Try.func55
def store_Store_set.s1 (Q : K)  (s0_1 : (Option Addr)) (key1_1 : ByteArray) (r5_1 : Addr) (t13_1 : Bool) : K :=
  Ite t13_1
    (Nn s0_1 fun t15 =>
    Ld (t15.add 1) Value.pointer fun t17 =>
    btree_Tree_string_api_Record_Delete.call t17 key1_1 fun t19x0 t19x1 =>
    Q)
    (Dr <|
    Nn s0_1 fun t21 =>
    Ld (t21.add 1) Value.pointer fun t23 =>
    LdN r5_1 4 fun t25 =>
    btree_Tree_string_api_Record_Put.call t23 key1_1 t25 fun t26x0 t26x1 =>
    Q)
def store_Store_set (s0 : (Option Addr)) (key1 : ByteArray) (r2 : (Array Value)) (Q : K) : K :=
  New 36 r2 fun r5 =>
  Ld r5 Value.bool fun t7 =>
  Ite (!t7)
    (Ld (r5.add 3) (Value.int .u64) fun t11 =>
    store_Store_set.s1 Q s0 key1 r5 (decide (t11 = 0)))
    (store_Store_set.s1 Q s0 key1 r5 false)
theorem store_Store_set_ok (s0 : (Option Addr)) (key1 : ByteArray) (r2 : (Array Value)) (Q : K) (w : World) (h : store_Store_set s0 key1 r2 Q w) : store_Store_set.call s0 key1 r2 Q w := by
  have hD3 : DH 3 1 [6] (.s [0, 1, 2, 4, 3, 5] (.a [(6, 0, .e)])) := by intros; exact ⟨⟩
  have hJ2 : JH 2 fun D => ∃ (s0_1 : (Option Addr)) (key1_1 : ByteArray) (r5_1 : Addr), D [(0, (.pointer s0_1)), (1, (.string key1_1)), (5, (.pointer (some r5_1)))] (fun C => ∀ (t13_1 : Bool), C [(0, (.pointer s0_1)), (1, (.string key1_1)), (5, (.pointer (some r5_1))), (13, (.bool t13_1))] (store_Store_set.s1 Q s0_1 key1_1 r5_1 t13_1)) := by intros; exact ⟨fun _ ⟨_, _, _, h⟩ => ⟨_, _, h⟩⟩
  exact g_walk 27 h Try.func57
def store_Store_Delete (s0 : (Option Addr)) (key1 : ByteArray) (Q : K) : K :=
  store_Store_Get.call s0 key1 fun t7 =>
  New 36 #[(.bool false), (Sl.val ⟨none, 0, 0⟩), (.int .i64 0), (.int .u64 0)] fun r4 =>
  StN r4 4 t7 <|
  St r4 (.bool false) <|
  St (r4.add 1) (Sl.val (Sl.mk none 0 0)) <|
  LdN r4 4 fun t12 =>
  store_Store_set.call s0 key1 t12 <|
  Q
theorem store_Store_Delete_ok (s0 : (Option Addr)) (key1 : ByteArray) (Q : K) (w : World) (h : store_Store_Delete s0 key1 Q w) : store_Store_Delete.call s0 key1 Q w := by
  exact g_walk 14 h Try.func102
end Go.Proofs.Ytfjjocopmknhgaa
/- The store: its records, and what its functions do to them. -/
namespace Go.Proofs.Ytfjjocopmknhgaa
open Go Go.Sep Go.Sep.Bt
set_option linter.unusedSimpArgs false
set_option linter.unusedVariables false
set_option maxRecDepth 100000

structure Rec where
  has : Bool
  val : List UInt8
  home : Int
  cnt : Int
def Rec.ok (r : Rec) : Prop := 0 ≤ r.cnt ∧ r.cnt ≤ 18446744073709551615 ∧ r.val.length ≤ 1000000000
abbrev recL (r : Rec) (s : Sl) : List Value := [.bool r.has, s.val, .int .i64 r.home, .int .u64 r.cnt]
abbrev recA (r : Rec) (s : Sl) : Array Value := #[.bool r.has, s.val, .int .i64 r.home, .int .u64 r.cnt]
abbrev recC (x : Rec × Sl) : Cel 4 := ⟨recL x.1 x.2, rfl, rfl⟩
abbrev Recs := List (ByteArray × Rec)
abbrev RecX := ByteArray × (Rec × Sl)
abbrev recB (x : RecX) : HProp := Bytes ty_uint8 x.2.2 x.2.1.val
abbrev recI (x : RecX) : btS.It := (x.1, recC x.2)
abbrev recM (x : RecX) : ByteArray × Rec := (x.1, x.2.1)
/-- The first home of a key. -/
def homeOf (k : List UInt8) (n : Nat) : Nat := k.foldl (fun s b => (s + b.toNat) % n) 0
def getM (M : Recs) (k : ByteArray) : Option Rec := (M.find? fun x => decide (x.1 = k)).map Prod.snd
def putM (M : Recs) (k : ByteArray) (r : Rec) : Recs := match M with
  | [] => [(k, r)]
  | x :: M => if cmpS x.1 k < 0 then x :: putM M k r else if x.1 = k then (k, r) :: M else (k, r) :: x :: M
def sGet (n : Nat) (M : Recs) (k : ByteArray) : Rec := (getM M k).getD ⟨false, [], homeOf k.toList n, 0⟩
def sMove (n : Nat) (M : Recs) (k : ByteArray) (h : Int) : Recs × Int :=
  if h < 0 ∨ (n : Int) ≤ h then (M, 1) else if (sGet n M k).cnt = 18446744073709551615 then (M, 111) else (putM M k { sGet n M k with home := h, cnt := (sGet n M k).cnt + 1 }, 0)
theorem getM_put (M : Recs) (k k' : ByteArray) (r : Rec) : getM (putM M k r) k' = if k' = k then some r else getM M k' := by
  induction M with
  | nil => by_cases h : k' = k <;> simp [putM, getM, h, eq_comm]
  | cons x M ih =>
    unfold putM
    split
    · rename_i h
      have hx : x.1 ≠ k := fun e => by rw [e] at h; have := cmpS_neg.1 h; exact List.lt_irrefl _ this
      by_cases h2 : k' = k
      · subst h2
        have := ih
        simp only [getM, List.find?_cons, if_true] at this ⊢
        rw [show decide (x.1 = k') = false by simpa using hx]
        simpa using this
      · simp only [if_neg h2] at ih ⊢
        by_cases h3 : x.1 = k'
        · simp [getM, List.find?_cons, h3]
        · simp only [getM, List.find?_cons, show decide (x.1 = k') = false by simpa using h3]
          simpa [getM] using ih
    · split
      · rename_i h h1
        by_cases h2 : k' = k
        · subst h2; simp [getM]
        · simp [getM, List.find?_cons, h2, Ne.symm h2, h1]
      · rename_i h h1
        by_cases h2 : k' = k
        · subst h2; simp [getM]
        · simp [getM, List.find?_cons, h2, Ne.symm h2]
theorem putM_len (M : Recs) (k : ByteArray) (r : Rec) : (putM M k r).length ≤ M.length + 1 := by
  induction M with
  | nil => simp [putM]
  | cons x M ih =>
    unfold putM
    split
    · simp; omega
    · split <;> simp
theorem putM_mem {M : Recs} {k : ByteArray} {r : Rec} {x : ByteArray × Rec} (h : x ∈ putM M k r) : x = (k, r) ∨ x ∈ M := by
  induction M with
  | nil => simpa [putM] using h
  | cons y M ih =>
    unfold putM at h
    split at h
    · rcases List.mem_cons.1 h with rfl | h
      · exact .inr List.mem_cons_self
      · rcases ih h with h | h
        · exact .inl h
        · exact .inr (List.mem_cons_of_mem _ h)
    · split at h
      · rcases List.mem_cons.1 h with rfl | h
        · exact .inl rfl
        · exact .inr (List.mem_cons_of_mem _ h)
      · rcases List.mem_cons.1 h with rfl | h
        · exact .inl rfl
        · exact .inr h
theorem sGet_put (n : Nat) (M : Recs) (k k' : ByteArray) (r : Rec) : sGet n (putM M k r) k' = if k' = k then r else sGet n M k' := by
  unfold sGet
  rw [getM_put]
  split <;> simp
theorem getM_mem {M : Recs} {k : ByteArray} {r : Rec} (h : getM M k = some r) : (k, r) ∈ M := by
  simp only [getM, Option.map_eq_some_iff] at h
  obtain ⟨x, hx, rfl⟩ := h
  have h1 := List.mem_of_find?_eq_some hx
  have h2 := List.find?_some hx
  simp only [decide_eq_true_eq] at h2
  rw [← h2]; exact h1
theorem getM_mid {A C : Recs} {k : ByteArray} {r : Rec} (hA : ∀ x ∈ A, x.1 ≠ k) : getM (A ++ (k, r) :: C) k = some r := by
  unfold getM
  rw [List.find?_append, List.find?_eq_none.2 (fun x hx => by simpa using hA x hx)]
  simp
theorem getM_none {M : Recs} {k : ByteArray} (h : ∀ x ∈ M, x.1 ≠ k) : getM M k = none := by
  unfold getM
  rw [List.find?_eq_none.2 (fun x hx => by simpa using h x hx)]; rfl
theorem putM_mid {A C : Recs} {k : ByteArray} {r0 r : Rec} (hA : ∀ x ∈ A, cmpS x.1 k < 0) : putM (A ++ (k, r0) :: C) k r = A ++ (k, r) :: C := by
  induction A with
  | nil =>
    have : ¬ cmpS k k < 0 := fun h => List.lt_irrefl _ (cmpS_neg.1 h)
    simp [putM, this]
  | cons x A ih =>
    rw [List.cons_append, putM, if_pos (hA x List.mem_cons_self), ih (fun y hy => hA y (List.mem_cons_of_mem _ hy))]; rfl
theorem putM_new {A C : Recs} {k : ByteArray} {r : Rec} (hA : ∀ x ∈ A, cmpS x.1 k < 0) (hC : ∀ x ∈ C, cmpS k x.1 < 0) : putM (A ++ C) k r = A ++ (k, r) :: C := by
  induction A with
  | nil =>
    cases C with
    | nil => rfl
    | cons y C =>
      have h := cmpS_neg.1 (hC y List.mem_cons_self)
      have h1 : ¬ cmpS y.1 k < 0 := fun h2 => List.lt_irrefl _ (List.lt_trans h (cmpS_neg.1 h2))
      have h2 : ¬ y.1 = k := fun e => by rw [e] at h; exact List.lt_irrefl _ h
      simp [putM, h1, h2]
  | cons x A ih =>
    rw [List.cons_append, putM, if_pos (hA x List.mem_cons_self), ih (fun y hy => hA y (List.mem_cons_of_mem _ hy))]; rfl

/-- A store of some regions. -/
def StoreR (st n : Nat) (M : Recs) : HProp := ex fun t => ex fun X : List RecX => Sep.stars [pur (M = X.map recM ∧ (∀ x ∈ M, x.2.ok) ∧ 1 ≤ n ∧ n ≤ 3), blk st (.cells [.int .i64 n, .pointer (some ⟨t, 0, none⟩)].toArray ty_store_Store (0, 0)), TreeR btS cmpS t (X.map recI), Sep.stars (X.map recB)]
section
variable {B : World} {Γ Δ : List HProp}
instance (priority := high) own_store {st n : Nat} {M : Recs} : Sep.Own st (StoreR st n M :: Γ) (StoreR st n M) Γ := ⟨.refl _⟩
theorem s_store {st n : Nat} {M : Recs} {k : K} (h : ∀ t (X : List RecX), M = X.map recM → (∀ x ∈ M, x.2.ok) → 1 ≤ n → n ≤ 3 → HG B (blk st (.cells [.int .i64 n, .pointer (some ⟨t, 0, none⟩)].toArray ty_store_Store (0, 0)) :: TreeR btS cmpS t (X.map recI) :: Sep.stars (X.map recB) :: Γ) k) : HG B (StoreR st n M :: Γ) k :=
  s_ex fun t => s_ex fun X => s_flat <| s_pur fun ⟨h1, h2, h3, h4⟩ => h t X h1 h2 h3 h4
theorem s_mkStore {st n t : Nat} {X : List RecX} {k : K} (h2 : ∀ x ∈ X.map recM, x.2.ok) (h3 : 1 ≤ n) (h4 : n ≤ 3) (h : HG B (StoreR st n (X.map recM) :: Γ) k) : HG B (blk st (.cells [.int .i64 n, .pointer (some ⟨t, 0, none⟩)].toArray ty_store_Store (0, 0)) :: TreeR btS cmpS t (X.map recI) :: Sep.stars (X.map recB) :: Γ) k := fun w hw => by
  refine h w ?_
  have h3 : Holds B (Sep.stars [pur (X.map recM = X.map recM ∧ (∀ x ∈ X.map recM, x.2.ok) ∧ 1 ≤ n ∧ n ≤ 3), blk st (.cells [.int .i64 n, .pointer (some ⟨t, 0, none⟩)].toArray ty_store_Store (0, 0)), TreeR btS cmpS t (X.map recI), Sep.stars (X.map recB)] :: Γ) w := Holds.flat.2 (Holds.pur.2 ⟨⟨rfl, h2, h3, h4⟩, hw⟩)
  exact h3.imp fun g hg => ⟨t, X, hg⟩

theorem Default_spec {k : ByteArray} {n : Nat} {q : Int → K} (h1 : 1 ≤ n) (hn : n ≤ 1000) (hk : k.size < 1000000000000) (h : HG B Γ (q (homeOf k.toList n : Nat))) : HG B Γ (store_Default.call k n q) := fun w hw => by
  refine store_Default_ok _ _ _ _ ?_
  refine hg hw ?_
  clear hw w
  unfold store_Default
  refine s_f ?_
  obtain ⟨l, rfl⟩ := bs_of k
  rw [bs_list] at h
  have hsz : (bs l).size = l.length := rfl
  refine s_loopC (fun x : Int × Int => ∃ i s : Nat, x = ((s : Int), (i : Int)) ∧ i ≤ l.length ∧ s = homeOf (l.take i) n ∧ s < n) (fun x => l.length - x.2.toNat) ⟨0, 0, rfl, Nat.zero_le _, rfl, by omega⟩ fun k' x hx hk' => ?_
  obtain ⟨i, s, rfl, hi, hs, hsn⟩ := hx
  unfold store_Default.b1
  dsimp only
  refine s_ite (fun hb => ?_) fun hb => ?_
  · have hil : i < l.length := by simp only [decide_eq_true_eq] at hb; omega
    refine fun w hw => ⟨(l[i].toNat : Int), l[i], by omega, ?_, rfl, hg hw ?_⟩
    · show (bs l)[((i : Nat) : Int).toNat]? = _
      rw [Int.toNat_natCast]
      exact Array.getElem?_eq_getElem (xs := l.toArray) (by simpa using hil)
    have hb8 : l[i].toNat < 256 := l[i].toNat_lt
    refine s_ai ?_
    refine s_ai ?_
    refine s_cd (by omega) ?_
    refine s_ar (e' := (((s + l[i].toNat) % n : Nat) : Int)) ?_ ?_
    · rw [Int.tmod_eq_emod_of_nonneg (by omega)]; simp
    refine s_ai ?_
    refine hk' _ ⟨i + 1, (s + l[i].toNat) % n, by simp, hil, ?_, Nat.mod_lt _ (by omega)⟩ (by simp only; omega)
    rw [hs, List.take_succ_eq_append_getElem hil, homeOf, homeOf, List.foldl_append]; rfl
  · have hil : i = l.length := by simp only [decide_eq_false_iff_not] at hb; omega
    rw [hil, List.take_length] at hs
    rw [hs]
    exact h

theorem bytesClone_hg {b : Sl} {xs : List UInt8} {q : Sl → K} (hr : ∀ w, Holds B Γ w → RdB w b xs) (hl : xs.length ≤ 1000000000) (hk : ∀ s, s.a.isNone = b.a.isNone → HG B (Bytes ty_uint8 s xs :: Γ) (q s)) : HG B Γ (bytes_Clone.call b q) := fun w hw =>
  bytes_Clone_spec hw hr hl fun s w h hs => hk s hs w h
theorem storeNew_spec {n : Nat} {q : Option Addr → Int → K} (h1 : 1 ≤ n) (h3 : n ≤ 3) (h : ∀ st, HG B (StoreR st n [] :: Γ) (q (some ⟨st, 0, none⟩) 0)) : HG B Γ (store_New.call n q) := fun w hw => by
  refine store_New_ok _ _ _ ?_
  refine hg hw ?_
  clear hw w
  unfold store_New
  refine s_f ?_
  unfold store_New.s1
  refine s_f ?_
  refine btNew_spec fun t => ?_
  show HG B (TreeR btS cmpS t (([] : List RecX).map recI) :: Γ) _
  refine s_new fun st => ?_
  refine fun w hw => ?_
  refine hg (show Holds B (Sep.stars (([] : List RecX).map recB) :: _) w from Holds.flat.2 hw) ?_
  refine s_end (Δ := blk st (.cells [.int .i64 n, .pointer (some ⟨t, 0, none⟩)].toArray ty_store_Store (0, 0)) :: TreeR btS cmpS t (([] : List RecX).map recI) :: Sep.stars (([] : List RecX).map recB) :: Γ) ?_
  exact s_mkStore (by simp) h1 h3 (h st)

theorem split_rec {X : List RecX} {A C : List btS.It} {k : ByteArray} {v : Cel btS.nv} (e : X.map recI = A ++ ((k, v) : btS.It) :: C) : ∃ XA r XC, X = XA ++ (k, r) :: XC ∧ A = XA.map recI ∧ C = XC.map recI ∧ v = recC r := by
  obtain ⟨XA, X2, rfl, rfl, h2⟩ := List.map_eq_append_iff.1 e
  obtain ⟨⟨k', r⟩, XC, rfl, h3, rfl⟩ := List.map_eq_cons_iff.1 h2
  simp only [recI, Prod.mk.injEq] at h3
  obtain ⟨rfl, rfl⟩ := h3
  exact ⟨XA, r, XC, rfl, rfl, rfl, rfl⟩
theorem split_app {X : List RecX} {A C : List btS.It} (e : X.map recI = A ++ C) : ∃ XA XC, X = XA ++ XC ∧ A = XA.map recI ∧ C = XC.map recI := by
  obtain ⟨XA, X2, rfl, rfl, rfl⟩ := List.map_eq_append_iff.1 e
  exact ⟨XA, X2, rfl, rfl, rfl⟩
theorem lt_of_srt {X Y : List RecX} {k : ByteArray} {r : Rec × Sl} (h : Srt cmpS ((X ++ (k, r) :: Y).map recI)) : ∀ x ∈ X, cmpS x.1 k < 0 := fun x hx => by
  rw [List.map_append] at h
  exact (List.pairwise_append.1 h).2.2 (recI x) (List.mem_map.2 ⟨x, hx, rfl⟩) (recI (k, r)) (by simp)
theorem ne_of_lt {a b : ByteArray} (h : cmpS a b < 0) : a ≠ b := fun e => by rw [e] at h; exact List.lt_irrefl _ (cmpS_neg.1 h)

theorem sGet1 {t4 r5 : Nat} {r : Rec} {s : Sl} {z : List Value} {q : Array Value → K} (hz : z.length = 4) (hzf : z.all flatV = true) (hr : ∀ w, Holds B Γ w → RdB w s r.val) (hl : r.val.length ≤ 1000000000) (h : ∀ s', s'.a.isNone = s.a.isNone → HG B (Bytes ty_uint8 s' r.val :: Γ) (q (recA r s'))) :
    HG B (blk r5 (.cells (recL r s).toArray ty_api_Record (0, 0)) :: blk t4 (.cells z.toArray ty_api_Record (0, 0)) :: Γ) (store_Store_Get.s1 q ⟨t4, 0, none⟩ ⟨r5, 0, none⟩) := by
  unfold store_Store_Get.s1
  refine s_ld (b := r5) (x := s) ?_
  refine bytesClone_hg (fun w hw => hr w hw.tail.tail) hl fun s' hs' => ?_
  refine s_st (b := r5) ?_
  refine s_ldN (b := r5) ?_
  refine s_stN (b := t4) ?_ hz rfl rfl
  refine s_ldN (b := t4) ?_
  exact s_end (h s' hs')
/-- Get. -/
theorem storeGet_spec {st n : Nat} {M : Recs} {k : ByteArray} {q : Array Value → K} (hk : k.size < 1000000000000) (h : ∀ s, (sGet n M k).ok → HG B (Bytes ty_uint8 s (sGet n M k).val :: StoreR st n M :: Γ) (q (recA (sGet n M k) s))) : HG B (StoreR st n M :: Γ) (store_Store_Get.call (some ⟨st, 0, none⟩) k q) := fun w hw => by
  refine store_Store_Get_ok _ _ _ _ ?_
  refine hg hw ?_
  clear hw w
  refine s_store fun t X hM hok h1 h3 => ?_
  unfold store_Store_Get
  refine s_new fun t4 => ?_
  refine s_nn ?_
  refine s_ld (b := st) (x := some ⟨t, 0, none⟩) ?_
  refine s_own t ?_
  refine tree_srt fun hs => ?_
  refine btGet_spec (fun A v C e => ?_) fun A C e hA hC => ?_
  · obtain ⟨XA, r, XC, rfl, rfl, rfl, rfl⟩ := split_rec e
    have hlt := lt_of_srt hs
    have hg' : getM M k = some r.1 := by
      rw [hM, List.map_append]
      exact getM_mid fun x hx => by
        obtain ⟨y, hy, rfl⟩ := List.mem_map.1 hx
        exact ne_of_lt (hlt y hy)
    have hr : sGet n M k = r.1 := by unfold sGet; rw [hg']; rfl
    have hrok : r.1.ok := hok (k, r.1) (getM_mem hg')
    rw [hr] at h
    refine s_new fun r5 => ?_
    refine s_stN (b := r5) (l' := recL r.1 r.2) ?_
    refine s_f ?_
    refine s_end (Δ := blk r5 (.cells (recL r.1 r.2).toArray ty_api_Record (0, 0)) :: blk t4 (.cells [.bool false, Sl.val ⟨none, 0, 0⟩, .int .i64 0, .int .u64 0].toArray ty_api_Record (0, 0)) :: blk st (.cells [.int .i64 n, .pointer (some ⟨t, 0, none⟩)].toArray ty_store_Store (0, 0)) :: TreeR btS cmpS t ((XA ++ (k, r) :: XC).map recI) :: Sep.stars ((XA ++ (k, r) :: XC).map recB) :: Γ) ?_
    refine sGet1 (r := r.1) rfl rfl (fun w hw => ?_) hrok.2.2 fun s' hs' => ?_
    · have h5 : Holds B (recB (k, r) :: _) w := (Holds.flat.1 (hw.tail.tail)).perm mid_perm |>.perm List.perm_middle
      exact h5.rdC List.mem_cons_self
    · rw [hM] at h
      refine s_end (Δ := blk st (.cells [.int .i64 n, .pointer (some ⟨t, 0, none⟩)].toArray ty_store_Store (0, 0)) :: TreeR btS cmpS t ((XA ++ (k, r) :: XC).map recI) :: Sep.stars ((XA ++ (k, r) :: XC).map recB) :: Bytes ty_uint8 s' r.1.val :: Γ) ?_
      refine s_mkStore (by rw [← hM]; exact hok) h1 h3 ?_
      exact s_end (h s' hrok)
  · obtain ⟨XA, XC, rfl, rfl, rfl⟩ := split_app e
    have hg' : getM M k = none := by
      rw [hM, List.map_append]
      refine getM_none fun x hx => ?_
      rcases List.mem_append.1 hx with hx | hx
      · obtain ⟨y, hy, rfl⟩ := List.mem_map.1 hx
        exact ne_of_lt (hA (recI y) (List.mem_map.2 ⟨y, hy, rfl⟩))
      · obtain ⟨y, hy, rfl⟩ := List.mem_map.1 hx
        exact Ne.symm (ne_of_lt (hC (recI y) (List.mem_map.2 ⟨y, hy, rfl⟩)))
    have hr : sGet n M k = ⟨false, [], homeOf k.toList n, 0⟩ := by unfold sGet; rw [hg']; rfl
    rw [hr] at h
    refine s_new fun r5 => ?_
    refine s_stN (b := r5) (l' := recL ⟨false, [], 0, 0⟩ ⟨none, 0, 0⟩) ?_
    refine s_t ?_
    refine s_ld (b := st) (x := (n : Int)) ?_
    refine Default_spec h1 (by omega) hk ?_
    refine s_st (b := r5) ?_
    refine s_end (Δ := blk r5 (.cells (recL ⟨false, [], homeOf k.toList n, 0⟩ ⟨none, 0, 0⟩).toArray ty_api_Record (0, 0)) :: blk t4 (.cells [.bool false, Sl.val ⟨none, 0, 0⟩, .int .i64 0, .int .u64 0].toArray ty_api_Record (0, 0)) :: blk st (.cells [.int .i64 n, .pointer (some ⟨t, 0, none⟩)].toArray ty_store_Store (0, 0)) :: TreeR btS cmpS t ((XA ++ XC).map recI) :: Sep.stars ((XA ++ XC).map recB) :: Γ) ?_
    refine sGet1 (r := ⟨false, [], homeOf k.toList n, 0⟩) rfl rfl (fun w hw => RdC.none') (by simp) fun s' hs' => ?_
    rw [hM] at h
    refine s_end (Δ := blk st (.cells [.int .i64 n, .pointer (some ⟨t, 0, none⟩)].toArray ty_store_Store (0, 0)) :: TreeR btS cmpS t ((XA ++ XC).map recI) :: Sep.stars ((XA ++ XC).map recB) :: Bytes ty_uint8 s' [] :: Γ) ?_
    refine s_mkStore (by rw [← hM]; exact hok) h1 h3 ?_
    exact s_end (h s' ⟨by simp, by simp, by simp⟩)

theorem srt_M {X : List RecX} (h : Srt cmpS (X.map recI)) : Srt cmpS (X.map recM) := by
  unfold Srt at h ⊢
  rw [List.pairwise_map] at h ⊢
  exact h
/-- What a store is told of a key. -/
theorem storePut_hg {st t n : Nat} {X : List RecX} {k : ByteArray} {r : Rec} {s : Sl} {q : Array Value → Bool → K} (hok : ∀ x ∈ X.map recM, x.2.ok) (hr : r.ok) (h1 : 1 ≤ n) (h3 : n ≤ 3) (hL : X.length < 1000000000)
    (h : ∀ a b, HG B (StoreR st n (putM (X.map recM) k r) :: Γ) (q a b)) :
    HG B (blk st (.cells [.int .i64 n, .pointer (some ⟨t, 0, none⟩)].toArray ty_store_Store (0, 0)) :: TreeR btS cmpS t (X.map recI) :: Sep.stars (X.map recB) :: Bytes ty_uint8 s r.val :: Γ) (btree_Tree_string_api_Record_Put.call (some ⟨t, 0, none⟩) k (recA r s) q) := by
  refine s_own t ?_
  refine tree_srt fun hs => ?_
  refine btPut_spec (v := recC (r, s)) (by simpa using hL) fun L' old had hp => ?_
  have hput : ∀ x ∈ putM (X.map recM) k r, x.2.ok := fun x hx => by
    rcases putM_mem hx with rfl | hx
    · exact hr
    · exact hok x hx
  rcases hp with ⟨A, C, e, rfl, rfl⟩ | ⟨A, C, e, hA, hC, rfl, rfl, rfl⟩
  · obtain ⟨XA, r0, XC, rfl, rfl, rfl, rfl⟩ := split_rec e
    have hlt := lt_of_srt hs
    have e2 : putM ((XA ++ (k, r0) :: XC).map recM) k r = (XA ++ (k, (r, s)) :: XC).map recM := by
      rw [List.map_append, List.map_cons]
      rw [show recM (k, r0) = (k, r0.1) from rfl, putM_mid (fun x hx => by
        obtain ⟨y, hy, rfl⟩ := List.mem_map.1 hx
        exact hlt y hy)]
      simp
    rw [e2] at h hput
    refine s_pick (Sep.stars ((XA ++ (k, r0) :: XC).map recB)) ?_
    refine s_mid ?_
    have e3 : XA.map recI ++ ((k, recC (r, s)) : btS.It) :: XC.map recI = (XA ++ (k, (r, s)) :: XC).map recI := by simp
    refine s_end (Δ := recB (k, (r, s)) :: Sep.stars ((XA ++ XC).map recB) :: blk st (.cells [.int .i64 n, .pointer (some ⟨t, 0, none⟩)].toArray ty_store_Store (0, 0)) :: TreeR btS cmpS t (XA.map recI ++ ((k, recC (r, s)) : btS.It) :: XC.map recI) :: Γ) ?_
    refine s_unmid ?_
    rw [e3]
    refine s_end (Δ := blk st (.cells [.int .i64 n, .pointer (some ⟨t, 0, none⟩)].toArray ty_store_Store (0, 0)) :: TreeR btS cmpS t ((XA ++ (k, (r, s)) :: XC).map recI) :: Sep.stars ((XA ++ (k, (r, s)) :: XC).map recB) :: Γ) ?_
    exact s_mkStore hput h1 h3 (h _ _)
  · obtain ⟨XA, XC, rfl, rfl, rfl⟩ := split_app e
    have e2 : putM ((XA ++ XC).map recM) k r = (XA ++ (k, (r, s)) :: XC).map recM := by
      rw [List.map_append, putM_new (fun x hx => by
        obtain ⟨y, hy, rfl⟩ := List.mem_map.1 hx
        exact hA (recI y) (List.mem_map.2 ⟨y, hy, rfl⟩)) (fun x hx => by
        obtain ⟨y, hy, rfl⟩ := List.mem_map.1 hx
        exact hC (recI y) (List.mem_map.2 ⟨y, hy, rfl⟩))]
      simp
    rw [e2] at h hput
    have e3 : XA.map recI ++ ((k, recC (r, s)) : btS.It) :: XC.map recI = (XA ++ (k, (r, s)) :: XC).map recI := by simp
    refine s_end (Δ := recB (k, (r, s)) :: Sep.stars ((XA ++ XC).map recB) :: blk st (.cells [.int .i64 n, .pointer (some ⟨t, 0, none⟩)].toArray ty_store_Store (0, 0)) :: TreeR btS cmpS t (XA.map recI ++ ((k, recC (r, s)) : btS.It) :: XC.map recI) :: Γ) ?_
    refine s_unmid ?_
    rw [e3]
    refine s_end (Δ := blk st (.cells [.int .i64 n, .pointer (some ⟨t, 0, none⟩)].toArray ty_store_Store (0, 0)) :: TreeR btS cmpS t ((XA ++ (k, (r, s)) :: XC).map recI) :: Sep.stars ((XA ++ (k, (r, s)) :: XC).map recB) :: Γ) ?_
    exact s_mkStore hput h1 h3 (h _ _)
theorem storeSet_spec {st n : Nat} {M : Recs} {k : ByteArray} {r : Rec} {s : Sl} {q : K} (hr : r.ok) (hne : r.has = true ∨ r.cnt ≠ 0) (hL : M.length < 1000000000) (h : HG B (StoreR st n (putM M k r) :: Γ) q) : HG B (StoreR st n M :: Bytes ty_uint8 s r.val :: Γ) (store_Store_set.call (some ⟨st, 0, none⟩) k (recA r s) q) := fun w hw => by
  refine store_Store_set_ok _ _ _ _ _ ?_
  refine hg hw ?_
  clear hw w
  refine s_store fun t X hM hok h1 h3 => ?_
  subst hM
  unfold store_Store_set
  refine s_new fun r5 => ?_
  refine s_ld (b := r5) (x := r.has) ?_
  have key : HG B (blk r5 (.cells (recL r s).toArray ty_api_Record (0, 0)) :: blk st (.cells [.int .i64 n, .pointer (some ⟨t, 0, none⟩)].toArray ty_store_Store (0, 0)) :: TreeR btS cmpS t (X.map recI) :: Sep.stars (X.map recB) :: Bytes ty_uint8 s r.val :: Γ) (store_Store_set.s1 q (some ⟨st, 0, none⟩) k ⟨r5, 0, none⟩ false) := by
    unfold store_Store_set.s1
    refine s_f ?_
    refine s_dr ?_
    refine s_nn ?_
    refine s_ld (b := st) (x := some ⟨t, 0, none⟩) ?_
    refine s_ldN (b := r5) ?_
    refine s_end (Δ := blk st (.cells [.int .i64 n, .pointer (some ⟨t, 0, none⟩)].toArray ty_store_Store (0, 0)) :: TreeR btS cmpS t (X.map recI) :: Sep.stars (X.map recB) :: Bytes ty_uint8 s r.val :: Γ) ?_
    exact storePut_hg hok hr h1 h3 (by simpa using hL) fun _ _ => h
  refine s_ite (fun hb => ?_) fun hb => key
  refine s_ld (b := r5) (x := r.cnt) ?_
  have hc : r.cnt ≠ 0 := hne.resolve_left (by simpa using hb)
  rw [show decide (r.cnt = 0) = false by simpa using hc]
  exact key
/-- Move. -/
theorem storeMove_spec {st n : Nat} {M : Recs} {k : ByteArray} {to : Int} {q : Int → K} (hk : k.size < 1000000000000) (hL : M.length < 1000000000) (h : HG B (StoreR st n (sMove n M k to).1 :: Γ) (q (sMove n M k to).2)) : HG B (StoreR st n M :: Γ) (store_Store_Move.call (some ⟨st, 0, none⟩) k to q) := fun w hw => by
  refine store_Store_Move_ok _ _ _ _ _ ?_
  refine hg hw ?_
  clear hw w
  unfold store_Store_Move
  refine storeGet_spec hk fun s hok => ?_
  generalize hR : sGet n M k = r at *
  refine s_new fun r7 => ?_
  refine s_stN (b := r7) (l' := recL r s) ?_
  have bad : to < 0 ∨ (n : Int) ≤ to → ∀ s0, HG B (blk r7 (.cells (recL r s).toArray ty_api_Record (0, 0)) :: Bytes ty_uint8 s r.val :: StoreR st n M :: Γ) (store_Store_Move.s1 q s0 k to ⟨r7, 0, none⟩ true) := fun hb s0 => by
    unfold store_Store_Move.s1
    refine s_t ?_
    have e : sMove n M k to = (M, 1) := by unfold sMove; rw [if_pos hb]
    rw [e] at h
    exact s_end h
  refine s_ite (fun hb => bad (.inl (by simpa using hb)) _) fun hb => ?_
  refine s_nn ?_
  refine s_own st ?_
  refine s_store fun t X hM hok2 h1 h3 => ?_
  refine s_ld (b := st) (x := (n : Int)) ?_
  subst hM
  refine s_mkStore hok2 h1 h3 ?_
  refine s_end (Δ := blk r7 (.cells (recL r s).toArray ty_api_Record (0, 0)) :: Bytes ty_uint8 s r.val :: StoreR st n (X.map recM) :: Γ) ?_
  by_cases hb2 : (n : Int) ≤ to
  · rw [show decide ((n : Int) ≤ to) = true by simpa using hb2]
    exact bad (.inr hb2) _
  rw [show decide ((n : Int) ≤ to) = false by simpa using hb2]
  have hnb : ¬ (to < 0 ∨ (n : Int) ≤ to) := by
    simp only [decide_eq_false_iff_not] at hb
    omega
  unfold store_Store_Move.s1
  refine s_f ?_
  refine s_ld (b := r7) (x := r.cnt) ?_
  refine s_ite (fun hc => ?_) fun hc => ?_
  · have e : sMove n (X.map recM) k to = (X.map recM, 111) := by unfold sMove; rw [if_neg hnb, hR, if_pos (by simpa using hc)]
    rw [e] at h
    exact s_end h
  have hc' : r.cnt ≠ 18446744073709551615 := by simpa using hc
  obtain ⟨o1, o2, o3⟩ := hok
  refine s_st (b := r7) ?_
  refine s_ld (b := r7) (x := r.cnt) ?_
  refine s_ar (wrapU64 (by omega) (by omega)) ?_
  refine s_st (b := r7) ?_
  refine s_ldN (b := r7) (l' := recL { r with home := to, cnt := r.cnt + 1 } s) ?_
  refine s_end (Δ := StoreR st n (X.map recM) :: Bytes ty_uint8 s r.val :: Γ) ?_
  refine storeSet_spec (r := { r with home := to, cnt := r.cnt + 1 }) ⟨by simp only; omega, by simp only; omega, o3⟩ (.inr (by simp only; omega)) hL ?_
  have e : sMove n (X.map recM) k to = (putM (X.map recM) k { r with home := to, cnt := r.cnt + 1 }, 0) := by unfold sMove; rw [if_neg hnb, hR, if_neg hc']
  rw [e] at h
  exact h
end
end Go.Proofs.Ytfjjocopmknhgaa
/- Maps: what a map of one's own does, as a list of keys and values. -/
namespace Go.Sep
open Go Go.RowKit Go.MapKept
set_option linter.unusedSimpArgs false
set_option linter.unusedVariables false
set_option linter.unusedSectionVars false

section
variable {α β : Type} [DecidableEq α]
def mget (k : α) : List (α × β) → Option β
  | [] => none
  | p :: m => if k = p.1 then some p.2 else mget k m
def mset (k : α) (v : β) : List (α × β) → List (α × β)
  | [] => [(k, v)]
  | p :: m => if k = p.1 then (k, v) :: m else p :: mset k v m
def mdel (k : α) : List (α × β) → List (α × β)
  | [] => []
  | p :: m => if k = p.1 then m else p :: mdel k m

theorem mfind (k : α) : ∀ m : List (α × β), (mget k m = none ∧ (∀ v, mset k v m = m ++ [(k, v)]) ∧ mdel k m = m ∧ ∀ p ∈ m, p.1 ≠ k) ∨
    ∃ j x, j < m.length ∧ m[j]? = some (k, x) ∧ (∀ i, i < j → ∀ p, m[i]? = some p → p.1 ≠ k) ∧ mget k m = some x ∧ (∀ v, mset k v m = m.set j (k, v)) ∧ mdel k m = m.eraseIdx j
  | [] => .inl ⟨rfl, fun _ => rfl, rfl, by simp⟩
  | p :: m => by
    by_cases hk : k = p.1
    · refine .inr ⟨0, p.2, by simp, by rw [hk]; rfl, fun i hi => by omega, by simp [mget, hk], fun v => by simp [mset, hk], by simp [mdel, hk]⟩
    · rcases mfind k m with ⟨h1, h2, h3, h4⟩ | ⟨j, x, hj, h0, hb, h1, h2, h3⟩
      · refine .inl ⟨by simp [mget, hk, h1], fun v => by simp [mset, hk, h2], by simp [mdel, hk, h3], fun q hq => ?_⟩
        rcases List.mem_cons.1 hq with rfl | hq
        · exact fun e => hk e.symm
        · exact h4 q hq
      · refine .inr ⟨j + 1, x, by simpa using hj, by simpa using h0, fun i hi q hq => ?_, by simp [mget, hk, h1], fun v => by simp [mset, hk, h2], by simp [mdel, hk, h3]⟩
        cases i with
        | zero => simp at hq; subst hq; exact fun e => hk e.symm
        | succ i => exact hb i (by omega) q (by simpa using hq)
end

/-- A way to write keys. -/
structure KeyE {α : Type} (d : TypeDesc) (enc : α → Value) : Prop where
  key : ∀ a, IsKey d (enc a)
  inj : ∀ a b, enc a = enc b → a = b
  bits : ∀ a, Instr.sameBits 10000 (enc a) (enc a) = true
theorem keyE_int (k : IntKind) : KeyE (.int k) (Value.int k) := ⟨fun _ => rfl, fun a b h => by injection h, fun a => by simp [Instr.sameBits]⟩
theorem keyE_string : KeyE .string Value.string := ⟨fun _ => trivial, fun a b h => by injection h, fun a => by
  show (a == a) = true
  rw [bytes_beq]⟩

section
variable {α β : Type} [DecidableEq α] {P : Program} {B w : World} {Γ : List HProp} {enc : α → Value} {cV : β → Value}

def mrel (enc : α → Value) (cV : β → Value) (es : Array MapEntry) (m : List (α × β)) : Prop := es.toList.map (fun e => (e.key, e.val)) = m.map fun p => (enc p.1, cV p.2)
/-- The entries' stamps are unlike, and below the clock. -/
def stamps (es : Array MapEntry) (c : Nat) : Prop := (es.toList.map (·.born)).Nodup ∧ ∀ e ∈ es.toList, e.born < c
theorem stamps_nil (c : Nat) : stamps #[] c := ⟨by simp, by simp⟩
theorem stamps_push {es : Array MapEntry} {c : Nat} (h : stamps es c) (k v : Value) : stamps (es.push { key := k, val := v, born := c }) (c + 1) := by
  refine ⟨?_, fun e he => ?_⟩
  · simp only [Array.toList_push, List.map_append, List.map_cons, List.map_nil]
    rw [List.nodup_append]
    refine ⟨h.1, by simp, fun x hx y hy => ?_⟩
    simp only [List.mem_singleton] at hy
    subst hy
    obtain ⟨e, he, rfl⟩ := List.mem_map.1 hx
    have := h.2 e he
    omega
  · simp only [Array.toList_push] at he
    rcases List.mem_append.1 he with he | he
    · have := h.2 e he; omega
    · simp only [List.mem_singleton] at he; subst he; exact Nat.lt_succ_self _
theorem stamps_modify {es : Array MapEntry} {c : Nat} (h : stamps es c) (j : Nat) (k v : Value) : stamps (es.modify j fun e => { e with key := k, val := v }) c := by
  have e1 : (es.modify j fun e => { e with key := k, val := v }).toList.map (·.born) = es.toList.map (·.born) := by
    apply List.ext_getElem?
    intro i
    simp only [List.getElem?_map, Array.getElem?_toList, Array.getElem?_modify]
    split
    · cases es[i]? <;> rfl
    · rfl
  refine ⟨by rw [e1]; exact h.1, fun e he => ?_⟩
  have : e.born ∈ es.toList.map (·.born) := by rw [← e1]; exact List.mem_map_of_mem he
  obtain ⟨e', he', hb⟩ := List.mem_map.1 this
  rw [← hb]; exact h.2 e' he'
theorem stamps_erase {es : Array MapEntry} {c : Nat} (h : stamps es c) (j : Nat) : stamps (es.eraseIdxIfInBounds j) c := by
  have hs : List.Sublist (es.eraseIdxIfInBounds j).toList es.toList := by
    unfold Array.eraseIdxIfInBounds
    split
    · rw [Array.toList_eraseIdx]; exact List.eraseIdx_sublist _ _
    · exact List.Sublist.refl _
  exact ⟨h.1.sublist (hs.map _), fun e he => h.2 e (hs.subset he)⟩
def MapR (enc : α → Value) (cV : β → Value) (b : Nat) (m : List (α × β)) : HProp := ex fun es : Array MapEntry => ex fun c : Nat => fun g => (mrel enc cV es m ∧ stamps es c) ∧ blk b (.map es c) g

theorem MapR.opens {b : Nat} {m : List (α × β)} (h : Holds B (MapR enc cV b m :: Γ) w) : ∃ es c, (mrel enc cV es m ∧ stamps es c) ∧ Holds B (blk b (.map es c) :: Γ) w := by
  obtain ⟨es, h⟩ := Holds.ex.1 h
  obtain ⟨c, h⟩ := Holds.ex.1 h
  exact ⟨es, c, h.fact fun g hg => hg.1, h.imp fun g hg => hg.2⟩
theorem MapR.shuts {b : Nat} {m : List (α × β)} {es : Array MapEntry} {c : Nat} (hr : mrel enc cV es m ∧ stamps es c) (h : Holds B (blk b (.map es c) :: Γ) w) : Holds B (MapR enc cV b m :: Γ) w :=
  Holds.ex.2 ⟨es, Holds.ex.2 ⟨c, h.imp fun g hg => ⟨hr, hg⟩⟩⟩

theorem mrel_at {es : Array MapEntry} {m : List (α × β)} (hr : mrel enc cV es m) (i : Nat) : (es.toList[i]?).map (fun e => (e.key, e.val)) = (m[i]?).map fun p => (enc p.1, cV p.2) := by
  have := congrArg (·[i]?) hr
  simpa using this
theorem mrel_keys {d : TypeDesc} (hE : KeyE d enc) {es : Array MapEntry} {m : List (α × β)} (hr : mrel enc cV es m) : ∀ x ∈ es.toList, IsKey d x.key := by
  intro x hx
  have : (x.key, x.val) ∈ m.map fun p => (enc p.1, cV p.2) := by rw [← hr]; exact List.mem_map_of_mem hx
  obtain ⟨p, _, hp⟩ := List.mem_map.1 this
  have : enc p.1 = x.key := congrArg Prod.fst hp
  rw [← this]; exact hE.key _

/-- Where a key is found. -/
theorem mfound {d : TypeDesc} (hE : KeyE d enc) {es : Array MapEntry} {m : List (α × β)} (hr : mrel enc cV es m) (k : α) :
    (Instr.findNow d (enc k) es.toList 0 = some none ∧ mget k m = none ∧ (∀ v, mset k v m = m ++ [(k, v)]) ∧ mdel k m = m) ∨
    ∃ j x, Instr.findNow d (enc k) es.toList 0 = some (some (j, cV x)) ∧ j < m.length ∧ m[j]? = some (k, x) ∧ mget k m = some x ∧ (∀ v, mset k v m = m.set j (k, v)) ∧ mdel k m = m.eraseIdx j := by
  have hlen : es.toList.length = m.length := by have := congrArg List.length hr; simpa using this
  rcases mfind k m with ⟨h1, h2, h3, h4⟩ | ⟨j, x, hj, h0, hb, h1, h2, h3⟩
  · refine .inl ⟨?_, h1, h2, h3⟩
    rcases findNow_spec (hE.key k) es.toList 0 (mrel_keys hE hr) with ⟨g1, _⟩ | ⟨i, e, g1, g2, g3⟩
    · exact g1
    · have := mrel_at hr i
      rw [g2] at this
      cases hm : m[i]? with
      | none => rw [hm] at this; simp at this
      | some p =>
        rw [hm] at this
        simp only [Option.map_some, Option.some.injEq, Prod.mk.injEq] at this
        exact absurd (hE.inj _ _ (this.1.symm.trans g3)) (h4 p (List.mem_of_getElem? hm))
  · have key : ∀ (l : List MapEntry) (m : List (α × β)) (j i : Nat), l.map (fun e => (e.key, e.val)) = m.map (fun p => (enc p.1, cV p.2)) → m[j]? = some (k, x) → (∀ i, i < j → ∀ p, m[i]? = some p → p.1 ≠ k) →
        Instr.findNow d (enc k) l i = some (some (i + j, cV x)) := by
      intro l
      induction l with
      | nil => intro m j i hr hm _; cases m <;> simp at hr hm
      | cons e l ih =>
        intro m j i hr hm hb
        cases m with
        | nil => simp at hr
        | cons p m =>
          simp only [List.map_cons, List.cons.injEq, Prod.mk.injEq] at hr
          obtain ⟨⟨e1, e2⟩, hr⟩ := hr
          obtain ⟨r, hs, hiff⟩ := sameNow_of_keys (hE.key k) (hE.key p.1)
          unfold Instr.findNow
          rw [e1, hs]
          cases j with
          | zero =>
            simp only [List.getElem?_cons_zero, Option.some.injEq] at hm
            subst hm
            have : r = true := hiff.2 rfl
            subst this
            simp only [e2, Nat.add_zero]
          | succ j =>
            have hne : p.1 ≠ k := hb 0 (by omega) p rfl
            have : r = false := by
              cases r with
              | false => rfl
              | true => exact absurd (hE.inj _ _ (hiff.1 rfl)) (fun e => hne e.symm)
            subst this
            simp only
            rw [ih m j (i + 1) hr (by simpa using hm) (fun i' hi' q hq => hb (i' + 1) (by omega) q (by simpa using hq))]
            congr 3; omega
    refine .inr ⟨j, x, ?_, hj, h0, h1, h2, h3⟩
    have := key es.toList m j 0 hr h0 hb
    rwa [Nat.zero_add] at this

/-- A map type, its key's kind and its element. -/
def mapIs (P : Program) (T : TypeId) (d : TypeDesc) (E : TypeId) : Prop := ∃ kt, P.underlying T = some (.map kt E) ∧ P.underlying kt = some d

theorem r_mkMap {T : TypeId} {d : TypeDesc} {E : TypeId} {k : Option Nat → K} (h : Holds B Γ w) (hk : ∀ b w, Holds B (MapR enc cV b [] :: Γ) w → k (some b) w) :
    Do P (Instr.makeMap T none) Value.map k w := by
  refine ⟨some w.heap.size, { w with heap := w.heap.push (.map #[] 0) }, rfl, hk _ _ (MapR.shuts (es := #[]) (c := 0) ⟨rfl, stamps_nil 0⟩ (h.alloc _))⟩

theorem run_look {T E : TypeId} {d : TypeDesc} {b : Nat} {m : List (α × β)} {z : β} {a : α} (hT : mapIs P T d E) (hE : KeyE d enc) (hz : zeroT P E (cV z)) {es : Array MapEntry} {c : Nat} (hb : w.heap[b]? = some (.map es c)) (hr : mrel enc cV es m) (ok : Bool) :
    (Instr.lookup T (.map (some b)) (enc a) ok).run P w = .ok (if ok then .tuple #[cV ((mget a m).getD z), .bool (mget a m).isSome] else cV ((mget a m).getD z)) w := by
  obtain ⟨kt, hT, hd⟩ := hT
  unfold Instr.lookup
  simp only [Sem.run_bind, run_underlying hT, Result.andThen, MapKept.run_getObj_map hb, run_checkKey hd (hE.key a), Sem.run_pure]
  rcases mfound hE hr a with ⟨h1, h2, _⟩ | ⟨j, x, h1, _, _, h2, _⟩
  · simp only [run_findKey hd h1, Result.andThen, Sem.run_bind, zeroT_spec hz, Sem.run_pure, h2]
    cases ok <;> rfl
  · simp only [run_findKey hd h1, Result.andThen, Sem.run_bind, Sem.run_pure, h2]
    cases ok <;> rfl

theorem r_look2 {T E : TypeId} {d : TypeDesc} {b : Nat} {m : List (α × β)} {z : β} {a : α} {k : β → Bool → K} (hT : mapIs P T d E) (hE : KeyE d enc) (hz : zeroT P E (cV z)) (h : Holds B (MapR enc cV b m :: Γ) w)
    (hk : k ((mget a m).getD z) (mget a m).isSome w) : Rd2 P (Instr.lookup T (.map (some b)) (enc a) true) (fun x y => .tuple #[cV x, .bool y]) k w := by
  obtain ⟨es, c, ⟨hr, hst⟩, h⟩ := MapR.opens h
  exact ⟨_, _, run_look hT hE hz h.block hr true, hk⟩
theorem r_look1 {T E : TypeId} {d : TypeDesc} {b : Nat} {m : List (α × β)} {z : β} {a : α} {k : β → K} (hT : mapIs P T d E) (hE : KeyE d enc) (hz : zeroT P E (cV z)) (h : Holds B (MapR enc cV b m :: Γ) w)
    (hk : k ((mget a m).getD z) w) : Rd P (Instr.lookup T (.map (some b)) (enc a) false) cV k w := by
  obtain ⟨es, c, ⟨hr, hst⟩, h⟩ := MapR.opens h
  exact ⟨_, run_look hT hE hz h.block hr false, hk⟩

theorem Holds.setMap {b : Nat} {es es' : Array MapEntry} {c c' : Nat} (h : Holds B (blk b (.map es c) :: Γ) w) : (setObj b (.map es' c')).run P w = .ok () { w with heap := w.heap.setIfInBounds b (.map es' c') } ∧
    Holds B (blk b (.map es' c') :: Γ) { w with heap := w.heap.setIfInBounds b (.map es' c') } :=
  ⟨run_setObj_map _ h.block, h.setBlock rfl⟩

theorem r_look2g {γ : Type} {cG : γ → Value} {g : β → γ} {T E : TypeId} {d : TypeDesc} {b : Nat} {m : List (α × β)} {z : β} {a : α} {k : γ → Bool → K} (hc : ∀ x, cV x = cG (g x)) (hT : mapIs P T d E) (hE : KeyE d enc) (hz : zeroT P E (cV z)) (h : Holds B (MapR enc cV b m :: Γ) w)
    (hk : k (g ((mget a m).getD z)) (mget a m).isSome w) : Rd2 P (Instr.lookup T (.map (some b)) (enc a) true) (fun x y => .tuple #[cG x, .bool y]) k w := by
  obtain ⟨es, c, ⟨hr, hst⟩, h⟩ := MapR.opens h
  have := run_look (a := a) hT hE hz h.block hr true
  exact ⟨g ((mget a m).getD z), _, by rw [hc] at this; exact this, hk⟩

theorem r_upd {T E : TypeId} {d : TypeDesc} {b : Nat} {m : List (α × β)} {a : α} {v : β} {k : K} (hT : mapIs P T d E) (hE : KeyE d enc) (h : Holds B (MapR enc cV b m :: Γ) w)
    (hk : ∀ w', Holds B (MapR enc cV b (mset a v m) :: Γ) w' → k w') : DoU P (Instr.mapUpdate T (.map (some b)) (enc a) (cV v)) k w := by
  obtain ⟨kt, hT, hd⟩ := hT
  obtain ⟨es, c, ⟨hr, hst⟩, h⟩ := MapR.opens h
  have hb := h.block
  have hlen : es.size = m.length := by have := congrArg List.length hr; simpa using this
  unfold Instr.mapUpdate DoU
  simp only [Sem.run_bind, run_underlying hT, Result.andThen, MapKept.run_getObj_map hb, run_checkKey hd (hE.key a)]
  rcases mfound hE hr a with ⟨h1, _, h2, _⟩ | ⟨j, x, h1, hj, h0, _, h2, _⟩
  · simp only [run_findKey hd h1, Result.andThen]
    obtain ⟨e1, h3⟩ := h.setMap (P := P) (es' := es.push { key := enc a, val := cV v, born := c }) (c' := c + 1)
    refine ⟨_, _, e1, hk _ (MapR.shuts ⟨?_, stamps_push hst _ _⟩ h3)⟩
    rw [h2]
    simp only [mrel, Array.toList_push, List.map_append, List.map_cons, List.map_nil]
    rw [show es.toList.map (fun e => (e.key, e.val)) = _ from hr]
  · have hes : ∃ e, es.toList[j]? = some e ∧ e.key = enc a := by
      have := mrel_at hr j
      rw [h0] at this
      cases he : es.toList[j]? with
      | none => rw [he] at this; simp at this
      | some e =>
        rw [he] at this
        simp only [Option.map_some, Option.some.injEq, Prod.mk.injEq] at this
        exact ⟨e, rfl, this.1⟩
    obtain ⟨e, he, hek⟩ := hes
    have he2 : es[j]? = some e := by rw [← he, Array.getElem?_toList]
    simp only [run_findKey hd h1, Result.andThen, Sem.run_bind, he2, Option.map_some, Option.getD_some, hek, Instr.keyThatStays, hE.bits, if_true, Sem.run_pure]
    obtain ⟨e1, h3⟩ := h.setMap (P := P) (es' := es.modify j fun e => { e with key := enc a, val := cV v }) (c' := c)
    refine ⟨_, _, e1, hk _ (MapR.shuts ⟨?_, stamps_modify hst _ _ _⟩ h3)⟩
    rw [h2]
    simp only [mrel]
    apply List.ext_getElem?
    intro i
    have hi := mrel_at hr i
    simp only [List.getElem?_map, Array.getElem?_toList, Array.getElem?_modify] at hi ⊢
    by_cases hij : j = i
    · subst hij
      rw [List.getElem?_set_self hj, he2]
      simp
    · rw [List.getElem?_set_ne hij, if_neg hij]
      exact hi

theorem r_mdelete {T KT E t : TypeId} {d : TypeDesc} {b : Nat} {m : List (α × β)} {a : α} {k : Value → K} (hT : mapIs P T d E) (hE : KeyE d enc) (h : Holds B (MapR enc cV b m :: Γ) w)
    (hk : ∀ w', Holds B (MapR enc cV b (mdel a m) :: Γ) w' → k (.tuple #[]) w') : Do P (Builtin.delete_ #[T, KT] t #[.map (some b), enc a]) id k w := by
  obtain ⟨kt, hT, hd⟩ := hT
  obtain ⟨es, c, ⟨hr, hst⟩, h⟩ := MapR.opens h
  have hb := h.block
  have hlen : es.size = m.length := by have := congrArg List.length hr; simpa using this
  have e0 : #[T, KT][0]? = some T := rfl
  have e1 : #[Value.map (some b), enc a][0]? = some (.map (some b)) := rfl
  have e2 : #[Value.map (some b), enc a][1]? = some (enc a) := rfl
  unfold Builtin.delete_ Do
  simp only [e0, e1, e2, Sem.run_bind, run_underlying hT, Result.andThen, MapKept.run_getObj_map hb, run_checkKey hd (hE.key a)]
  rcases mfound hE hr a with ⟨h1, _, _, h2⟩ | ⟨j, x, h1, hj, h0, _, _, h2⟩
  · simp only [run_findKey hd h1, Result.andThen, Sem.run_bind]
    obtain ⟨e3, h3⟩ := h.setMap (P := P) (es' := es) (c' := c)
    refine ⟨.tuple #[], _, ?_, hk _ (MapR.shuts ⟨?_, hst⟩ h3)⟩
    · simp only [Sem.run_bind, e3, Result.andThen, Sem.run_pure]; rfl
    rw [h2]; exact hr
  · simp only [run_findKey hd h1, Result.andThen, Sem.run_bind]
    obtain ⟨e3, h3⟩ := h.setMap (P := P) (es' := es.eraseIdxIfInBounds j) (c' := c)
    refine ⟨.tuple #[], _, ?_, hk _ (MapR.shuts ⟨?_, stamps_erase hst _⟩ h3)⟩
    · simp only [Sem.run_bind, e3, Result.andThen, Sem.run_pure]; rfl
    rw [h2]
    have hjs : j < es.size := by omega
    simp only [mrel, Array.eraseIdxIfInBounds, dif_pos hjs, Array.toList_eraseIdx]
    have mape : ∀ {α β : Type} (f : α → β) (l : List α) (i : Nat), (l.eraseIdx i).map f = (l.map f).eraseIdx i := by
      intro α β f l
      induction l with
      | nil => intro i; simp
      | cons x l ih => intro i; cases i <;> simp [ih]
    rw [mape, mape, show es.toList.map (fun e => (e.key, e.val)) = _ from hr]

theorem r_mclear {T t : TypeId} {d : TypeDesc} {E : TypeId} {b : Nat} {m : List (α × β)} {k : Value → K} (hT : mapIs P T d E) (h : Holds B (MapR enc cV b m :: Γ) w)
    (hk : ∀ w', Holds B (MapR enc cV b [] :: Γ) w' → k (.tuple #[]) w') : Do P (Builtin.clear_ #[T] t #[.map (some b)]) id k w := by
  obtain ⟨kt, hT, hd⟩ := hT
  obtain ⟨es, c, ⟨hr, hst⟩, h⟩ := MapR.opens h
  have hb := h.block
  have e0 : #[T][0]? = some T := rfl
  have e1 : #[Value.map (some b)][0]? = some (.map (some b)) := rfl
  unfold Builtin.clear_ Do
  simp only [e0, e1, Sem.run_bind, run_underlying hT, Result.andThen, MapKept.run_getObj_map hb]
  obtain ⟨e3, h3⟩ := h.setMap (P := P) (es' := #[]) (c' := c)
  exact ⟨.tuple #[], _, by simp only [Sem.run_bind, e3, Result.andThen, Sem.run_pure]; rfl, hk _ (MapR.shuts (es := #[]) (m := []) ⟨rfl, stamps_nil _⟩ h3)⟩
end
section
variable {α β γ : Type} [DecidableEq α]
theorem mget_map (g : β → γ) (k : α) : ∀ m : List (α × β), mget k (m.map fun p => (p.1, g p.2)) = (mget k m).map g
  | [] => rfl
  | p :: m => by
    simp only [List.map_cons, mget]
    split
    · rfl
    · exact mget_map g k m
theorem mdel_map (g : β → γ) (k : α) : ∀ m : List (α × β), mdel k (m.map fun p => (p.1, g p.2)) = (mdel k m).map fun p => (p.1, g p.2)
  | [] => rfl
  | p :: m => by
    simp only [List.map_cons, mdel]
    split
    · rfl
    · rw [List.map_cons, mdel_map g k m]
theorem mset_map (g : β → γ) (k : α) (v : β) : ∀ m : List (α × β), mset k (g v) (m.map fun p => (p.1, g p.2)) = (mset k v m).map fun p => (p.1, g p.2)
  | [] => rfl
  | p :: m => by
    simp only [List.map_cons, mset]
    split
    · rfl
    · rw [List.map_cons, mset_map g k v m]
theorem mset_none {k : α} {v : β} {m : List (α × β)} (h : mget k m = none) : mset k v m = m ++ [(k, v)] := by
  rcases mfind k m with ⟨_, h2, _⟩ | ⟨_, _, _, _, _, h1, _⟩
  · exact h2 v
  · rw [h] at h1; cases h1
theorem mdel_len {k : α} {m : List (α × β)} {x : β} (h : mget k m = some x) : (mdel k m).length + 1 = m.length := by
  rcases mfind k m with ⟨h1, _⟩ | ⟨j, _, hj, _, _, _, _, h2⟩
  · rw [h] at h1; cases h1
  · rw [h2, List.length_eraseIdx, if_pos hj]; omega
end
end Go.Sep
/- Maps of one's own, and lists of what is owned. Holds for every program. -/
namespace Go.Sep
open Go Go.RowKit
set_option linter.unusedSimpArgs false
set_option linter.unusedVariables false
section
variable {α β : Type} [DecidableEq α] {P : Program} {B w : World} {Γ Δ : List HProp} {enc : α → Value} {cV : β → Value} {k : K}
instance (priority := high) own_map {α β : Type} [DecidableEq α] {enc : α → Value} {cV : β → Value} {b : Nat} {m : List (α × β)} {Γ : List HProp} : Own b (MapR enc cV b m :: Γ) (MapR enc cV b m) Γ := ⟨.refl _⟩
theorem s_mkMap {T : TypeId} {k : Option Nat → K} (h : ∀ b, HG B (MapR enc cV b [] :: Γ) (k (some b))) : HG B Γ (Do P (Instr.makeMap T none) Value.map k) := fun w hw => by
  refine ⟨some w.heap.size, { w with heap := w.heap.push (.map #[] 0) }, rfl, h _ _ (MapR.shuts (es := #[]) (c := 0) ⟨rfl, stamps_nil 0⟩ (hw.alloc _))⟩
theorem s_look2 {γ : Type} {cG : γ → Value} {g : β → γ} {T E : TypeId} {d : TypeDesc} {b : Nat} {m : List (α × β)} {z : β} {a : α} {k : γ → Bool → K} (hc : ∀ x, cV x = cG (g x)) (hT : mapIs P T d E) (hE : KeyE d enc) (hz : zeroT P E (cV z)) (h : HG B Γ (k (g ((mget a m).getD z)) (mget a m).isSome)) [p : Own b Γ (MapR enc cV b m) Δ] :
    HG B Γ (Rd2 P (Instr.lookup T (.map (some b)) (enc a) true) (fun x y => .tuple #[cG x, .bool y]) k) := fun w hw => r_look2g hc hT hE hz (hw.perm p.perm) (h w hw)
theorem s_look1 {γ : Type} {cG : γ → Value} {g : β → γ} {T E : TypeId} {d : TypeDesc} {b : Nat} {m : List (α × β)} {z : β} {a : α} {k : γ → K} (hc : ∀ x, cV x = cG (g x)) (hT : mapIs P T d E) (hE : KeyE d enc) (hz : zeroT P E (cV z)) (h : HG B Γ (k (g ((mget a m).getD z)))) [p : Own b Γ (MapR enc cV b m) Δ] :
    HG B Γ (Rd P (Instr.lookup T (.map (some b)) (enc a) false) cG k) := fun w hw => by
  obtain ⟨x, hx, hk⟩ := r_look1 (P := P) (T := T) (a := a) (k := fun y w => y = (mget a m).getD z ∧ k (g y) w) hT hE hz (hw.perm p.perm) ⟨rfl, h w hw⟩
  obtain ⟨rfl, hk⟩ := hk
  exact ⟨_, by rw [hx, hc], hk⟩
theorem s_upd {γ : Type} {cG : γ → Value} {T E : TypeId} {d : TypeDesc} {b : Nat} {m : List (α × β)} {a : α} {v : β} {x : Value} (hx : x = cV v) (hT : mapIs P T d E) (hE : KeyE d enc) (h : HG B (MapR enc cV b (mset a v m) :: Δ) k) [p : Own b Γ (MapR enc cV b m) Δ] :
    HG B Γ (DoU P (Instr.mapUpdate T (.map (some b)) (enc a) x) k) := fun w hw => by subst hx; exact r_upd hT hE (hw.perm p.perm) fun w' h' => h w' h'
theorem s_mdelete {T KT E t : TypeId} {d : TypeDesc} {b : Nat} {m : List (α × β)} {a : α} {k : Value → K} (hT : mapIs P T d E) (hE : KeyE d enc) (h : HG B (MapR enc cV b (mdel a m) :: Δ) (k (.tuple #[]))) [p : Own b Γ (MapR enc cV b m) Δ] :
    HG B Γ (Do P (Builtin.delete_ #[T, KT] t #[.map (some b), enc a]) id k) := fun w hw => r_mdelete hT hE (hw.perm p.perm) fun w' h' => h w' h'
theorem s_bldF {zero : Array Value} {pl : Nat → Option (Nat × Nat)} {vs : List (Nat × Value)} {cs : List Value} {k : Array Value → K} (h : HG B Γ (k cs.toArray)) (hc : Instr.fill pl zero vs = some cs.toArray := by rfl) : HG B Γ (Bld zero pl vs k) := fun w hw => ⟨_, hc, h w hw⟩
/-- What is owned of each entry, when one is set. -/
theorem s_mset {F : α × β → HProp} {m : List (α × β)} {a : α} {v : β} (h : HG B (Sep.stars ((mset a v m).map F) :: Γ) k) : HG B (F (a, v) :: Sep.stars (m.map F) :: Γ) k := by
  rcases mfind a m with ⟨_, h2, _, _⟩ | ⟨j, x, hj, h0, _, _, h2, _⟩
  · rw [h2 v] at h
    have e : m = m ++ [] := by simp
    rw [e]
    exact s_unmid (A := m) (C := []) (x := (a, v)) h
  · rw [h2 v] at h
    have hj' := List.getElem?_eq_some_iff.1 h0
    have e1 : m = m.take j ++ (a, x) :: m.drop (j + 1) := by
      obtain ⟨h3, h4⟩ := hj'
      rw [← h4, ← List.drop_eq_getElem_cons h3, List.take_append_drop]
    have e2 : m.set j (a, v) = m.take j ++ (a, v) :: m.drop (j + 1) := by
      rw [List.set_eq_take_append_cons_drop, if_pos hj]
    rw [e2] at h
    rw [e1]
    refine s_swap ?_
    refine s_mid ?_
    refine s_end (Δ := F (a, v) :: Sep.stars ((m.take j ++ m.drop (j + 1)).map F) :: Γ) ?_
    exact s_unmid h
theorem mget_mset (m : List (α × β)) (a a' : α) (v : β) : mget a' (mset a v m) = if a' = a then some v else mget a' m := by
  induction m with
  | nil => simp [mset, mget]
  | cons p m ih =>
    unfold mset
    split
    · rename_i h
      subst h
      by_cases h2 : a' = p.1 <;> simp [mget, h2]
    · rename_i h
      by_cases h2 : a' = p.1
      · simp [mget, h2]
        intro h3; exact absurd h3.symm h
      · simp [mget, h2, ih]
theorem mset_keys (m : List (α × β)) (a : α) (v : β) : (mset a v m).map Prod.fst = if a ∈ m.map Prod.fst then m.map Prod.fst else m.map Prod.fst ++ [a] := by
  induction m with
  | nil => simp [mset]
  | cons p m ih =>
    unfold mset
    split
    · rename_i h; simp [h]
    · rename_i h
      simp only [List.map_cons, ih, List.mem_cons, h, false_or]
      split <;> simp
theorem mget_some {m : List (α × β)} {a : α} {v : β} (h : mget a m = some v) : (a, v) ∈ m := by
  induction m with
  | nil => cases h
  | cons p m ih =>
    unfold mget at h
    split at h
    · rename_i h1; injection h with h; subst h1; subst h; exact List.mem_cons_self
    · exact List.mem_cons_of_mem _ (ih h)
end
end Go.Sep
/- Transactions as they lie in memory. -/
namespace Go.Proofs.Ytfjjocopmknhgaa
open Go Go.Sep
set_option linter.unusedSimpArgs false
set_option linter.unusedVariables false

structure OpM where
  kind : Int
  key : List UInt8
  val : List UInt8
  n : Int
deriving DecidableEq
abbrev OpX := OpM × Sl
abbrev opF (x : OpX) : List Value := [.int .i64 x.1.kind, strV x.1.key, x.2.val, .int .i64 x.1.n]
theorem opF_len (x : OpX) : (opF x).length = 4 := rfl
structure TxX where
  kind : Int
  reads : List (List UInt8)
  writes : List (List UInt8)
  ops : List OpX
  to : Int
  rs : Sl
  ws : Sl
  os : Sl
abbrev txL (t : TxX) : List Value := [.int .i64 t.kind, t.rs.val, t.ws.val, t.os.val, .int .i64 t.to]
/-- A transaction's memory can be read. -/
def txRd (w : World) (t : TxX) : Prop := RdC w t.rs 1 (t.reads.map strV) ∧ RdC w t.ws 1 (t.writes.map strV) ∧ RdC w t.os 4 (t.ops.flatMap opF) ∧ ∀ x ∈ t.ops, RdB w x.2 x.1.val
end Go.Proofs.Ytfjjocopmknhgaa
/- The shelf contract of slices.Sort on strings, laid at this program. -/
namespace Go.Proofs.Ytfjjocopmknhgaa
open Go.Proofs Go.Shelf
def sortRen : Go.Shelf.Ren := ⟨fun | 6 => 94 | 8 => 113 | 9 => 112 | 19 => 132 | 20 => 133 | 21 => 123 | 22 => 124 | 23 => 125 | 24 => 126 | 25 => 127 | 26 => 128 | 27 => 129 | 28 => 130 | 29 => 131 | 36 => 139 | 31 => 140 | 32 => 141 | 37 => 142 | 38 => 143 | 39 => 115 | 41 => 146 | n => n, fun | 27 => 47 | 29 => 9 | 3 => 3 | 32 => 119 | 26 => 47 | 0 => 0 | 44 => 210 | 46 => 34 | 4 => 4 | 36 => 203 | 35 => 202 | 41 => 171 | 5 => 5 | 9 => 9 | 53 => 217 | 57 => 221 | 63 => 223 | 64 => 224 | n => n, fun | n => n⟩
theorem sortLay : Go.Proofs.SlLaysM.n6 Try.prog sortRen := {
  mixed := by kernel_rfl
  f6 := ⟨Try.f94.name, by decide, Try.func94.trans (congrArg some (by kernel_rfl))⟩
  f8 := Try.func113.trans (congrArg some (by kernel_rfl))
  f9 := ⟨Try.f112.name, by decide, Try.func112.trans (congrArg some (by kernel_rfl))⟩
  f19 := Try.func132.trans (congrArg some (by kernel_rfl))
  f20 := Try.func133.trans (congrArg some (by kernel_rfl))
  f21 := ⟨Try.f123.name, by decide, Try.func123.trans (congrArg some (by kernel_rfl))⟩
  f22 := ⟨Try.f124.name, by decide, Try.func124.trans (congrArg some (by kernel_rfl))⟩
  f23 := ⟨Try.f125.name, by decide, Try.func125.trans (congrArg some (by kernel_rfl))⟩
  f24 := ⟨Try.f126.name, by decide, Try.func126.trans (congrArg some (by kernel_rfl))⟩
  f25 := ⟨Try.f127.name, by decide, Try.func127.trans (congrArg some (by kernel_rfl))⟩
  f26 := ⟨Try.f128.name, by decide, Try.func128.trans (congrArg some (by kernel_rfl))⟩
  f27 := ⟨Try.f129.name, by decide, Try.func129.trans (congrArg some (by kernel_rfl))⟩
  f28 := ⟨Try.f130.name, by decide, Try.func130.trans (congrArg some (by kernel_rfl))⟩
  f29 := ⟨Try.f131.name, by decide, Try.func131.trans (congrArg some (by kernel_rfl))⟩
  f31 := Try.func140.trans (congrArg some (by kernel_rfl))
  f32 := Try.func141.trans (congrArg some (by kernel_rfl))
  f36 := ⟨Try.f139.name, by decide, Try.func139.trans (congrArg some (by kernel_rfl))⟩
  f37 := ⟨Try.f142.name, by decide, Try.func142.trans (congrArg some (by kernel_rfl))⟩
  f38 := ⟨Try.f143.name, by decide, Try.func143.trans (congrArg some (by kernel_rfl))⟩
  f39 := ⟨Try.f115.name, by decide, Try.func115.trans (congrArg some (by kernel_rfl))⟩
  f41 := ⟨Try.f146.name, by decide, Try.func146.trans (congrArg some (by kernel_rfl))⟩
  t0 := Try.underlying0
  a0 := Try.isAgg0
  z0 := Try.sizeOf0
  v0 := Try.zeroValue0
  t3 := Try.underlying3
  a3 := Try.isAgg3
  z3 := Try.sizeOf3
  v3 := Try.zeroValue3
  t4 := Try.underlying4
  a4 := Try.isAgg4
  z4 := Try.sizeOf4
  v4 := Try.zeroValue4
  t5 := Try.underlying5
  a5 := Try.isAgg5
  z5 := Try.sizeOf5
  v5 := Try.zeroValue5
  t9 := Try.underlying9
  a9 := Try.isAgg9
  z9 := Try.sizeOf9
  v9 := Try.zeroValue9
  t26 := Try.underlying47
  a26 := Try.isAgg47
  z26 := Try.sizeOf47
  v26 := Try.zeroValue47
  t27 := Try.underlying47
  a27 := Try.isAgg47
  z27 := Try.sizeOf47
  v27 := Try.zeroValue47
  t29 := Try.underlying9
  a29 := Try.isAgg9
  z29 := Try.sizeOf9
  v29 := Try.zeroValue9
  t32 := Try.underlying119
  a32 := Try.isAgg119
  z32 := Try.sizeOf119
  v32 := Try.zeroValue119
  t35 := Try.underlying202
  a35 := Try.isAgg202
  z35 := Try.sizeOf202
  v35 := Try.zeroValue202
  t36 := Try.underlying203
  a36 := Try.isAgg203
  z36 := Try.sizeOf203
  v36 := Try.zeroValue203
  t41 := Try.underlying171
  a41 := Try.isAgg171
  z41 := Try.sizeOf171
  v41 := Try.zeroValue171
  t44 := Try.underlying210
  a44 := Try.isAgg210
  z44 := Try.sizeOf210
  v44 := Try.zeroValue210
  t46 := Try.underlying34
  a46 := Try.isAgg34
  z46 := Try.sizeOf34
  v46 := Try.zeroValue34
  t53 := Try.underlying217
  a53 := Try.isAgg217
  z53 := Try.sizeOf217
  v53 := Try.zeroValue217
  t57 := Try.underlying221
  a57 := Try.isAgg221
  z57 := Try.sizeOf221
  v57 := Try.zeroValue221
  t63 := Try.underlying223
  a63 := Try.isAgg223
  z63 := Try.sizeOf223
  v63 := Try.zeroValue223
  t64 := Try.underlying224
  a64 := Try.isAgg224
  z64 := Try.sizeOf224
  v64 := Try.zeroValue224 }
end Go.Proofs.Ytfjjocopmknhgaa
/- Plain forms of functions, and that their code comes to them (package lib_slices). -/
namespace Go.Proofs.Ytfjjocopmknhgaa
open Go Go.Sep
set_option linter.unusedVariables false
set_option linter.unusedSimpArgs false
set_option maxRecDepth 100000
set_option maxHeartbeats 4000000
attribute [local irreducible] G Gp Cx Tx Ex Sx Dx Ox Ax Lx Rx Fx Bx Bj Al Do Ld LdN St StN New CallF Ar DoU Rd Rd2 Pu Cd Ite Fv CallV CallY Ans0 Ans1 Ans2 Ans3 Ans4 Ans5 Ext Dead Dr WithS Sv LdS LdNS RdS Rd2S Nn Idx IdxA IdxS Fld Bld Slc SlcS Cat All LoopK RangeF RangeJ TakeD
namespace F_IRLibSlices
instance at_151 : AT Try.prog 151 7 := ⟨by kernel_rfl⟩
instance at_58 : AT Try.prog 58 4 := ⟨by kernel_rfl⟩
instance cb_100 : CB Try.prog 100 := ⟨by kernel_rfl⟩
instance cb_104 : CB Try.prog 104 := ⟨by kernel_rfl⟩
instance cb_111 : CB Try.prog 111 := ⟨by kernel_rfl⟩
instance cb_112 : CB Try.prog 112 := ⟨by kernel_rfl⟩
instance cb_113 : CB Try.prog 113 := ⟨by kernel_rfl⟩
instance cb_114 : CB Try.prog 114 := ⟨by kernel_rfl⟩
instance cb_78 : CB Try.prog 78 := ⟨by kernel_rfl⟩
instance cb_79 : CB Try.prog 79 := ⟨by kernel_rfl⟩
instance cb_94 : CB Try.prog 94 := ⟨by kernel_rfl⟩
instance ct_47 : CT Try.prog 47 := ⟨by kernel_rfl⟩
instance ct_9 : CT Try.prog 9 := ⟨by kernel_rfl⟩
instance in_119 : INT Try.prog 119 .u64 := ⟨by kernel_rfl⟩
instance in_3 : INT Try.prog 3 .i64 := ⟨by kernel_rfl⟩
instance mx : MX Try.prog := ⟨mixed⟩
instance sl_101 : SLT Try.prog 101 58 4 := ⟨by kernel_rfl⟩
instance sl_149 : SLT Try.prog 149 151 7 := ⟨by kernel_rfl⟩
instance sl_47 : SLT Try.prog 47 9 1 := ⟨by kernel_rfl⟩
instance sl_48 : SLT Try.prog 48 84 4 := ⟨by kernel_rfl⟩
instance sl_93 : SLT Try.prog 93 47 1 := ⟨by kernel_rfl⟩
instance sz_151 : SZ Try.prog 151 7 := ⟨by kernel_rfl⟩
instance sz_47 : SZ Try.prog 47 1 := ⟨by kernel_rfl⟩
instance sz_9 : SZ Try.prog 9 1 := ⟨by kernel_rfl⟩
instance un_47 : UN Try.prog 47 (.slice 9) := ⟨Try.underlying47⟩
instance un_48 : UN Try.prog 48 (.slice 84) := ⟨Try.underlying48⟩
instance zt_151 : ZT Try.prog 151 (.agg #[(.int .i64 0), (.int .u64 0), (.int .u64 0), (.int .i64 0), (.string ⟨#[]⟩), (.int .i64 0), (.int .u64 0)]) := ⟨Try.t151, by kernel_rfl, by kernel_rfl⟩
instance zt_84 : ZT Try.prog 84 (.agg #[(.int .i64 0), (.string ⟨#[]⟩), (Sl.val ⟨none, 0, 0⟩), (.int .i64 0)]) := ⟨Try.t84, by kernel_rfl, by kernel_rfl⟩
instance zt_9 : ZT Try.prog 9 (.string ⟨#[]⟩) := ⟨Try.t9, by kernel_rfl, by kernel_rfl⟩
end F_IRLibSlices
def slices_Sorted_string (seq0 : Value) (Q : Sl → K) : K :=
  slices_Collect_string.call seq0 fun t5 =>
  slices_Sort_s_string_string.call t5 <|
  Q t5
theorem slices_Sorted_string_ok (seq0 : Value) (Q : Sl → K) (w : World) (h : slices_Sorted_string seq0 Q w) : slices_Sorted_string.call seq0 Q w := by
  exact g_walk 9 h Try.func70
def slices_ContainsFunc_s_locks_claim_locks_claim (s0 : Sl) (f1 : Value) (Q : Bool → K) : K :=
  slices_IndexFunc_s_locks_claim_locks_claim.call s0 f1 fun t7 =>
  Q (decide ((0 : Int) ≤ t7))
theorem slices_ContainsFunc_s_locks_claim_locks_claim_ok (s0 : Sl) (f1 : Value) (Q : Bool → K) (w : World) (h : slices_ContainsFunc_s_locks_claim_locks_claim s0 f1 Q w) : slices_ContainsFunc_s_locks_claim_locks_claim.call s0 f1 Q w := by
  exact g_walk 9 h Try.func76
def slices_IndexFunc_s_locks_claim_locks_claim.b1 (Q : Int → K)  (X1 : Int → K) (s0_1 : Sl) (f1_1 : Value) (t7_1 : Int) (t8_1 : Int) : K :=
  Ite (decide (t8_1 < t7_1))
    (Idx s0_1 t8_1 7 fun t14 =>
    LdN t14 7 fun t15 =>
    CallV Try.prog f1_1 [(.agg t15)] <| Ans1 (fun (t16 : Bool) => Value.bool t16) fun t16 =>
    Ite t16
      (Q t8_1)
      (Ar (IntKind.wrap .i64 (t8_1 + 1)) fun t18 =>
      X1 t18))
    (Q (-1))
def slices_IndexFunc_s_locks_claim_locks_claim (s0 : Sl) (f1 : Value) (Q : Int → K) : K :=
  LoopK (α := Int) (fun X x => slices_IndexFunc_s_locks_claim_locks_claim.b1 Q X s0 f1 (s0.n : Int) x) 0
theorem slices_IndexFunc_s_locks_claim_locks_claim_ok (s0 : Sl) (f1 : Value) (Q : Int → K) (w : World) (h : slices_IndexFunc_s_locks_claim_locks_claim s0 f1 Q w) : slices_IndexFunc_s_locks_claim_locks_claim.call s0 f1 Q w := by
  have hL2 : ∀ (s0_1 : Sl) (f1_1 : Value) (t7_1 : Int), LH 2 (fun x : Int => [(0, (Sl.val s0_1)), (1, f1_1), (7, (.int .i64 t7_1)), (8, (.int .i64 x))]) (fun X x => slices_IndexFunc_s_locks_claim_locks_claim.b1 Q X s0_1 f1_1 t7_1 x) := by intros; exact ⟨⟩
  exact g_walk 19 h Try.func78
def slices_Index_s_api_Tag_api_Tag.b1 (Q : Int → K)  (X1 : Int → K) (s0_1 : Sl) (v3_1 : Addr) (t7_1 : Int) (t8_1 : Int) : K :=
  Ite (decide (t8_1 < t7_1))
    (Dr <|
    LdN v3_1 4 fun t11 =>
    Idx s0_1 t8_1 4 fun t14 =>
    LdN t14 4 fun t15 =>
    Pu Try.prog (do eqGuard .eql 58 (.tmp 11) (.tmp 15) (.agg t11) (.agg t15); binOp .eql 58 (.agg t11) (.agg t15) : Sem Value) Value.bool fun t16 =>
    Ite t16
      (Q t8_1)
      (Ar (IntKind.wrap .i64 (t8_1 + 1)) fun t18 =>
      X1 t18))
    (Q (-1))
def slices_Index_s_api_Tag_api_Tag (s0 : Sl) (v1 : (Array Value)) (Q : Int → K) : K :=
  New 58 v1 fun v3 =>
  LoopK (α := Int) (fun X x => slices_Index_s_api_Tag_api_Tag.b1 Q X s0 v3 (s0.n : Int) x) 0
theorem slices_Index_s_api_Tag_api_Tag_ok (s0 : Sl) (v1 : (Array Value)) (Q : Int → K) (w : World) (h : slices_Index_s_api_Tag_api_Tag s0 v1 Q w) : slices_Index_s_api_Tag_api_Tag.call s0 v1 Q w := by
  have hL2 : ∀ (s0_1 : Sl) (v3_1 : Addr) (t7_1 : Int), LH 2 (fun x : Int => [(0, (Sl.val s0_1)), (3, (.pointer (some v3_1))), (7, (.int .i64 t7_1)), (8, (.int .i64 x))]) (fun X x => slices_Index_s_api_Tag_api_Tag.b1 Q X s0_1 v3_1 t7_1 x) := by intros; exact ⟨⟩
  exact g_walk 19 h Try.func79
def slices_Contains_s_api_Tag_api_Tag (s0 : Sl) (v1 : (Array Value)) (Q : Bool → K) : K :=
  New 58 v1 fun v3 =>
  LdN v3 4 fun t6 =>
  slices_Index_s_api_Tag_api_Tag.call s0 t6 fun t7 =>
  Q (decide ((0 : Int) ≤ t7))
theorem slices_Contains_s_api_Tag_api_Tag_ok (s0 : Sl) (v1 : (Array Value)) (Q : Bool → K) (w : World) (h : slices_Contains_s_api_Tag_api_Tag s0 v1 Q w) : slices_Contains_s_api_Tag_api_Tag.call s0 v1 Q w := by
  exact g_walk 9 h Try.func80
def slices_DeleteFunc_s_locks_claim_locks_claim.s2 (Q : Sl → K) (X1 : Int → Int → K) (s0_2 : Sl) (del1_2 : Value) (i5_2 : Int) (j6_2 : Int) : K :=
  Ar (IntKind.wrap .i64 (j6_2 + 1)) fun t21 =>
  X1 i5_2 t21
def slices_DeleteFunc_s_locks_claim_locks_claim.b1 (Q : Sl → K)  (X1 : Int → Int → K) (s0_1 : Sl) (del1_1 : Value) (i5_1 : Int) (j6_1 : Int) : K :=
  Ite (decide (j6_1 < (s0_1.n : Int)))
    (Idx s0_1 j6_1 7 fun t24 =>
    LdN t24 7 fun t25 =>
    New 151 #[(.int .i64 0), (.int .u64 0), (.int .u64 0), (.int .i64 0), (.string ⟨#[]⟩), (.int .i64 0), (.int .u64 0)] fun v7 =>
    StN v7 7 t25 <|
    LdN v7 7 fun t27 =>
    CallV Try.prog del1_1 [(.agg t27)] <| Ans1 (fun (t28 : Bool) => Value.bool t28) fun t28 =>
    Ite (!t28)
      (LdN v7 7 fun t32 =>
      Idx s0_1 i5_1 7 fun t33 =>
      StN t33 7 t32 <|
      Ar (IntKind.wrap .i64 (i5_1 + 1)) fun t35 =>
      slices_DeleteFunc_s_locks_claim_locks_claim.s2 Q X1 s0_1 del1_1 t35 j6_1)
      (slices_DeleteFunc_s_locks_claim_locks_claim.s2 Q X1 s0_1 del1_1 i5_1 j6_1))
    (Slc s0_1 i5_1 (s0_1.n : Int) (s0_1.c : Int) 7 fun t38 =>
    Do Try.prog (Builtin.clear_ #[149] 0 #[(Sl.val t38)]) id fun _ =>
    Slc s0_1 0 i5_1 (s0_1.c : Int) 7 fun t41 =>
    Q t41)
def slices_DeleteFunc_s_locks_claim_locks_claim (s0 : Sl) (del1 : Value) (Q : Sl → K) : K :=
  slices_IndexFunc_s_locks_claim_locks_claim.call s0 del1 fun t10 =>
  Ite (decide (t10 = (-1)))
    (Q s0)
    (Ar (IntKind.wrap .i64 (t10 + 1)) fun t15 =>
    LoopK (α := Int × Int) (fun X x => slices_DeleteFunc_s_locks_claim_locks_claim.b1 Q (fun i5_1 j6_1 => X (i5_1, j6_1)) s0 del1 x.1 x.2) (t10, t15))
theorem slices_DeleteFunc_s_locks_claim_locks_claim_ok (s0 : Sl) (del1 : Value) (Q : Sl → K) (w : World) (h : slices_DeleteFunc_s_locks_claim_locks_claim s0 del1 Q w) : slices_DeleteFunc_s_locks_claim_locks_claim.call s0 del1 Q w := by
  have hJ6 : ∀ (X1 : (Int × Int) → K), XH 5 X1 → JH 6 fun D => ∃ (s0_2 : Sl) (del1_2 : Value) (j6_2 : Int), D [(0, (Sl.val s0_2)), (1, del1_2), (6, (.int .i64 j6_2))] (fun C => ∀ (i5_2 : Int), C [(0, (Sl.val s0_2)), (1, del1_2), (5, (.int .i64 i5_2)), (6, (.int .i64 j6_2))] (slices_DeleteFunc_s_locks_claim_locks_claim.s2 Q (fun i5_1 j6_1 => X1 (i5_1, j6_1)) s0_2 del1_2 i5_2 j6_2)) := by intros; exact ⟨fun _ ⟨_, _, _, h⟩ => ⟨_, _, h⟩⟩
  have hL5 : ∀ (s0_1 : Sl) (del1_1 : Value), LH 5 (fun x : Int × Int => [(0, (Sl.val s0_1)), (1, del1_1), (5, (.int .i64 x.1)), (6, (.int .i64 x.2))]) (fun X x => slices_DeleteFunc_s_locks_claim_locks_claim.b1 Q (fun i5_1 j6_1 => X (i5_1, j6_1)) s0_1 del1_1 x.1 x.2) := by intros; exact ⟨⟩
  exact g_walk 42 h Try.func81
def slices_DeleteFunc_s_string_string.s2 (Q : Sl → K) (X1 : Int → Int → K) (s0_2 : Sl) (del1_2 : Value) (i5_2 : Int) (j6_2 : Int) : K :=
  Ar (IntKind.wrap .i64 (j6_2 + 1)) fun t21 =>
  X1 i5_2 t21
def slices_DeleteFunc_s_string_string.b1 (Q : Sl → K)  (X1 : Int → Int → K) (s0_1 : Sl) (del1_1 : Value) (i5_1 : Int) (j6_1 : Int) : K :=
  Ite (decide (j6_1 < (s0_1.n : Int)))
    (Idx s0_1 j6_1 1 fun t24 =>
    Ld t24 Value.string fun t25 =>
    CallV Try.prog del1_1 [(.string t25)] <| Ans1 (fun (t28 : Bool) => Value.bool t28) fun t28 =>
    Ite (!t28)
      (Idx s0_1 i5_1 1 fun t33 =>
      St t33 (.string t25) <|
      Ar (IntKind.wrap .i64 (i5_1 + 1)) fun t35 =>
      slices_DeleteFunc_s_string_string.s2 Q X1 s0_1 del1_1 t35 j6_1)
      (slices_DeleteFunc_s_string_string.s2 Q X1 s0_1 del1_1 i5_1 j6_1))
    (Slc s0_1 i5_1 (s0_1.n : Int) (s0_1.c : Int) 1 fun t38 =>
    Do Try.prog (Builtin.clear_ #[47] 0 #[(Sl.val t38)]) id fun _ =>
    Slc s0_1 0 i5_1 (s0_1.c : Int) 1 fun t41 =>
    Q t41)
def slices_DeleteFunc_s_string_string (s0 : Sl) (del1 : Value) (Q : Sl → K) : K :=
  slices_IndexFunc_s_string_string.call s0 del1 fun t10 =>
  Ite (decide (t10 = (-1)))
    (Q s0)
    (Ar (IntKind.wrap .i64 (t10 + 1)) fun t15 =>
    LoopK (α := Int × Int) (fun X x => slices_DeleteFunc_s_string_string.b1 Q (fun i5_1 j6_1 => X (i5_1, j6_1)) s0 del1 x.1 x.2) (t10, t15))
theorem slices_DeleteFunc_s_string_string_ok (s0 : Sl) (del1 : Value) (Q : Sl → K) (w : World) (h : slices_DeleteFunc_s_string_string s0 del1 Q w) : slices_DeleteFunc_s_string_string.call s0 del1 Q w := by
  have hJ6 : ∀ (X1 : (Int × Int) → K), XH 5 X1 → JH 6 fun D => ∃ (s0_2 : Sl) (del1_2 : Value) (j6_2 : Int), D [(0, (Sl.val s0_2)), (1, del1_2), (6, (.int .i64 j6_2))] (fun C => ∀ (i5_2 : Int), C [(0, (Sl.val s0_2)), (1, del1_2), (5, (.int .i64 i5_2)), (6, (.int .i64 j6_2))] (slices_DeleteFunc_s_string_string.s2 Q (fun i5_1 j6_1 => X1 (i5_1, j6_1)) s0_2 del1_2 i5_2 j6_2)) := by intros; exact ⟨fun _ ⟨_, _, _, h⟩ => ⟨_, _, h⟩⟩
  have hL5 : ∀ (s0_1 : Sl) (del1_1 : Value), LH 5 (fun x : Int × Int => [(0, (Sl.val s0_1)), (1, del1_1), (5, (.int .i64 x.1)), (6, (.int .i64 x.2))]) (fun X x => slices_DeleteFunc_s_string_string.b1 Q (fun i5_1 j6_1 => X (i5_1, j6_1)) s0_1 del1_1 x.1 x.2) := by intros; exact ⟨⟩
  exact g_walk 42 h Try.func82
def slices_Clone_s_string_string (s0 : Sl) (Q : Sl → K) : K :=
  Ite ((s0).a.isNone)
    (Q (Sl.mk none 0 0))
    (New 9 #[] fun t5 =>
    Do Try.prog (Builtin.append_ #[47, 47] 47 #[(Sl.val (Sl.mk (some t5) 0 0)), (Sl.val s0)]) Sl.val fun t7 =>
    Q t7)
theorem slices_Clone_s_string_string_ok (s0 : Sl) (Q : Sl → K) (w : World) (h : slices_Clone_s_string_string s0 Q w) : slices_Clone_s_string_string.call s0 Q w := by
  exact g_walk 8 h Try.func90
def slices_Clone_s_api_Op_api_Op (s0 : Sl) (Q : Sl → K) : K :=
  Ite ((s0).a.isNone)
    (Q (Sl.mk none 0 0))
    (New 84 #[] fun t5 =>
    Do Try.prog (Builtin.append_ #[48, 48] 48 #[(Sl.val (Sl.mk (some t5) 0 0)), (Sl.val s0)]) Sl.val fun t7 =>
    Q t7)
theorem slices_Clone_s_api_Op_api_Op_ok (s0 : Sl) (Q : Sl → K) (w : World) (h : slices_Clone_s_api_Op_api_Op s0 Q w) : slices_Clone_s_api_Op_api_Op.call s0 Q w := by
  exact g_walk 8 h Try.func91
def slices_Concat_s_string_string.s2 (Q : Sl → K) (X1 : Int → Int → K) (slices0_2 : Sl) (size3_2 : Int) (t9_2 : Sl) (t10_2 : Int) (t11_2 : Int) : K :=
  Ar (IntKind.wrap .i64 (t11_2 + 1)) fun t22 =>
  X1 size3_2 t22
def slices_Concat_s_string_string.b3 (Q : Sl → K) (X1 : Int → Int → K) (X3 : Sl → Int → K) (t25_3 : Sl) (t26_3 : Int) (newslice6_3 : Sl) (t27_3 : Int) : K :=
  Ite (decide (t27_3 < t26_3))
    (Idx t25_3 t27_3 1 fun t29 =>
    Ld t29 Sl.val fun t30 =>
    Do Try.prog (Builtin.append_ #[47, 47] 47 #[(Sl.val newslice6_3), (Sl.val t30)]) Sl.val fun t33 =>
    Ar (IntKind.wrap .i64 (t27_3 + 1)) fun t34 =>
    X3 t33 t34)
    (Q newslice6_3)
def slices_Concat_s_string_string.b1 (Q : Sl → K)  (X1 : Int → Int → K) (slices0_1 : Sl) (t9_1 : Sl) (t10_1 : Int) (size3_1 : Int) (t11_1 : Int) : K :=
  Ite (decide (t11_1 < t10_1))
    (Idx t9_1 t11_1 1 fun t13 =>
    Ld t13 Sl.val fun t14 =>
    Ar (IntKind.wrap .i64 (size3_1 + (t14.n : Int))) fun t18 =>
    Ite (decide (t18 < 0))
      (Rd Try.prog (Instr.makeInterface 9 (.string ⟨#[108, 101, 110, 32, 111, 117, 116, 32, 111, 102, 32, 114, 97, 110, 103, 101]⟩)) id fun t21 =>
      Dead)
      (slices_Concat_s_string_string.s2 Q X1 slices0_1 t18 t9_1 t10_1 t11_1))
    (slices_Grow_s_string_string.call (Sl.mk none 0 0) size3_1 fun t24 =>
    LoopK (α := Sl × Int) (fun X x => slices_Concat_s_string_string.b3 Q X1 (fun newslice6_3 t27_3 => X (newslice6_3, t27_3)) slices0_1 (slices0_1.n : Int) x.1 x.2) (t24, 0))
def slices_Concat_s_string_string (slices0 : Sl) (Q : Sl → K) : K :=
  LoopK (α := Int × Int) (fun X x => slices_Concat_s_string_string.b1 Q (fun size3_1 t11_1 => X (size3_1, t11_1)) slices0 slices0 (slices0.n : Int) x.1 x.2) (0, 0)
theorem slices_Concat_s_string_string_ok (slices0 : Sl) (Q : Sl → K) (w : World) (h : slices_Concat_s_string_string slices0 Q w) : slices_Concat_s_string_string.call slices0 Q w := by
  have hJ8 : ∀ (X1 : (Int × Int) → K), XH 3 X1 → JH 8 fun D => ∃ (slices0_2 : Sl) (t9_2 : Sl) (t10_2 : Int) (t11_2 : Int), D [(0, (Sl.val slices0_2)), (9, (Sl.val t9_2)), (10, (.int .i64 t10_2)), (11, (.int .i64 t11_2))] (fun C => ∀ (size3_2 : Int), C [(0, (Sl.val slices0_2)), (3, (.int .i64 size3_2)), (9, (Sl.val t9_2)), (10, (.int .i64 t10_2)), (11, (.int .i64 t11_2))] (slices_Concat_s_string_string.s2 Q (fun size3_1 t11_1 => X1 (size3_1, t11_1)) slices0_2 size3_2 t9_2 t10_2 t11_2)) := by intros; exact ⟨fun _ ⟨_, _, _, _, h⟩ => ⟨_, _, h⟩⟩
  have hL11 : ∀ (X1 : (Int × Int) → K), XH 3 X1 → ∀ (t25_3 : Sl) (t26_3 : Int), LH 11 (fun x : Sl × Int => [(6, (Sl.val x.1)), (25, (Sl.val t25_3)), (26, (.int .i64 t26_3)), (27, (.int .i64 x.2))]) (fun X x => slices_Concat_s_string_string.b3 Q (fun size3_1 t11_1 => X1 (size3_1, t11_1)) (fun newslice6_3 t27_3 => X (newslice6_3, t27_3)) t25_3 t26_3 x.1 x.2) := by intros; exact ⟨⟩
  have hL3 : ∀ (slices0_1 : Sl) (t9_1 : Sl) (t10_1 : Int), LH 3 (fun x : Int × Int => [(0, (Sl.val slices0_1)), (3, (.int .i64 x.1)), (9, (Sl.val t9_1)), (10, (.int .i64 t10_1)), (11, (.int .i64 x.2))]) (fun X x => slices_Concat_s_string_string.b1 Q (fun size3_1 t11_1 => X (size3_1, t11_1)) slices0_1 t9_1 t10_1 x.1 x.2) := by intros; exact ⟨⟩
  exact g_walk 36 h Try.func93
def slices_Sort_s_string_string (x0 : Sl) (Q : K) : K :=
  Ar (IntKind.wrap .u64 (x0.n : Int)) fun t8 =>
  math_bits_Len.call t8 fun t9 =>
  slices_pdqsortOrdered_string.call x0 0 (x0.n : Int) t9 <|
  Q
theorem slices_Sort_s_string_string_ok (x0 : Sl) (Q : K) (w : World) (h : slices_Sort_s_string_string x0 Q w) : slices_Sort_s_string_string.call x0 Q w := by
  exact g_walk 11 h Try.func94
def slices_Compact_s_string_string.s3 (Q : Sl → K) (X1 : Int → K) (X2 : Int → Int → K) (s0_3 : Sl) (k3_3 : Int) (s4_3 : Sl) (k5_3 : Int) : K :=
  Ar (IntKind.wrap .i64 (k5_3 + 1)) fun t34 =>
  X2 k3_3 t34
def slices_Compact_s_string_string.b2 (Q : Sl → K) (X1 : Int → K) (X2 : Int → Int → K) (s0_2 : Sl) (s4_2 : Sl) (k3_2 : Int) (k5_2 : Int) : K :=
  Ite (decide (k5_2 < (s4_2.n : Int)))
    (Dr <|
    Idx s4_2 k5_2 1 fun t37 =>
    Ld t37 Value.string fun t38 =>
    Ar (IntKind.wrap .i64 (k5_2 - 1)) fun t41 =>
    Idx s4_2 t41 1 fun t42 =>
    Ld t42 Value.string fun t43 =>
    Ite (!(t38.toList == t43.toList))
      (Idx s4_2 k5_2 1 fun t49 =>
      Ld t49 Value.string fun t50 =>
      Idx s0_2 k3_2 1 fun t51 =>
      St t51 (.string t50) <|
      Ar (IntKind.wrap .i64 (k3_2 + 1)) fun t53 =>
      slices_Compact_s_string_string.s3 Q X1 X2 s0_2 t53 s4_2 k5_2)
      (slices_Compact_s_string_string.s3 Q X1 X2 s0_2 k3_2 s4_2 k5_2))
    (Slc s0_2 k3_2 (s0_2.n : Int) (s0_2.c : Int) 1 fun t56 =>
    Do Try.prog (Builtin.clear_ #[47] 0 #[(Sl.val t56)]) id fun _ =>
    Slc s0_2 0 k3_2 (s0_2.c : Int) 1 fun t59 =>
    Q t59)
def slices_Compact_s_string_string.b1 (Q : Sl → K)  (X1 : Int → K) (s0_1 : Sl) (k3_1 : Int) : K :=
  Ite (decide (k3_1 < (s0_1.n : Int)))
    (Dr <|
    Idx s0_1 k3_1 1 fun t18 =>
    Ld t18 Value.string fun t19 =>
    Ar (IntKind.wrap .i64 (k3_1 - 1)) fun t22 =>
    Idx s0_1 t22 1 fun t23 =>
    Ld t23 Value.string fun t24 =>
    Ite (t19.toList == t24.toList)
      (Slc s0_1 k3_1 (s0_1.n : Int) (s0_1.c : Int) 1 fun t28 =>
      LoopK (α := Int × Int) (fun X x => slices_Compact_s_string_string.b2 Q X1 (fun k3_2 k5_2 => X (k3_2, k5_2)) s0_1 t28 x.1 x.2) (k3_1, 1))
      (Ar (IntKind.wrap .i64 (k3_1 + 1)) fun t15 =>
      X1 t15))
    (Q s0_1)
def slices_Compact_s_string_string (s0 : Sl) (Q : Sl → K) : K :=
  Ite (decide ((s0.n : Int) < 2))
    (Q s0)
    (LoopK (α := Int) (fun X x => slices_Compact_s_string_string.b1 Q X s0 x) 1)
theorem slices_Compact_s_string_string_ok (s0 : Sl) (Q : Sl → K) (w : World) (h : slices_Compact_s_string_string s0 Q w) : slices_Compact_s_string_string.call s0 Q w := by
  have hJ10 : ∀ (X1 : Int → K), XH 4 X1 → ∀ (X2 : (Int × Int) → K), XH 9 X2 → JH 10 fun D => ∃ (s0_3 : Sl) (s4_3 : Sl) (k5_3 : Int), D [(0, (Sl.val s0_3)), (4, (Sl.val s4_3)), (5, (.int .i64 k5_3))] (fun C => ∀ (k3_3 : Int), C [(0, (Sl.val s0_3)), (3, (.int .i64 k3_3)), (4, (Sl.val s4_3)), (5, (.int .i64 k5_3))] (slices_Compact_s_string_string.s3 Q X1 (fun k3_2 k5_2 => X2 (k3_2, k5_2)) s0_3 k3_3 s4_3 k5_3)) := by intros; exact ⟨fun _ ⟨_, _, _, h⟩ => ⟨_, _, h⟩⟩
  have hL9 : ∀ (X1 : Int → K), XH 4 X1 → ∀ (s0_2 : Sl) (s4_2 : Sl), LH 9 (fun x : Int × Int => [(0, (Sl.val s0_2)), (3, (.int .i64 x.1)), (4, (Sl.val s4_2)), (5, (.int .i64 x.2))]) (fun X x => slices_Compact_s_string_string.b2 Q X1 (fun k3_2 k5_2 => X (k3_2, k5_2)) s0_2 s4_2 x.1 x.2) := by intros; exact ⟨⟩
  have hL4 : ∀ (s0_1 : Sl), LH 4 (fun x : Int => [(0, (Sl.val s0_1)), (3, (.int .i64 x))]) (fun X x => slices_Compact_s_string_string.b1 Q X s0_1 x) := by intros; exact ⟨⟩
  exact g_walk 61 h Try.func95
def slices_Collect_string (seq0 : Value) (Q : Sl → K) : K :=
  slices_AppendSeq_s_string_string.call (Sl.mk none 0 0) seq0 fun t4 =>
  Q t4
theorem slices_Collect_string_ok (seq0 : Value) (Q : Sl → K) (w : World) (h : slices_Collect_string seq0 Q w) : slices_Collect_string.call seq0 Q w := by
  exact g_walk 5 h Try.func100
def slices_IndexFunc_s_string_string.b1 (Q : Int → K)  (X1 : Int → K) (s0_1 : Sl) (f1_1 : Value) (t7_1 : Int) (t8_1 : Int) : K :=
  Ite (decide (t8_1 < t7_1))
    (Idx s0_1 t8_1 1 fun t14 =>
    Ld t14 Value.string fun t15 =>
    CallV Try.prog f1_1 [(.string t15)] <| Ans1 (fun (t16 : Bool) => Value.bool t16) fun t16 =>
    Ite t16
      (Q t8_1)
      (Ar (IntKind.wrap .i64 (t8_1 + 1)) fun t18 =>
      X1 t18))
    (Q (-1))
def slices_IndexFunc_s_string_string (s0 : Sl) (f1 : Value) (Q : Int → K) : K :=
  LoopK (α := Int) (fun X x => slices_IndexFunc_s_string_string.b1 Q X s0 f1 (s0.n : Int) x) 0
theorem slices_IndexFunc_s_string_string_ok (s0 : Sl) (f1 : Value) (Q : Int → K) (w : World) (h : slices_IndexFunc_s_string_string s0 f1 Q w) : slices_IndexFunc_s_string_string.call s0 f1 Q w := by
  have hL2 : ∀ (s0_1 : Sl) (f1_1 : Value) (t7_1 : Int), LH 2 (fun x : Int => [(0, (Sl.val s0_1)), (1, f1_1), (7, (.int .i64 t7_1)), (8, (.int .i64 x))]) (fun X x => slices_IndexFunc_s_string_string.b1 Q X s0_1 f1_1 t7_1 x) := by intros; exact ⟨⟩
  exact g_walk 19 h Try.func104
def slices_Grow_s_string_string.s2 (Q : Sl → K)  (s0_2 : Sl) : K :=
  Q s0_2
def slices_Grow_s_string_string.s1 (Q : Sl → K)  (s0_1 : Sl) (n1_1 : Int) : K :=
  Do Try.prog (Builtin.cap_ #[47] 3 #[(Sl.val s0_1)]) (Value.int .i64) fun t10 =>
  Ar (IntKind.wrap .i64 (t10 - (s0_1.n : Int))) fun t13 =>
  Ar (IntKind.wrap .i64 (n1_1 - t13)) fun t14 =>
  Ite (decide ((0 : Int) < t14))
    (Do Try.prog (Builtin.cap_ #[47] 3 #[(Sl.val s0_1)]) (Value.int .i64) fun t19 =>
    Slc s0_1 0 t19 (s0_1.c : Int) 1 fun t20 =>
    Do Try.prog (Builtin.append_ #[47, 3] 47 #[(Sl.val t20), (.int .i64 t14)]) Sl.val fun t22 =>
    Slc t22 0 (s0_1.n : Int) (t22.c : Int) 1 fun t25 =>
    slices_Grow_s_string_string.s2 Q t25)
    (slices_Grow_s_string_string.s2 Q s0_1)
def slices_Grow_s_string_string (s0 : Sl) (n1 : Int) (Q : Sl → K) : K :=
  Ite (decide (n1 < 0))
    (Rd Try.prog (Instr.makeInterface 9 (.string ⟨#[99, 97, 110, 110, 111, 116, 32, 98, 101, 32, 110, 101, 103, 97, 116, 105, 118, 101]⟩)) id fun t7 =>
    Dead)
    (slices_Grow_s_string_string.s1 Q s0 n1)
theorem slices_Grow_s_string_string_ok (s0 : Sl) (n1 : Int) (Q : Sl → K) (w : World) (h : slices_Grow_s_string_string s0 n1 Q w) : slices_Grow_s_string_string.call s0 n1 Q w := by
  have hJ6 : JH 6 fun D => D [] (fun C => ∀ (s0_2 : Sl), C [(0, (Sl.val s0_2))] (slices_Grow_s_string_string.s2 Q s0_2)) := by intros; exact ⟨fun _ h => ⟨_, _, h⟩⟩
  have hJ3 : JH 3 fun D => ∃ (s0_1 : Sl) (n1_1 : Int), D [(0, (Sl.val s0_1)), (1, (.int .i64 n1_1))] (fun C => C [(0, (Sl.val s0_1)), (1, (.int .i64 n1_1))] (slices_Grow_s_string_string.s1 Q s0_1 n1_1)) := by intros; exact ⟨fun _ ⟨_, _, h⟩ => ⟨_, _, h⟩⟩
  exact g_walk 27 h Try.func111
def slices_AppendSeq_s_string_string (s0 : Sl) (seq1 : Value) (Q : Sl → K) : K :=
  New 47 #[(Sl.val s0)] fun s2 =>
  RangeF Try.prog seq1 Value.string (fun KN1 x7 =>
    Ld s2 Sl.val fun t8 =>
    New 9 #[(.string x7)] fun t10 =>
    Do Try.prog (Builtin.append_ #[47, 47] 47 #[(Sl.val t8), (Sl.val (Sl.mk (some t10) 1 1))]) Sl.val fun t11 =>
    St s2 (Sl.val t11) <|
    KN1)
  fun D1 =>
  Ld s2 Sl.val fun t12 =>
  TakeD D1 <|
  Q t12
theorem slices_AppendSeq_s_string_string_ok (s0 : Sl) (seq1 : Value) (Q : Sl → K) (w : World) (h : slices_AppendSeq_s_string_string s0 seq1 Q w) : slices_AppendSeq_s_string_string.call s0 seq1 Q w := by
  exact g_walk 13 h Try.func114
end Go.Proofs.Ytfjjocopmknhgaa
/- slices.Sort of strings, by the shelf's contract; slices.Sorted of a map's keys. -/
namespace Go.Proofs.Ytfjjocopmknhgaa
open Go Go.Sep
set_option linter.unusedSimpArgs false
set_option linter.unusedVariables false
set_option maxRecDepth 100000

abbrev sortL (ss : List (List UInt8)) : List (List UInt8) := ss.mergeSort fun x y => decide (x ≤ y)
section
variable {B w : World} {Γ : List HProp}
theorem holds_grow (h : Holds B Γ w) (os : Array Obj) : Holds B Γ (Sort.grow w os) := by
  obtain ⟨l⟩ := os
  induction l generalizing w with
  | nil => simpa [Sort.grow] using h
  | cons o l ih =>
    have h1 := ih (h.alloc o).tail
    have e : Sort.grow { w with heap := w.heap.push o } ⟨l⟩ = Sort.grow w ⟨o :: l⟩ := by
      have e2 : w.heap.push o ++ (⟨l⟩ : Array Obj) = w.heap ++ (⟨o :: l⟩ : Array Obj) := by
        apply Array.ext'
        rw [Array.toList_append, Array.toList_append, Array.toList_push, List.append_assoc]
        rfl
      unfold Sort.grow
      rw [← e2]
    rw [e] at h1
    exact h1
theorem slices_Sort_spec {s : Sl} {ss : List (List UInt8)} {k : K} (hl : ss.length ≤ 1000000) (h : Holds B (SlC ty_string 1 s (ss.map strV) :: Γ) w) (hk : ∀ w, Holds B (SlC ty_string 1 s ((sortL ss).map strV) :: Γ) w → k w) : slices_Sort_s_string_string.call s k w := by
  have hsc := h.slCap
  have hn : ss.length = s.n := by have := hsc.1; simpa using this
  unfold slices_Sort_s_string_string.call CallF
  cases ha : s.a with
  | none =>
    have hs0 : s.n = 0 := by have := hsc.2.2.2 ha; omega
    have hss : ss = [] := List.length_eq_zero_iff.1 (by omega)
    subst hss
    have h1 := AnyM.slices_Sort_string_none sortLay none s.c w
    have e : [Sl.val s].toArray = #[.slice none 0 s.c] := by
      show #[Value.slice s.a s.n s.c] = _
      rw [ha, hs0]
    rw [e]
    refine Calls.mono h1 fun e w' he => ?_
    obtain ⟨rfl, rfl⟩ := he
    exact ⟨rfl, hk _ (by simpa [sortL] using h)⟩
  | some a =>
    obtain ⟨cs, fz, h, hsp, hf, hsz, hr, hlen, hc⟩ := slOpen h ha
    obtain ⟨b, off, sp⟩ := a
    simp only at hsp
    subst hsp
    simp only at h hf hsz hr
    have hb := h.block
    have hH : Sort.Holds Proofs.encStr w b off ss.toArray := fun j hj => by
      simp only [List.size_toArray] at hj
      have h1 := hr j (by simpa using hj)
      constructor
      · refine cell_block hb ?_
        rw [h1, List.getElem?_map, List.getElem?_eq_getElem hj]
        simp [getElem!_pos, hj]
      · exact frozen_block hb (hf _ (by omega) (by omega))
    have h1 := AnyM.slices_Sort_string sortLay b off s.c ss w hH (Array.getElem?_eq_some_iff.1 hb).1 (by omega)
    have e : [Sl.val s].toArray = #[.slice (some ⟨b, off, none⟩) ss.length s.c] := by
      show #[Value.slice s.a s.n s.c] = _
      rw [ha, hn]
    rw [e]
    refine Calls.mono h1 fun e w' he => ?_
    obtain ⟨rfl, n, os, rfl⟩ := he
    refine ⟨rfl, hk _ ?_⟩
    have h2 : Holds B (blk b (.cells cs ty_string fz) :: Γ) (Sort.ahead w n) := h.drew _
    have h3 := h2.setBlock (o' := .cells (Sort.putCells Proofs.encStr off (sortL ss).toArray cs) ty_string fz) rfl
    have e2 : ({ (Sort.ahead w n) with heap := (Sort.ahead w n).heap.setIfInBounds b (.cells (Sort.putCells Proofs.encStr off (sortL ss).toArray cs) ty_string fz) } : World) = Sort.putRow Proofs.encStr (Sort.ahead w n) b off (sortL ss).toArray := by
      have harr : (Sort.ahead w n).heap.setIfInBounds b (.cells (Sort.putCells Proofs.encStr off (sortL ss).toArray cs) ty_string fz) = (Sort.ahead w n).heap.modify b (Sort.onCells (Sort.putCells Proofs.encStr off (sortL ss).toArray)) := by
        apply Array.ext_getElem?
        intro i
        rw [Array.getElem?_modify]
        by_cases hi : b = i
        · subst hi
          rw [if_pos rfl, h2.block, Array.getElem?_setIfInBounds_self_of_lt (Array.getElem?_eq_some_iff.1 h2.block).1]
          rfl
        · rw [if_neg hi, Array.getElem?_setIfInBounds_ne hi]
      unfold Sort.putRow Sort.mapBlock
      rw [← harr]
    rw [e2] at h3
    have h4 := holds_grow h3 os
    have hsl : (sortL ss).length = ss.length := by simp [sortL]
    refine slShut (a := ⟨b, off, none⟩) ha h4 ⟨rfl, hf, ?_, fun i hi => ?_, by rw [List.length_map, hsl]; simpa using hlen, hc⟩
    · have : (Sort.putCells Proofs.encStr off (sortL ss).toArray cs).size = cs.size := by simp [Sort.putCells]
      rw [this]; exact hsz
    · simp only [List.length_map] at hi
      unfold Sort.putCells
      rw [Array.getElem?_mapIdx]
      have hlt : off + i < cs.size := by omega
      rw [Array.getElem?_eq_getElem hlt, Option.map_some, if_pos (by simp; omega), List.getElem?_map, List.getElem?_eq_getElem hi, Option.map_some, Nat.add_sub_cancel_left, getElem!_pos (sortL ss).toArray i (by simpa using hi)]
      simp
end
end Go.Proofs.Ytfjjocopmknhgaa
/- A range over a map of one's own: every entry comes once, in whatever order. Holds for every program. -/
namespace Go.Sep
open Go Go.RowKit Go.MapKept
set_option linter.unusedSimpArgs false
set_option linter.unusedVariables false
set_option linter.unusedSectionVars false

section
variable {α β : Type} [DecidableEq α] {P : Program} {B w : World} {Γ : List HProp} {enc : α → Value} {cV : β → Value}

/-- What is still to come, by the stamps that came. -/
def itLeft (es : Array MapEntry) (seen : Array Nat) (m : List (α × β)) : List (α × β) := ((es.toList.zip m).filter fun p => !seen.contains p.1.born).map Prod.snd
structure ItF (enc : α → Value) (cV : β → Value) (es : Array MapEntry) (c : Nat) (seen : Array Nat) (m left : List (α × β)) (cur : Option (α × β)) : Prop where
  rel : mrel enc cV es m
  st : stamps es c
  lf : left = itLeft es seen m
  cnt : seen.size + left.length = m.length
  cur : ∀ p, cur = some p → ∃ (seen' : Array Nat) (e : MapEntry), seen = seen'.push e.born ∧ e ∈ es.toList ∧ e.key = enc p.1 ∧ e.val = cV p.2
/-- A map, and a range over it that is under way. -/
def MapIt (enc : α → Value) (cV : β → Value) (b r : Nat) (m left : List (α × β)) (cur : Option (α × β)) : HProp := ex fun es : Array MapEntry => ex fun c : Nat => ex fun seen : Array Nat =>
  stars [pur (ItF enc cV es c seen m left cur), blk b (.map es c), blk r (.mapIter (some b) c seen c)]

theorem MapIt.opens {b r : Nat} {m left : List (α × β)} {cur : Option (α × β)} (h : Holds B (MapIt enc cV b r m left cur :: Γ) w) : ∃ es c seen, ItF enc cV es c seen m left cur ∧ Holds B (blk b (.map es c) :: blk r (.mapIter (some b) c seen c) :: Γ) w := by
  obtain ⟨es, h⟩ := Holds.ex.1 h
  obtain ⟨c, h⟩ := Holds.ex.1 h
  obtain ⟨seen, h⟩ := Holds.ex.1 h
  obtain ⟨hp, h⟩ := Holds.pur.1 (Holds.flat.1 h)
  exact ⟨es, c, seen, hp, h⟩
theorem MapIt.shuts {b r : Nat} {m left : List (α × β)} {cur : Option (α × β)} {es : Array MapEntry} {c : Nat} {seen : Array Nat} (hp : ItF enc cV es c seen m left cur) (h : Holds B (blk b (.map es c) :: blk r (.mapIter (some b) c seen c) :: Γ) w) : Holds B (MapIt enc cV b r m left cur :: Γ) w :=
  Holds.ex.2 ⟨es, Holds.ex.2 ⟨c, Holds.ex.2 ⟨seen, Holds.flat.2 (Holds.pur.2 ⟨hp, h⟩)⟩⟩⟩
theorem MapIt.ends {b r : Nat} {m left : List (α × β)} {cur : Option (α × β)} (h : Holds B (MapIt enc cV b r m left cur :: Γ) w) : Holds B (MapR enc cV b m :: Γ) w := by
  obtain ⟨es, c, seen, hp, h⟩ := MapIt.opens h
  exact MapR.shuts ⟨hp.rel, hp.st⟩ (h.del 1 rfl)

theorem mrel_len {es : Array MapEntry} {m : List (α × β)} (h : mrel enc cV es m) : es.toList.length = m.length := by have := congrArg List.length h; simpa using this
theorem mrel_zip {es : Array MapEntry} {m : List (α × β)} (h : mrel enc cV es m) : ∀ p ∈ es.toList.zip m, p.1.key = enc p.2.1 ∧ p.1.val = cV p.2.2 := by
  intro p hp
  obtain ⟨i, hi⟩ := List.getElem?_of_mem hp
  rw [List.getElem?_zip_eq_some] at hi
  have := mrel_at h i
  rw [hi.1, hi.2] at this
  simp only [Option.map_some, Option.some.injEq, Prod.mk.injEq] at this
  exact this

theorem r_range {T E : TypeId} {d : TypeDesc} {b : Nat} {m : List (α × β)} {k : Option Addr → K} (hT : mapIs P T d E) (h : Holds B (MapR enc cV b m :: Γ) w) (hk : ∀ r w, Holds B (MapIt enc cV b r m m none :: Γ) w → k (some ⟨r, 0, none⟩) w) :
    Do P (Instr.range T (.map (some b))) Value.pointer k w := by
  obtain ⟨kt, hT, hd⟩ := hT
  obtain ⟨es, c, ⟨hr, hst⟩, h⟩ := MapR.opens h
  have hb := h.block
  refine ⟨some ⟨w.heap.size, 0, none⟩, { w with heap := w.heap.push (.mapIter (some b) c #[] c) }, ?_, hk _ _ (MapIt.shuts (seen := #[]) ⟨hr, hst, ?_, by simp, fun p hp => by cases hp⟩ (h.alloc _).swap)⟩
  · unfold Instr.range
    simp only [Sem.run_bind, run_underlying hT, Result.andThen, MapKept.run_getObj_map hb, Sem.run_pure]
    rfl
  · unfold itLeft
    have e : (es.toList.zip m).filter (fun p => !(#[] : Array Nat).contains p.1.born) = es.toList.zip m := List.filter_eq_self.2 (fun p _ => by simp)
    rw [e, List.map_snd_zip (by rw [mrel_len hr]; exact Nat.le_refl _)]

theorem zip_filter_split {es : List MapEntry} {m : List (α × β)} (seen : Array Nat) (hn : (es.map (·.born)).Nodup) (hl : es.length = m.length) {e : MapEntry} (he : e ∈ es.filter (fun e => !seen.contains e.born)) :
    ∃ l1 p l2, (e, p) ∈ es.zip m ∧ ((es.zip m).filter fun p => !seen.contains p.1.born).map Prod.snd = l1 ++ p :: l2 ∧ ((es.zip m).filter fun p => !(seen.push e.born).contains p.1.born).map Prod.snd = l1 ++ l2 := by
  induction es generalizing m with
  | nil => simp at he
  | cons x es ih =>
    cases m with
    | nil => simp at hl
    | cons q m =>
      simp only [List.map_cons, List.nodup_cons] at hn
      simp only [List.zip_cons_cons]
      by_cases hx : x = e
      · subst hx
        have hxs : (!seen.contains x.born) = true := (List.mem_filter.1 he).2
        refine ⟨[], q, ((es.zip m).filter fun p => !seen.contains p.1.born).map Prod.snd, List.mem_cons_self, ?_, ?_⟩
        · simp only [List.filter_cons]; rw [if_pos hxs]; rfl
        · simp only [List.filter_cons]
          rw [if_neg (by simp)]
          simp only [List.nil_append]
          congr 1
          refine List.filter_congr fun p hp => ?_
          have hpe : p.1.born ≠ x.born := fun heq => hn.1 (by rw [← heq]; exact List.mem_map_of_mem (List.of_mem_zip hp).1)
          simp [Array.contains_push, hpe]
      · have he2 : e ∈ es.filter (fun e => !seen.contains e.born) := by
          have h1 := List.mem_filter.1 he
          rcases List.mem_cons.1 h1.1 with h2 | h2
          · exact absurd h2.symm hx
          · exact List.mem_filter.2 ⟨h2, h1.2⟩
        obtain ⟨l1, p, l2, h1, h2, h3⟩ := ih hn.2 (by simpa using hl) he2
        have hxb : x.born ≠ e.born := fun heq => hn.1 (by rw [heq]; exact List.mem_map_of_mem (List.mem_filter.1 he2).1)
        by_cases hs : (!seen.contains x.born) = true
        · refine ⟨q :: l1, p, l2, List.mem_cons_of_mem _ h1, ?_, ?_⟩
          · simp only [List.filter_cons]
            rw [if_pos hs, List.map_cons, h2]; rfl
          · simp only [List.filter_cons]
            rw [if_pos (by simp [Array.contains_push, hxb] at hs ⊢; exact hs), List.map_cons, h3]; rfl
        · refine ⟨l1, p, l2, List.mem_cons_of_mem _ h1, ?_, ?_⟩
          · simp only [List.filter_cons]
            rw [if_neg hs, h2]
          · simp only [List.filter_cons]
            rw [if_neg (by simp [Array.contains_push, hxb] at hs ⊢; exact hs), h3]

theorem r_next {b r : Nat} {m left : List (α × β)} {cur : Option (α × β)} {k : Value → K} (h : Holds B (MapIt enc cV b r m left cur :: Γ) w)
    (h0 : left = [] → ∀ w, Holds B (MapR enc cV b m :: Γ) w → k (.tuple #[.bool false]) w)
    (h1 : ∀ l1 p l2 w, left = l1 ++ p :: l2 → p ∈ m → Holds B (MapIt enc cV b r m (l1 ++ l2) (some p) :: Γ) w → k (.tuple #[.bool true, enc p.1, cV p.2]) w) :
    Do P (Instr.next (.pointer (some ⟨r, 0, none⟩)) false 0) id k w := by
  have hend := MapIt.ends h
  obtain ⟨es, c, seen, hp, h⟩ := MapIt.opens h
  have hb := h.block
  have hr := h.tail.block
  rcases run_next_at (P := P) w 0 r b c c seen es c hr hb hp.st.2 (Nat.le_refl _) with ⟨hz, hrun⟩ | ⟨e, he, w1, hw1, hrun⟩
  · refine ⟨_, w, hrun, h0 ?_ w hend⟩
    rw [hp.lf]
    unfold itLeft
    have hnone : es.toList.filter (fun e => !seen.contains e.born) = [] := by
      have : (leftOf es seen).toList.length = 0 := by simpa using hz
      unfold leftOf at this
      rw [Array.toList_filter] at this
      exact List.length_eq_zero_iff.1 this
    have : (es.toList.zip m).filter (fun p => !seen.contains p.1.born) = [] := by
      rw [List.filter_eq_nil_iff] at hnone ⊢
      intro p hpz
      exact hnone p.1 (List.of_mem_zip hpz).1
    rw [this]; rfl
  · have he2 : e ∈ es.toList.filter (fun e => !seen.contains e.born) := by
      unfold leftOf at he
      rw [Array.toList_filter] at he
      exact he
    obtain ⟨l1, p, l2, hz, hl, hl2⟩ := zip_filter_split seen hp.st.1 (mrel_len hp.rel) he2
    have hkv := mrel_zip hp.rel _ hz
    simp only at hkv
    refine ⟨_, _, hrun, ?_⟩
    show k (.tuple #[.bool true, e.key, e.val]) _
    rw [hkv.1, hkv.2]
    have hw : ∃ w', w1 = w' ∧ Holds B (blk b (.map es c) :: blk r (.mapIter (some b) c seen c) :: Γ) w' := by
      rcases hw1 with rfl | rfl
      · exact ⟨_, rfl, h⟩
      · exact ⟨_, rfl, h.drew _⟩
    obtain ⟨w', rfl, h⟩ := hw
    refine h1 l1 p l2 _ (by rw [hp.lf]; exact hl) (List.of_mem_zip hz).2 (MapIt.shuts (es := es) (c := c) (seen := seen.push e.born) ⟨hp.rel, hp.st, hl2.symm, ?_, fun q hq => ?_⟩ ?_)
    · have h3 := hp.cnt
      have h4 : left = l1 ++ p :: l2 := by rw [hp.lf]; exact hl
      rw [h4] at h3
      simp only [List.length_append, List.length_cons, Array.size_push] at h3 ⊢
      omega
    · cases hq
      exact ⟨seen, e, rfl, (List.of_mem_zip hz).1, hkv.1, hkv.2⟩
    · exact (h.swap.setBlock (o' := .mapIter (some b) c (seen.push e.born) c) rfl).swap

/-- How many are still to come, as the world tells. -/
def itCount (r n : Nat) (w : World) : Nat := match w.heap[r]? with
  | some (.mapIter _ _ seen _) => n - seen.size
  | _ => 0
theorem it_count {b r : Nat} {m left : List (α × β)} {cur : Option (α × β)} (h : Holds B (MapIt enc cV b r m left cur :: Γ) w) : itCount r m.length w = left.length := by
  obtain ⟨es, c, seen, hp, h⟩ := MapIt.opens h
  have := hp.cnt
  unfold itCount
  rw [h.tail.block]
  simp only
  omega
theorem r_entry {b r : Nat} {m left : List (α × β)} {p : α × β} {k : Value → K} (h : Holds B (MapIt enc cV b r m left (some p) :: Γ) w) (hk : k (.tuple #[enc p.1, cV p.2]) w) :
    Do P (Instr.entry (.pointer (some ⟨r, 0, none⟩))) id k w := by
  obtain ⟨es, c, seen, hp, h⟩ := MapIt.opens h
  obtain ⟨seen', e, hs, he, hk1, hk2⟩ := hp.cur p rfl
  subst hs
  refine ⟨_, w, run_entry_at (P := P) w r b c seen' es c e h.tail.block h.block he hp.st.1, ?_⟩
  show k (.tuple #[e.key, e.val]) w
  rw [hk1, hk2]
  exact hk
theorem run_lookZ {zv : Value} {T E : TypeId} {d : TypeDesc} {b : Nat} {m : List (α × β)} {a : α} (hT : mapIs P T d E) (hE : KeyE d enc) (hz : zeroT P E zv) {es : Array MapEntry} {c : Nat} (hb : w.heap[b]? = some (.map es c)) (hr : mrel enc cV es m) (ok : Bool) :
    (Instr.lookup T (.map (some b)) (enc a) ok).run P w = .ok (if ok then .tuple #[((mget a m).map cV).getD zv, .bool (mget a m).isSome] else ((mget a m).map cV).getD zv) w := by
  obtain ⟨kt, hT, hd⟩ := hT
  unfold Instr.lookup
  simp only [Sem.run_bind, run_underlying hT, Result.andThen, MapKept.run_getObj_map hb, run_checkKey hd (hE.key a), Sem.run_pure]
  rcases mfound hE hr a with ⟨h1, h2, _⟩ | ⟨j, x, h1, _, _, h2, _⟩
  · simp only [run_findKey hd h1, Result.andThen, Sem.run_bind, zeroT_spec hz, Sem.run_pure, h2]
    cases ok <;> rfl
  · simp only [run_findKey hd h1, Result.andThen, Sem.run_bind, Sem.run_pure, h2]
    cases ok <;> rfl
end
end Go.Sep
/- Keys as strings, sorted. -/
namespace Go.Proofs.Ytfjjocopmknhgaa
open Go Go.Sep
set_option linter.unusedSimpArgs false
set_option linter.unusedVariables false
set_option maxRecDepth 100000

theorem keyE_str : KeyE .string strV := ⟨fun _ => trivial, fun a b h => by
  have h1 : bs a = bs b := by injection h
  have h2 := congrArg (fun x : ByteArray => x.data.toList) h1
  simpa using h2, fun a => keyE_string.bits (bs a)⟩
theorem sortL_perm {l l' : List (List UInt8)} (h : l.Perm l') : sortL l = sortL l' := by
  have tr : ∀ a b c : List UInt8, decide (a ≤ b) = true → decide (b ≤ c) = true → decide (a ≤ c) = true := fun a b c h1 h2 => by
    simp only [decide_eq_true_eq] at *
    exact List.le_trans h1 h2
  have tot : ∀ a b : List UInt8, (decide (a ≤ b) || decide (b ≤ a)) = true := fun a b => by
    simp only [Bool.or_eq_true, decide_eq_true_eq]
    exact List.le_total a b
  refine List.Perm.eq_of_pairwise (le := fun a b => decide (a ≤ b) = true) (fun a b _ _ h1 h2 => ?_) (List.pairwise_mergeSort tr tot l) (List.pairwise_mergeSort tr tot l') ?_
  · simp only [decide_eq_true_eq] at h1 h2
    exact List.le_antisymm h1 h2
  · exact ((List.mergeSort_perm l _).trans h).trans (List.mergeSort_perm l' _).symm
theorem sortL_len (l : List (List UInt8)) : (sortL l).length = l.length := (List.mergeSort_perm l _).length_eq
theorem sortL_mem {l : List (List UInt8)} {x : List UInt8} : x ∈ sortL l ↔ x ∈ l := (List.mergeSort_perm l _).mem_iff


abbrev SlS (s : Sl) (ss : List (List UInt8)) : HProp := SlC ty_string 1 s (ss.map strV)
end Go.Proofs.Ytfjjocopmknhgaa
/- Plain forms of functions, and that their code comes to them (package lib_maps). -/
namespace Go.Proofs.Ytfjjocopmknhgaa
open Go Go.Sep
set_option linter.unusedVariables false
set_option linter.unusedSimpArgs false
set_option maxRecDepth 100000
set_option maxHeartbeats 4000000
attribute [local irreducible] G Gp Cx Tx Ex Sx Dx Ox Ax Lx Rx Fx Bx Bj Al Do Ld LdN St StN New CallF Ar DoU Rd Rd2 Pu Cd Ite Fv CallV CallY Ans0 Ans1 Ans2 Ans3 Ans4 Ans5 Ext Dead Dr WithS Sv LdS LdNS RdS Rd2S Nn Idx IdxA IdxS Fld Bld Slc SlcS Cat All LoopK RangeF RangeJ TakeD
namespace F_IRLibMaps
instance ct_130 : CT Try.prog 130 := ⟨by kernel_rfl⟩
instance ct_142 : CT Try.prog 142 := ⟨by kernel_rfl⟩
instance mx : MX Try.prog := ⟨mixed⟩
end F_IRLibMaps
def maps_Keys_map_string_api_Record_string_api_Record (m0 : (Option Nat)) (Q : Value → K) : K :=
  New 130 #[(.map m0)] fun m1 =>
  Q (.func (.func 101) #[] #[(.pointer (some m1))])
theorem maps_Keys_map_string_api_Record_string_api_Record_ok (m0 : (Option Nat)) (Q : Value → K) (w : World) (h : maps_Keys_map_string_api_Record_string_api_Record m0 Q w) : maps_Keys_map_string_api_Record_string_api_Record.call m0 Q w := by
  exact g_walk 4 h Try.func71
def maps_Keys_map_string_locks_gate_string_locks_gate (m0 : (Option Nat)) (Q : Value → K) : K :=
  New 142 #[(.map m0)] fun m1 =>
  Q (.func (.func 105) #[] #[(.pointer (some m1))])
theorem maps_Keys_map_string_locks_gate_string_locks_gate_ok (m0 : (Option Nat)) (Q : Value → K) (w : World) (h : maps_Keys_map_string_locks_gate_string_locks_gate m0 Q w) : maps_Keys_map_string_locks_gate_string_locks_gate.call m0 Q w := by
  exact g_walk 4 h Try.func83
def maps_Keys_map_string_api_Record_string_api_Record_1.b1 (Q : K)  (X1 : K) (yield0_1 : Value) (t5_1 : (Option Addr))  : K :=
  Do Try.prog (Instr.next (.pointer t5_1) false 0) id fun t6 =>
  Ext t6 0 Value.bool fun t7 =>
  Ite t7
    (Do Try.prog (Instr.entry (.pointer t5_1)) id fun t8 =>
    Ext t8 0 Value.string fun t9 =>
    CallY Try.prog yield0_1 [(.string t9)] <| Ans1 (fun (t12 : Bool) => Value.bool t12) fun t12 =>
    Ite (!t12)
      (Q)
      (X1))
    (Q)
def maps_Keys_map_string_api_Record_string_api_Record_1 (yield0 : Value) (t1 : Addr) (Q : K) : K :=
  Ld t1 Value.map fun t4 =>
  Do Try.prog (Instr.range 130 (.map t4)) Value.pointer fun t5 =>
  LoopK (α := Unit) (fun X x => maps_Keys_map_string_api_Record_string_api_Record_1.b1 Q (X ()) yield0 t5) ()
theorem maps_Keys_map_string_api_Record_string_api_Record_1_ok (yield0 : Value) (t1 : Addr) (Q : K) (w : World) (h : maps_Keys_map_string_api_Record_string_api_Record_1 yield0 t1 Q w) : maps_Keys_map_string_api_Record_string_api_Record_1.call yield0 t1 Q w := by
  have hL1 : ∀ (yield0_1 : Value) (t5_1 : (Option Addr)), LH 1 (fun x : Unit => [(0, yield0_1), (5, (.pointer t5_1))]) (fun X x => maps_Keys_map_string_api_Record_string_api_Record_1.b1 Q (X ()) yield0_1 t5_1) := by intros; exact ⟨⟩
  exact g_walk 14 h Try.func101
def maps_Keys_map_string_locks_gate_string_locks_gate_1.b1 (Q : K)  (X1 : K) (yield0_1 : Value) (t5_1 : (Option Addr))  : K :=
  Do Try.prog (Instr.next (.pointer t5_1) false 0) id fun t6 =>
  Ext t6 0 Value.bool fun t7 =>
  Ite t7
    (Do Try.prog (Instr.entry (.pointer t5_1)) id fun t8 =>
    Ext t8 0 Value.string fun t9 =>
    CallY Try.prog yield0_1 [(.string t9)] <| Ans1 (fun (t12 : Bool) => Value.bool t12) fun t12 =>
    Ite (!t12)
      (Q)
      (X1))
    (Q)
def maps_Keys_map_string_locks_gate_string_locks_gate_1 (yield0 : Value) (t1 : Addr) (Q : K) : K :=
  Ld t1 Value.map fun t4 =>
  Do Try.prog (Instr.range 142 (.map t4)) Value.pointer fun t5 =>
  LoopK (α := Unit) (fun X x => maps_Keys_map_string_locks_gate_string_locks_gate_1.b1 Q (X ()) yield0 t5) ()
theorem maps_Keys_map_string_locks_gate_string_locks_gate_1_ok (yield0 : Value) (t1 : Addr) (Q : K) (w : World) (h : maps_Keys_map_string_locks_gate_string_locks_gate_1 yield0 t1 Q w) : maps_Keys_map_string_locks_gate_string_locks_gate_1.call yield0 t1 Q w := by
  have hL1 : ∀ (yield0_1 : Value) (t5_1 : (Option Addr)), LH 1 (fun x : Unit => [(0, yield0_1), (5, (.pointer t5_1))]) (fun X x => maps_Keys_map_string_locks_gate_string_locks_gate_1.b1 Q (X ()) yield0_1 t5_1) := by intros; exact ⟨⟩
  exact g_walk 14 h Try.func105
end Go.Proofs.Ytfjjocopmknhgaa
/- slices.Sorted of a map's keys (ty_api_Record). -/
namespace Go.Proofs.Ytfjjocopmknhgaa
open Go Go.Sep
set_option linter.unusedSimpArgs false
set_option linter.unusedVariables false
set_option maxRecDepth 100000

theorem mapFR : mapIs Try.prog ty_map_string_api_Record .string ty_api_Record := ⟨9, by kernel_rfl, by kernel_rfl⟩
section
variable {B w : World} {Γ : List HProp} {β : Type} {cV : β → Value}

theorem slices_Collect_keysR {mb t1 : Nat} {m : List (List UInt8 × β)} {k : Sl → K} (hm : m.length ≤ 1000000) (h : Holds B (blk t1 (.cells #[.map (some mb)] ty_map_string_api_Record (0, 0)) :: MapR strV cV mb m :: Γ) w)
    (hk : ∀ s ss w, ss.Perm (m.map Prod.fst) → Holds B (SlS s ss :: MapR strV cV mb m :: Γ) w → k s w) : slices_Collect_string.call (.func (.func 101) #[] #[.pointer (some ⟨t1, 0, none⟩)]) k w := by
  refine slices_Collect_string_ok _ _ _ ?_
  unfold slices_Collect_string
  refine slices_AppendSeq_s_string_string_ok _ _ _ _ ?_
  unfold slices_AppendSeq_s_string_string
  refine r_new h ?_
  clear h
  intro s2 w h
  try simp only [add_mk, Nat.zero_add, Nat.reduceAdd]
  refine r_rangeF h rfl (by kernel_rfl) fun D l r w hr1 hr2 h hy => ?_
  refine ret_mono (maps_Keys_map_string_api_Record_string_api_Record_1_ok (yv l) ⟨t1, 0, none⟩ (fun w3 => ∃ Δ, Holds B (blk l (.loop r) :: Δ) w3 ∧ ∀ w, Holds B Δ w → (Ld ⟨s2, 0, none⟩ Sl.val fun t12 => TakeD D (k t12)) w) w ?_) fun v w h => h.2
  unfold maps_Keys_map_string_api_Record_string_api_Record_1
  refine r_ld (x := (some mb)) h rfl (by first | with_reducible exact M0 | with_reducible exact M1 | with_reducible exact M2 | with_reducible exact M3 | with_reducible exact M4 | with_reducible exact M5 | with_reducible exact M6 | with_reducible exact M7 | with_reducible exact M8 | with_reducible exact M9 | with_reducible exact M10 | with_reducible exact M11 | with_reducible exact M12) ?_ ?_
  · exact rfl
  replace h := P3 h
  replace h := P3 h
  replace h := P3 h
  replace h := P3 h
  replace h := P4 h
  try simp only [N1, N2, N3, N4, N5, N6, N7] at h
  refine r_range mapFR h fun r2 w h => ?_
  replace h := h.del 4 at4
  try simp only [N1, N2, N3, N4, N5, N6, N7] at h
  have h0 := (h.nilSl ty_string 1)
  refine LoopK.of (fun _ w => ∃ (o : Sl) (ss : List (List UInt8)) (left : List (List UInt8 × β)) (cur : Option (List UInt8 × β)), (ss ++ left.map Prod.fst).Perm (m.map Prod.fst) ∧
      Holds B (blk l (.loop r) :: blk D (.deferred (some [])) :: blk s2 (.cells #[o.val] ty_s_string (0, 0)) :: SlS o ss :: MapIt strV cV mb r2 m left cur :: Γ) w)
    (fun _ w => itCount r2 m.length w) ⟨⟨none, 0, 0⟩, [], m, none, List.Perm.refl _, ?_⟩ ?_
  · replace h := h0
    replace h := P1 h
    replace h := P1 h
    replace h := P4 h
    replace h := P4 h
    replace h := P4 h
    try simp only [N1, N2, N3, N4, N5, N6, N7] at h
    exact h
  clear h h0
  rintro _ w ⟨o, ss, left, cur, hperm, h⟩
  have hcnt := it_count (h.pick 4 at4)
  have hlen := hperm.length_eq
  simp only [List.length_append, List.length_map] at hlen
  unfold maps_Keys_map_string_api_Record_string_api_Record_1.b1
  replace h := P3 h
  replace h := P3 h
  replace h := P3 h
  replace h := P3 h
  replace h := P4 h
  try simp only [N1, N2, N3, N4, N5, N6, N7] at h
  refine r_next h (fun hl0 w h => ?_) (fun l1 p l2 w hl1 hpm h => ?_)
  · refine ⟨_, false, rfl, rfl, ?_⟩
    refine r_ite_f rfl ?_
    replace h := P4 h
    replace h := P4 h
    replace h := P4 h
    replace h := P4 h
    try simp only [N1, N2, N3, N4, N5, N6, N7] at h
    refine ⟨_, h, fun w h => ?_⟩
    refine r_ld (x := o) h rfl (by first | with_reducible exact M0 | with_reducible exact M1 | with_reducible exact M2 | with_reducible exact M3 | with_reducible exact M4 | with_reducible exact M5 | with_reducible exact M6 | with_reducible exact M7 | with_reducible exact M8 | with_reducible exact M9 | with_reducible exact M10 | with_reducible exact M11 | with_reducible exact M12) ?_ ?_
    · exact rfl
    refine r_takeD h fun w h => ?_
    replace h := P2 h
    replace h := P2 h
    replace h := D2 h
    try simp only [N1, N2, N3, N4, N5, N6, N7] at h
    rw [hl0] at hperm
    simp only [List.map_nil, List.append_nil] at hperm
    exact hk o ss _ hperm h
  · refine ⟨_, true, rfl, rfl, ?_⟩
    refine r_ite_t rfl ?_
    refine r_entry h ?_
    refine ⟨_, bs p.1, rfl, rfl, ?_⟩
    replace h := P4 h
    replace h := P4 h
    replace h := P4 h
    replace h := P4 h
    try simp only [N1, N2, N3, N4, N5, N6, N7] at h
    refine callY_mono (hy (bs p.1) (fun w => ∃ o', Holds B (blk l (.loop r) :: blk D (.deferred (some [])) :: blk s2 (.cells #[Sl.val o'] ty_s_string (0, 0)) :: SlS o' (ss ++ [p.1]) :: MapIt strV cV mb r2 m (l1 ++ l2) (some p) :: Γ) w) w _ h fun W h => ?_) fun v w hv => ?_
    · have hon : ss.length = o.n := by have := (h.pick 3 at3).slCap.1; simpa using this
      refine r_ld (x := o) h rfl (by first | with_reducible exact M0 | with_reducible exact M1 | with_reducible exact M2 | with_reducible exact M3 | with_reducible exact M4 | with_reducible exact M5 | with_reducible exact M6 | with_reducible exact M7 | with_reducible exact M8 | with_reducible exact M9 | with_reducible exact M10 | with_reducible exact M11 | with_reducible exact M12) ?_ ?_
      · exact rfl
      refine r_new h ?_
      clear h
      intro t10 w h
      try simp only [add_mk, Nat.zero_add, Nat.reduceAdd]
      refine r_append (us := [strV p.1]) (h.pick 4 at4) (by kernel_rfl) (by kernel_rfl) (by' := 16) (by kernel_rfl) zero_ty_string rfl (RdC.of_blk (E := ty_string) (b := t10) (n := 1) (vs := [strV p.1]) (cs := #[strV p.1]) h List.mem_cons_self rfl rfl 1) (by simp [flatV]) (by simp only; omega) (by decide) fun o' w h _ _ => ?_
      try simp only [N1, N2, N3, N4, N5, N6, N7] at h
      first | refine S0 h rfl ?_ rfl ?_ | refine S1 h rfl ?_ rfl ?_ | refine S2 h rfl ?_ rfl ?_ | refine S3 h rfl ?_ rfl ?_ | refine S4 h rfl ?_ rfl ?_ | refine S5 h rfl ?_ rfl ?_ | refine S6 h rfl ?_ rfl ?_ | refine S7 h rfl ?_ rfl ?_ | refine S8 h rfl ?_ rfl ?_
      · first | exact Nat.lt_of_ble_eq_true rfl | (simp; done) | (simp; omega)
      clear h
      intro w h
      try simp only [N1, N2, N3, N4, N5, N6, N7] at h
      replace h := P5 h
      replace h := P1 h
      replace h := P5 h
      replace h := P5 h
      replace h := P5 h
      replace h := D5 h
      try simp only [N1, N2, N3, N4, N5, N6, N7] at h
      refine r_endR h fun w h => ?_
      have e : ({ ({ r with state := .busy } : Loop) with state := .ready, pending := none } : Loop) = r := by
        cases r
        simp only at hr1 hr2
        simp only [hr1, hr2]
      rw [e] at h
      refine ⟨o', ?_⟩
      have e2 : ss.map strV ++ [strV p.1] = (ss ++ [p.1]).map strV := by simp
      rw [e2] at h
      exact h
    · obtain ⟨rfl, o', h⟩ := hv
      refine ⟨true, rfl, ?_⟩
      refine r_ite_f rfl ?_
      have hcnt2 := it_count (h.pick 4 at4)
      refine ⟨⟨o', _, _, _, ?_, h⟩, ?_⟩
      · refine List.Perm.trans ?_ hperm
        rw [hl1]
        simp only [List.map_append, List.map_cons, List.append_assoc]
        refine List.Perm.append_left _ ?_
        show (p.1 :: (l1.map Prod.fst ++ l2.map Prod.fst)).Perm _
        exact List.perm_middle.symm
      · rw [hcnt, hcnt2, hl1]
        simp

theorem sorted_keys_specR {mb : Nat} {m : List (List UInt8 × β)} {k : Sl → K} (hm : m.length ≤ 1000000) (h : Holds B (MapR strV cV mb m :: Γ) w)
    (hk : ∀ s w, Holds B (SlS s (sortL (m.map Prod.fst)) :: MapR strV cV mb m :: Γ) w → k s w) :
    maps_Keys_map_string_api_Record_string_api_Record.call (some mb) (fun t7 => slices_Sorted_string.call t7 k) w := by
  refine maps_Keys_map_string_api_Record_string_api_Record_ok _ _ _ ?_
  unfold maps_Keys_map_string_api_Record_string_api_Record
  refine r_new h ?_
  clear h
  intro m1 w h
  try simp only [add_mk, Nat.zero_add, Nat.reduceAdd]
  refine slices_Sorted_string_ok _ _ _ ?_
  unfold slices_Sorted_string
  refine slices_Collect_keysR hm h fun s ss w hp h => ?_
  have hl := hp.length_eq
  rw [List.length_map] at hl
  refine slices_Sort_spec (by omega) h fun w h => ?_
  rw [sortL_perm hp] at h
  exact hk _ _ h
end
end Go.Proofs.Ytfjjocopmknhgaa
/- Bytes in memory: what is appended, copied, read. (By the types' names: for every seat.) -/
namespace Go.Proofs.Ytfjjocopmknhgaa
open Go Go.Sep
set_option linter.unusedSimpArgs false
set_option linter.unusedVariables false
set_option maxRecDepth 100000
section
variable {B w : World} {Γ : List HProp}
theorem r_byte {s : Sl} {xs : List UInt8} {j : Nat} {x : UInt8} {k : Int → K} (hr : RdB w s xs) (hx : xs[j]? = some x) (hk : k (x.toNat : Int) w) : Idx s (j : Int) 1 (fun t => Ld t (Value.int .u8) k) w := by
  have e : xs.map byteV = (xs.map fun b => (b.toNat : Int)).map (Value.int .u8) := by rw [List.map_map]; rfl
  have hr2 : RdC w s 1 ((xs.map fun b => (b.toNat : Int)).map (Value.int .u8)) := by rw [← e]; exact hr
  exact r_idx1 hr2 (by rw [List.getElem?_map, hx]; rfl) hk
theorem rd_spot {w : World} {s : Sl} {xs : List UInt8} (h : RdB w s xs) (hx : xs ≠ []) : ∀ a, s.a = some a → a.spot = none := by
  intro a ha
  have h1 := h.at' a ha 0 (by have := List.length_pos_iff.2 hx; simpa using this)
  have e : a.add 0 = a := by simp [Addr.add]
  rw [e] at h1
  unfold World.cell? at h1
  cases hs : a.spot with
  | none => rfl
  | some y =>
    exfalso
    have h2 : (xs.map byteV)[0]? ≠ none := by
      cases xs with
      | nil => exact absurd rfl hx
      | cons x xs => simp
    split at h1
    · simp only [hs, Option.isSome_some, if_true] at h1
      exact h2 h1.symm
    · exact h2 h1.symm
/-- Bytes behind one's own bytes. -/
theorem r_appB {g x : Sl} {xs ys : List UInt8} {k : Sl → K} (h : Holds B (Bytes ty_uint8 g xs :: Γ) w) (hy : RdB w x ys) (hroom : xs.length + ys.length ≤ 1000000000)
    (hk : ∀ s w, Holds B (Bytes ty_uint8 s (xs ++ ys) :: Γ) w → s.n = xs.length + ys.length → (g.a.isSome = true → s.a.isSome = true) → k s w) :
    Do Try.prog (Builtin.append_ #[ty_s_uint8, ty_s_uint8] ty_s_uint8 #[g.val, x.val]) Sl.val k w := by
  have h1 : xs.length = g.n := by have := h.slCap.1; simpa using this
  have h2 : ys.length = x.n := by have := hy.len; simpa using this
  refine r_append h (by kernel_rfl) (by kernel_rfl) (by' := 1) (by kernel_rfl) zero_ty_uint8 rfl hy (byteV_flat _) (by omega) (by decide) fun s' w h hn ha => hk s' w ?_ (by omega) ha
  have e : xs.map byteV ++ ys.map byteV = (xs ++ ys).map byteV := by simp
  rw [e] at h
  exact h
theorem bytes_new {b n : Nat} {cs : Array Value} {xs : List UInt8} (hc : cs.toList = xs.map byteV) (hn : xs.length = n) (h : Holds B (blk b (.cells cs ty_uint8 (0, 0)) :: Γ) w) : Holds B (Bytes ty_uint8 ⟨some ⟨b, 0, none⟩, n, n⟩ xs :: Γ) w :=
  h.imp (blk_SlC hc (by simp [hn]))
theorem Bytes.len {s : Sl} {xs : List UInt8} (h : Holds B (Bytes ty_uint8 s xs :: Γ) w) : xs.length = s.n := by have := h.slCap.1; simpa using this
theorem Bytes.rd {s : Sl} {xs : List UInt8} (h : Holds B Γ w) (hm : Bytes ty_uint8 s xs ∈ Γ) : RdB w s xs := h.rdC (E := ty_uint8) hm
theorem r_strS {S : World → Prop} {s : Sl} {xs : List UInt8} {src dst : TypeId} {k : ByteArray → K} (hT : strT Try.prog src dst = true) (hr : ∀ w, S w → RdB w s xs) (hk : k (ByteArray.mk xs.toArray) w) :
    RdS Try.prog S (convert src dst s.val) Value.string k w := by
  refine ⟨ByteArray.mk xs.toArray, fun w h => ?_, hk⟩
  obtain ⟨y, h1, h2⟩ := r_str (k := fun y _ => y = ByteArray.mk xs.toArray) hT (hr w h) rfl
  rw [h1, h2]
theorem rdB_take {w : World} {s : Sl} {d : List UInt8} {n c : Nat} (h : RdB w s d) (hn : n ≤ s.n) : RdB w ⟨s.a, n, c⟩ (d.take n) := by
  have h1 := h.take (m := n) (c := c) hn
  show RdC w _ 1 ((d.take n).map byteV)
  rw [List.map_take]
  simpa using h1
end
end Go.Proofs.Ytfjjocopmknhgaa
/- Plain forms of functions, and that their code comes to them (package eval). -/
namespace Go.Proofs.Ytfjjocopmknhgaa
open Go Go.Sep
set_option linter.unusedVariables false
set_option linter.unusedSimpArgs false
set_option maxRecDepth 100000
set_option maxHeartbeats 4000000
attribute [local irreducible] G Gp Cx Tx Ex Sx Dx Ox Ax Lx Rx Fx Bx Bj Al Do Ld LdN St StN New CallF Ar DoU Rd Rd2 Pu Cd Ite Fv CallV CallY Ans0 Ans1 Ans2 Ans3 Ans4 Ans5 Ext Dead Dr WithS Sv LdS LdNS RdS Rd2S Nn Idx IdxA IdxS Fld Bld Slc SlcS Cat All LoopK RangeF RangeJ TakeD
namespace F_IREval
instance at_36 : AT Try.prog 36 4 := ⟨by kernel_rfl⟩
instance at_50 : AT Try.prog 50 5 := ⟨by kernel_rfl⟩
instance at_76 : AT Try.prog 76 2 := ⟨by kernel_rfl⟩
instance at_81 : AT Try.prog 81 5 := ⟨by kernel_rfl⟩
instance at_84 : AT Try.prog 84 4 := ⟨by kernel_rfl⟩
instance cb_102 : CB Try.prog 102 := ⟨by kernel_rfl⟩
instance cb_14 : CB Try.prog 14 := ⟨by kernel_rfl⟩
instance cb_15 : CB Try.prog 15 := ⟨by kernel_rfl⟩
instance cb_18 : CB Try.prog 18 := ⟨by kernel_rfl⟩
instance cb_20 : CB Try.prog 20 := ⟨by kernel_rfl⟩
instance cb_38 : CB Try.prog 38 := ⟨by kernel_rfl⟩
instance cb_56 : CB Try.prog 56 := ⟨by kernel_rfl⟩
instance cb_68 : CB Try.prog 68 := ⟨by kernel_rfl⟩
instance cb_69 : CB Try.prog 69 := ⟨by kernel_rfl⟩
instance cb_70 : CB Try.prog 70 := ⟨by kernel_rfl⟩
instance cb_71 : CB Try.prog 71 := ⟨by kernel_rfl⟩
instance cb_96 : CB Try.prog 96 := ⟨by kernel_rfl⟩
instance cb_97 : CB Try.prog 97 := ⟨by kernel_rfl⟩
instance cb_98 : CB Try.prog 98 := ⟨by kernel_rfl⟩
instance cb_99 : CB Try.prog 99 := ⟨by kernel_rfl⟩
instance ct_130 : CT Try.prog 130 := ⟨by kernel_rfl⟩
instance ct_2 : CT Try.prog 2 := ⟨by kernel_rfl⟩
instance ct_25 : CT Try.prog 25 := ⟨by kernel_rfl⟩
instance ct_3 : CT Try.prog 3 := ⟨by kernel_rfl⟩
instance ct_33 : CT Try.prog 33 := ⟨by kernel_rfl⟩
instance ct_34 : CT Try.prog 34 := ⟨by kernel_rfl⟩
instance ct_4 : CT Try.prog 4 := ⟨by kernel_rfl⟩
instance ct_47 : CT Try.prog 47 := ⟨by kernel_rfl⟩
instance ct_48 : CT Try.prog 48 := ⟨by kernel_rfl⟩
instance ct_5 : CT Try.prog 5 := ⟨by kernel_rfl⟩
instance ct_74 : CT Try.prog 74 := ⟨by kernel_rfl⟩
instance ct_9 : CT Try.prog 9 := ⟨by kernel_rfl⟩
instance fc_36_3 : FC Try.prog 36 3 3 := ⟨by kernel_rfl⟩
instance ft_132_0 : FT Try.prog 132 0 0 1 := ⟨by kernel_rfl⟩
instance ft_132_1 : FT Try.prog 132 1 1 1 := ⟨by kernel_rfl⟩
instance ft_132_2 : FT Try.prog 132 2 2 1 := ⟨by kernel_rfl⟩
instance ft_36_0 : FT Try.prog 36 0 0 1 := ⟨by kernel_rfl⟩
instance ft_36_1 : FT Try.prog 36 1 1 1 := ⟨by kernel_rfl⟩
instance ft_36_2 : FT Try.prog 36 2 2 1 := ⟨by kernel_rfl⟩
instance ft_36_3 : FT Try.prog 36 3 3 1 := ⟨by kernel_rfl⟩
instance ft_50_0 : FT Try.prog 50 0 0 1 := ⟨by kernel_rfl⟩
instance ft_50_2 : FT Try.prog 50 2 2 1 := ⟨by kernel_rfl⟩
instance ft_50_3 : FT Try.prog 50 3 3 1 := ⟨by kernel_rfl⟩
instance ft_50_4 : FT Try.prog 50 4 4 1 := ⟨by kernel_rfl⟩
instance ft_81_0 : FT Try.prog 81 0 0 1 := ⟨by kernel_rfl⟩
instance ft_81_1 : FT Try.prog 81 1 1 4 := ⟨by kernel_rfl⟩
instance ft_84_0 : FT Try.prog 84 0 0 1 := ⟨by kernel_rfl⟩
instance ft_84_1 : FT Try.prog 84 1 1 1 := ⟨by kernel_rfl⟩
instance ft_84_2 : FT Try.prog 84 2 2 1 := ⟨by kernel_rfl⟩
instance ft_84_3 : FT Try.prog 84 3 3 1 := ⟨by kernel_rfl⟩
instance in_2 : INT Try.prog 2 .i64 := ⟨by kernel_rfl⟩
instance in_34 : INT Try.prog 34 .u64 := ⟨by kernel_rfl⟩
instance in_5 : INT Try.prog 5 .u8 := ⟨by kernel_rfl⟩
instance mx : MX Try.prog := ⟨mixed⟩
instance pl_118 : PLT Try.prog 118 [(0, 1), (1, 1)] := ⟨_, Try.underlying118, by kernel_rfl⟩
instance pl_132 : PLT Try.prog 132 [(0, 1), (1, 1), (2, 1)] := ⟨_, Try.underlying132, by kernel_rfl⟩
instance pl_76 : PLT Try.prog 76 [(0, 1), (1, 1)] := ⟨_, Try.underlying76, by kernel_rfl⟩
instance pl_81 : PLT Try.prog 81 [(0, 1), (1, 4)] := ⟨_, Try.underlying81, by kernel_rfl⟩
instance sl_33 : SLT Try.prog 33 5 1 := ⟨by kernel_rfl⟩
instance sl_47 : SLT Try.prog 47 9 1 := ⟨by kernel_rfl⟩
instance sl_48 : SLT Try.prog 48 84 4 := ⟨by kernel_rfl⟩
instance sl_74 : SLT Try.prog 74 118 2 := ⟨by kernel_rfl⟩
instance sl_77 : SLT Try.prog 77 81 5 := ⟨by kernel_rfl⟩
instance sz_3 : SZ Try.prog 3 1 := ⟨by kernel_rfl⟩
instance sz_33 : SZ Try.prog 33 1 := ⟨by kernel_rfl⟩
instance sz_34 : SZ Try.prog 34 1 := ⟨by kernel_rfl⟩
instance sz_36 : SZ Try.prog 36 4 := ⟨by kernel_rfl⟩
instance sz_4 : SZ Try.prog 4 1 := ⟨by kernel_rfl⟩
instance sz_5 : SZ Try.prog 5 1 := ⟨by kernel_rfl⟩
instance sz_74 : SZ Try.prog 74 1 := ⟨by kernel_rfl⟩
instance sz_76 : SZ Try.prog 76 2 := ⟨by kernel_rfl⟩
instance sz_81 : SZ Try.prog 81 5 := ⟨by kernel_rfl⟩
instance sz_84 : SZ Try.prog 84 4 := ⟨by kernel_rfl⟩
instance zt_118 : ZT Try.prog 118 (.agg #[(.bool false), (Sl.val ⟨none, 0, 0⟩)]) := ⟨Try.t118, by kernel_rfl, by kernel_rfl⟩
instance zt_132 : ZT Try.prog 132 (.agg #[(.pointer none), (.map none), (Sl.val ⟨none, 0, 0⟩)]) := ⟨Try.t132, by kernel_rfl, by kernel_rfl⟩
instance zt_36 : ZT Try.prog 36 (.agg #[(.bool false), (Sl.val ⟨none, 0, 0⟩), (.int .i64 0), (.int .u64 0)]) := ⟨Try.t36, by kernel_rfl, by kernel_rfl⟩
instance zt_76 : ZT Try.prog 76 (.agg #[(.int .i64 0), (Sl.val ⟨none, 0, 0⟩)]) := ⟨Try.t76, by kernel_rfl, by kernel_rfl⟩
instance zt_81 : ZT Try.prog 81 (.agg #[(.string ⟨#[]⟩), (.bool false), (Sl.val ⟨none, 0, 0⟩), (.int .i64 0), (.int .u64 0)]) := ⟨Try.t81, by kernel_rfl, by kernel_rfl⟩
instance zt_84 : ZT Try.prog 84 (.agg #[(.int .i64 0), (.string ⟨#[]⟩), (Sl.val ⟨none, 0, 0⟩), (.int .i64 0)]) := ⟨Try.t84, by kernel_rfl, by kernel_rfl⟩
end F_IREval
def eval_Number.b1 (Q : Int → Bool → K)  (X1 : Int → Int → K) (t10_1 : Sl) (t11_1 : Int) (n4_1 : Int) (t12_1 : Int) : K :=
  Ite (decide (t12_1 < t11_1))
    (Idx t10_1 t12_1 1 fun t14 =>
    Ld t14 (Value.int .u8) fun t15 =>
    Cd (0 ≤ (8 : Int)) <|
    Ar (shlOf .u64 n4_1 8) fun t17 =>
    Ar (IntKind.wrap .u64 t15) fun t19 =>
    Ar (bitsOf .or .u64 t17 t19) fun t20 =>
    Ar (IntKind.wrap .i64 (t12_1 + 1)) fun t21 =>
    X1 t20 t21)
    (Ar (IntKind.wrap .i64 n4_1) fun t23 =>
    Q t23 true)
def eval_Number (value0 : Sl) (Q : Int → Bool → K) : K :=
  Ite (decide ((value0.n : Int) ≠ 8))
    (Q 0 false)
    (LoopK (α := Int × Int) (fun X x => eval_Number.b1 Q (fun n4_1 t12_1 => X (n4_1, t12_1)) value0 (value0.n : Int) x.1 x.2) (0, 0))
theorem eval_Number_ok (value0 : Sl) (Q : Int → Bool → K) (w : World) (h : eval_Number value0 Q w) : eval_Number.call value0 Q w := by
  have hL5 : ∀ (t10_1 : Sl) (t11_1 : Int), LH 5 (fun x : Int × Int => [(4, (.int .u64 x.1)), (10, (Sl.val t10_1)), (11, (.int .i64 t11_1)), (12, (.int .i64 x.2))]) (fun X x => eval_Number.b1 Q (fun n4_1 t12_1 => X (n4_1, t12_1)) t10_1 t11_1 x.1 x.2) := by intros; exact ⟨⟩
  exact g_walk 24 h Try.func18
def eval_Value.b1 (Q : Sl → K)  (X1 : Int → K) (n0_1 : Int) (out3_1 : Sl) (t7_1 : Int) (t8_1 : Int) : K :=
  Ite (decide (t8_1 < t7_1))
    (Ar (IntKind.wrap .i64 (7 - t8_1)) fun t13 =>
    Ar (IntKind.wrap .u64 n0_1) fun t15 =>
    Ar (IntKind.wrap .i64 (8 * t8_1)) fun t17 =>
    Cd (0 ≤ t17) <|
    Ar (shrOf .u64 t15 t17) fun t18 =>
    Ar (IntKind.wrap .u8 t18) fun t19 =>
    Idx out3_1 t13 1 fun t20 =>
    St t20 (.int .u8 t19) <|
    Ar (IntKind.wrap .i64 (t8_1 + 1)) fun t21 =>
    X1 t21)
    (Q out3_1)
def eval_Value (n0 : Int) (Q : Sl → K) : K :=
  Do Try.prog (Instr.makeSlice 33 (.int .i64 8) (.int .i64 8)) Sl.val fun t5 =>
  LoopK (α := Int) (fun X x => eval_Value.b1 Q X n0 t5 (t5.n : Int) x) 0
theorem eval_Value_ok (n0 : Int) (Q : Sl → K) (w : World) (h : eval_Value n0 Q w) : eval_Value.call n0 Q w := by
  have hL3 : ∀ (n0_1 : Int) (out3_1 : Sl) (t7_1 : Int), LH 3 (fun x : Int => [(0, (.int .i64 n0_1)), (3, (Sl.val out3_1)), (7, (.int .i64 t7_1)), (8, (.int .i64 x))]) (fun X x => eval_Value.b1 Q X n0_1 out3_1 t7_1 x) := by intros; exact ⟨⟩
  exact g_walk 23 h Try.func20
def eval_Run.b2 (Q : (Array Value) → Sl → K)  (X2 : Sl → Int → K) (t4_2 : Addr) (r6_2 : Addr) (t45_2 : Sl) (t46_2 : Int) (rows10_2 : Sl) (t47_2 : Int) : K :=
  Ite (decide (t47_2 < t46_2))
    (Idx t45_2 t47_2 1 fun t49 =>
    Ld t49 Value.string fun t50 =>
    Ld (r6_2.add 1) Value.map fun t56 =>
    Rd Try.prog (Instr.lookup 130 (.map t56) (.string t50) false) Value.agg fun t58 =>
    Bld #[(.string ⟨#[]⟩), (.bool false), (Sl.val ⟨none, 0, 0⟩), (.int .i64 0), (.int .u64 0)] ([(0, 1), (1, 4)][·]?) [(0, (.string t50)), (1, (.agg t58))] fun t59 =>
    Bld #[(.string ⟨#[]⟩), (.bool false), (Sl.val ⟨none, 0, 0⟩), (.int .i64 0), (.int .u64 0)] (fun i => some (i * 5, 5)) [(0, (.agg t59))] fun ct60 =>
    New 81 ct60 fun t60 =>
    Do Try.prog (Builtin.append_ #[77, 77] 77 #[(Sl.val rows10_2), (Sl.val (Sl.mk (some t60) 1 1))]) Sl.val fun t61 =>
    Ar (IntKind.wrap .i64 (t47_2 + 1)) fun t62 =>
    X2 t61 t62)
    (Ld (r6_2.add 2) Sl.val fun t66 =>
    StN t4_2 2 #[(.int .i64 0), (Sl.val t66)] <|
    LdN t4_2 2 fun r0 =>
    Q r0 rows10_2)
def eval_Run.s1 (Q : (Array Value) → Sl → K)  (t4_1 : Addr) (r6_1 : Addr) (code7_1 : Int) : K :=
  Ite (decide (code7_1 ≠ 0))
    (StN t4_1 2 #[(.int .i64 code7_1), (Sl.val ⟨none, 0, 0⟩)] <|
    LdN t4_1 2 fun r0 =>
    Q r0 (Sl.mk none 0 0))
    (Ld (r6_1.add 1) Value.map fun t43 =>
    maps_Keys_map_string_api_Record_string_api_Record.call t43 fun t44 =>
    slices_Sorted_string.call t44 fun t45 =>
    LoopK (α := Sl × Int) (fun X x => eval_Run.b2 Q (fun rows10_2 t47_2 => X (rows10_2, t47_2)) t4_1 r6_1 t45 (t45.n : Int) x.1 x.2) ((Sl.mk none 0 0), 0))
def eval_Run.b3 (Q : (Array Value) → Sl → K)  (X3 : Int → Int → K) (t4_3 : Addr) (r6_3 : Addr) (t24_3 : Sl) (t25_3 : Int) (code7_3 : Int) (t26_3 : Int) : K :=
  Ite (decide (t26_3 < t25_3))
    (Idx t24_3 t26_3 4 fun t28 =>
    LdN t28 4 fun t29 =>
    New 84 #[(.int .i64 0), (.string ⟨#[]⟩), (Sl.val ⟨none, 0, 0⟩), (.int .i64 0)] fun o9 =>
    StN o9 4 t29 <|
    LdN o9 4 fun t31 =>
    eval_run_step.call (some r6_3) t31 fun t32 =>
    Ite (decide (t32 ≠ 0))
      (eval_Run.s1 Q t4_3 r6_3 t32)
      (Ar (IntKind.wrap .i64 (t26_3 + 1)) fun t35 =>
      X3 t32 t35))
    (eval_Run.s1 Q t4_3 r6_3 code7_3)
def eval_Run (s0 : (Option Addr)) (t1 : (Array Value)) (Q : (Array Value) → Sl → K) : K :=
  New 50 t1 fun t3 =>
  New 76 #[(.int .i64 0), (Sl.val ⟨none, 0, 0⟩)] fun t4 =>
  Do Try.prog (Instr.makeMap 130 none) Value.map fun t14 =>
  New 132 #[(.pointer s0), (.map t14), (Sl.val ⟨none, 0, 0⟩)] fun t16 =>
  Ld t3 (Value.int .i64) fun t18 =>
  Ite (decide (t18 = 2))
    (LdN t3 5 fun t21 =>
    eval_run_move.call (some t16) t21 fun t22 =>
    eval_Run.s1 Q t4 t16 t22)
    (Ld (t3.add 3) Sl.val fun t24 =>
    LoopK (α := Int × Int) (fun X x => eval_Run.b3 Q (fun code7_3 t26_3 => X (code7_3, t26_3)) t4 t16 t24 (t24.n : Int) x.1 x.2) (0, 0))
theorem eval_Run_ok (s0 : (Option Addr)) (t1 : (Array Value)) (Q : (Array Value) → Sl → K) (w : World) (h : eval_Run s0 t1 Q w) : eval_Run.call s0 t1 Q w := by
  have hL14 : ∀ (t4_2 : Addr) (r6_2 : Addr) (t45_2 : Sl) (t46_2 : Int), LH 14 (fun x : Sl × Int => [(4, (.pointer (some t4_2))), (6, (.pointer (some r6_2))), (10, (Sl.val x.1)), (45, (Sl.val t45_2)), (46, (.int .i64 t46_2)), (47, (.int .i64 x.2))]) (fun X x => eval_Run.b2 Q (fun rows10_2 t47_2 => X (rows10_2, t47_2)) t4_2 r6_2 t45_2 t46_2 x.1 x.2) := by intros; exact ⟨⟩
  have hJ10 : JH 10 fun D => ∃ (t4_1 : Addr) (r6_1 : Addr), D [(4, (.pointer (some t4_1))), (6, (.pointer (some r6_1)))] (fun C => ∀ (code7_1 : Int), C [(4, (.pointer (some t4_1))), (6, (.pointer (some r6_1))), (7, (.int .i64 code7_1))] (eval_Run.s1 Q t4_1 r6_1 code7_1)) := by intros; exact ⟨fun _ ⟨_, _, h⟩ => ⟨_, _, h⟩⟩
  have hL5 : ∀ (t4_3 : Addr) (r6_3 : Addr) (t24_3 : Sl) (t25_3 : Int), LH 5 (fun x : Int × Int => [(4, (.pointer (some t4_3))), (6, (.pointer (some r6_3))), (7, (.int .i64 x.1)), (24, (Sl.val t24_3)), (25, (.int .i64 t25_3)), (26, (.int .i64 x.2))]) (fun X x => eval_Run.b3 Q (fun code7_3 t26_3 => X (code7_3, t26_3)) t4_3 r6_3 t24_3 t25_3 x.1 x.2) := by intros; exact ⟨⟩
  exact g_walk 69 h Try.func35
def eval_run_move.b1 (Q : Int → K)  (X1 : Int → K) (r0_1 : (Option Addr)) (t3_1 : Addr) (t9_1 : Sl) (t10_1 : Int) (t11_1 : Int) : K :=
  Ite (decide (t11_1 < t10_1))
    (Idx t9_1 t11_1 1 fun t13 =>
    Ld t13 Value.string fun t14 =>
    eval_run_get.call r0_1 t14 fun t17 =>
    New 36 #[(.bool false), (Sl.val ⟨none, 0, 0⟩), (.int .i64 0), (.int .u64 0)] fun x7 =>
    StN x7 4 t17 <|
    Ld (x7.add 3) (Value.int .u64) fun t19 =>
    Ite (decide (t19 = 18446744073709551615))
      (Q 111)
      (Ld (t3_1.add 4) (Value.int .i64) fun t22 =>
      St (x7.add 2) (.int .i64 t22) <|
      Ld (x7.add 3) (Value.int .u64) fun t25 =>
      Ar (IntKind.wrap .u64 (t25 + 1)) fun t26 =>
      St (x7.add 3) (.int .u64 t26) <|
      Dr <|
      Nn r0_1 fun t29 =>
      Ld (t29.add 1) Value.map fun t31 =>
      LdN x7 4 fun t33 =>
      DoU Try.prog (Instr.mapUpdate 130 (.map t31) (.string t14) (.agg t33)) <|
      Ar (IntKind.wrap .i64 (t11_1 + 1)) fun t34 =>
      X1 t34))
    (Q 0)
def eval_run_move (r0 : (Option Addr)) (t1 : (Array Value)) (Q : Int → K) : K :=
  New 50 t1 fun t3 =>
  Ld (t3.add 2) Sl.val fun t9 =>
  LoopK (α := Int) (fun X x => eval_run_move.b1 Q X r0 t3 t9 (t9.n : Int) x) 0
theorem eval_run_move_ok (r0 : (Option Addr)) (t1 : (Array Value)) (Q : Int → K) (w : World) (h : eval_run_move r0 t1 Q w) : eval_run_move.call r0 t1 Q w := by
  have hD9 : DH 9 1 [6] (.s [0, 1, 2, 4, 3, 5] (.a [(6, 0, .e)])) := by intros; exact ⟨⟩
  have hL2 : ∀ (r0_1 : (Option Addr)) (t3_1 : Addr) (t9_1 : Sl) (t10_1 : Int), LH 2 (fun x : Int => [(0, (.pointer r0_1)), (3, (.pointer (some t3_1))), (9, (Sl.val t9_1)), (10, (.int .i64 t10_1)), (11, (.int .i64 x))]) (fun X x => eval_run_move.b1 Q X r0_1 t3_1 t9_1 t10_1 x) := by intros; exact ⟨⟩
  exact g_walk 35 h Try.func68
def eval_run_step.s1 (Q : Int → K)   : K :=
  Q 0
def eval_run_step.s2 (Q : Int → K)  (t70_2 : Bool) : K :=
  Ite t70_2
    (Q 110)
    (eval_run_step.s1 Q)
def eval_run_step (r0 : (Option Addr)) (o1 : (Array Value)) (Q : Int → K) : K :=
  New 84 o1 fun o3 =>
  Ld (o3.add 1) Value.string fun t8 =>
  eval_run_get.call r0 t8 fun t9 =>
  New 36 #[(.bool false), (Sl.val ⟨none, 0, 0⟩), (.int .i64 0), (.int .u64 0)] fun x5 =>
  StN x5 4 t9 <|
  Ld o3 (Value.int .i64) fun t11 =>
  Ite (decide (t11 = 1))
    (Dr <| WithS fun S =>
    Nn r0 fun t16 =>
    LdS S (t16.add 2) Sl.val fun t18 =>
    LdS S x5 Value.bool fun t20 =>
    LdS S (x5.add 1) Sl.val fun t22 =>
    bytes_Clone.call t22 fun t23 =>
    Sv S <|
    Bld #[(.bool false), (Sl.val ⟨none, 0, 0⟩)] (fun i => some (i * 2, 2)) [(0, (.agg #[(.bool t20), (Sl.val t23)]))] fun ct25 =>
    New 118 ct25 fun t25 =>
    Sv S <|
    Do Try.prog (Builtin.append_ #[74, 74] 74 #[(Sl.val t18), (Sl.val (Sl.mk (some t25) 1 1))]) Sl.val fun t26 =>
    St (t16.add 2) (Sl.val t26) <|
    eval_run_step.s1 Q)
    (Ite (decide (t11 = 7))
      (Dr <| WithS fun S =>
      Nn r0 fun t33 =>
      LdS S (t33.add 2) Sl.val fun t35 =>
      LdS S (o3.add 2) Sl.val fun t37 =>
      bytes_Clone.call t37 fun t38 =>
      Sv S <|
      Bld #[(.bool false), (Sl.val ⟨none, 0, 0⟩)] (fun i => some (i * 2, 2)) [(0, (.agg #[(.bool true), (Sl.val t38)]))] fun ct40 =>
      New 118 ct40 fun t40 =>
      Sv S <|
      Do Try.prog (Builtin.append_ #[74, 74] 74 #[(Sl.val t35), (Sl.val (Sl.mk (some t40) 1 1))]) Sl.val fun t41 =>
      St (t33.add 2) (Sl.val t41) <|
      eval_run_step.s1 Q)
      (Ite (decide (t11 = 2))
        (Ld (o3.add 1) Value.string fun t48 =>
        Ld (o3.add 2) Sl.val fun t50 =>
        eval_run_set.call r0 t48 true t50 <|
        eval_run_step.s1 Q)
        (Ite (decide (t11 = 3))
          (Ld (o3.add 1) Value.string fun t56 =>
          eval_run_set.call r0 t56 false (Sl.mk none 0 0) <|
          eval_run_step.s1 Q)
          (Ite (decide (t11 = 4))
            (Ld x5 Value.bool fun t61 =>
            Ite (!t61)
              (eval_run_step.s2 Q true)
              (Ld (x5.add 1) Sl.val fun t65 =>
              Ld (o3.add 2) Sl.val fun t67 =>
              bytes_Equal.call t65 t67 fun t68 =>
              eval_run_step.s2 Q (!t68)))
            (Ite (decide (t11 = 5))
              (Ld x5 Value.bool fun t74 =>
              Ite t74
                (Q 110)
                (eval_run_step.s1 Q))
              (Ite (decide (t11 = 6))
                (LdN o3 4 fun t78 =>
                eval_run_add.call r0 t78 fun t79 =>
                Q t79)
                (eval_run_step.s1 Q)))))))
theorem eval_run_step_ok (r0 : (Option Addr)) (o1 : (Array Value)) (Q : Int → K) (w : World) (h : eval_run_step r0 o1 Q w) : eval_run_step.call r0 o1 Q w := by
  have hJ19 : JH 19 fun D => D [] (fun C => C [] (eval_run_step.s1 Q)) := by intros; exact ⟨fun _ h => ⟨_, _, h⟩⟩
  have hD4 : DH 4 2 [12, 15] (.s [0, 1, 2, 3, 5, 7, 4, 6, 8] (.a [(9, 1, .s [10] (.a [(11, 1, .a [(12, 0, .s [13, 14] (.a [(15, 0, .e)]))])]))])) := by intros; exact ⟨⟩
  have hD6 : DH 6 2 [10, 13] (.s [0, 1, 2, 3, 5, 4, 6] (.a [(7, 1, .s [8] (.a [(9, 1, .a [(10, 0, .s [11, 12] (.a [(13, 0, .e)]))])]))])) := by intros; exact ⟨⟩
  have hJ13 : JH 13 fun D => D [] (fun C => ∀ (t70_2 : Bool), C [(70, (.bool t70_2))] (eval_run_step.s2 Q t70_2)) := by intros; exact ⟨fun _ h => ⟨_, _, h⟩⟩
  exact g_walk 80 h Try.func69
def eval_Apply.s2 (Q : K) (X1 : Int → K) (s0_2 : (Option Addr)) (t6_2 : Sl) (t7_2 : Int) (t8_2 : Int) : K :=
  Ar (IntKind.wrap .i64 (t8_2 + 1)) fun t42 =>
  X1 t42
def eval_Apply.s3 (Q : K) (X1 : Int → K) (s0_3 : (Option Addr)) (w5_3 : Addr) (t6_3 : Sl) (t7_3 : Int) (t8_3 : Int) : K :=
  Ld (w5_3.add 1) Value.bool fun t30 =>
  Ite t30
    (Ld w5_3 Value.string fun t33 =>
    Ld ((w5_3.add 1).add 1) Sl.val fun t36 =>
    store_Store_Put.call s0_3 t33 t36 <|
    eval_Apply.s2 Q X1 s0_3 t6_3 t7_3 t8_3)
    (Ld w5_3 Value.string fun t40 =>
    store_Store_Delete.call s0_3 t40 <|
    eval_Apply.s2 Q X1 s0_3 t6_3 t7_3 t8_3)
def eval_Apply.b1 (Q : K)  (X1 : Int → K) (s0_1 : (Option Addr)) (t6_1 : Sl) (t7_1 : Int) (t8_1 : Int) : K :=
  Ite (decide (t8_1 < t7_1))
    (Idx t6_1 t8_1 5 fun t10 =>
    LdN t10 5 fun t11 =>
    New 81 #[(.string ⟨#[]⟩), (.bool false), (Sl.val ⟨none, 0, 0⟩), (.int .i64 0), (.int .u64 0)] fun w5 =>
    StN w5 5 t11 <|
    Dr <| WithS fun S =>
    LdS S w5 Value.string fun t14 =>
    LdS S ((w5.add 1).add 3) (Value.int .u64) fun t19 =>
    store_Store_Get.call s0_1 t14 fun t15 =>
    Sv S <|
    Fld t15 3 (Value.int .u64) fun t16 =>
    Ite (decide (t16 ≠ t19))
      (Ld w5 Value.string fun t23 =>
      Ld ((w5.add 1).add 2) (Value.int .i64) fun t26 =>
      store_Store_Move.call s0_1 t23 t26 fun t27 =>
      eval_Apply.s3 Q X1 s0_1 w5 t6_1 t7_1 t8_1)
      (eval_Apply.s3 Q X1 s0_1 w5 t6_1 t7_1 t8_1))
    (Q)
def eval_Apply (s0 : (Option Addr)) (writes1 : Sl) (Q : K) : K :=
  LoopK (α := Int) (fun X x => eval_Apply.b1 Q X s0 writes1 (writes1.n : Int) x) 0
theorem eval_Apply_ok (s0 : (Option Addr)) (writes1 : Sl) (Q : K) (w : World) (h : eval_Apply s0 writes1 Q w) : eval_Apply.call s0 writes1 Q w := by
  have hJ8 : ∀ (X1 : Int → K), XH 1 X1 → JH 8 fun D => ∃ (s0_2 : (Option Addr)) (t6_2 : Sl) (t7_2 : Int) (t8_2 : Int), D [(0, (.pointer s0_2)), (6, (Sl.val t6_2)), (7, (.int .i64 t7_2)), (8, (.int .i64 t8_2))] (fun C => C [(0, (.pointer s0_2)), (6, (Sl.val t6_2)), (7, (.int .i64 t7_2)), (8, (.int .i64 t8_2))] (eval_Apply.s2 Q X1 s0_2 t6_2 t7_2 t8_2)) := by intros; exact ⟨fun _ ⟨_, _, _, _, h⟩ => ⟨_, _, h⟩⟩
  have hJ5 : ∀ (X1 : Int → K), XH 1 X1 → JH 5 fun D => ∃ (s0_3 : (Option Addr)) (w5_3 : Addr) (t6_3 : Sl) (t7_3 : Int) (t8_3 : Int), D [(0, (.pointer s0_3)), (5, (.pointer (some w5_3))), (6, (Sl.val t6_3)), (7, (.int .i64 t7_3)), (8, (.int .i64 t8_3))] (fun C => C [(0, (.pointer s0_3)), (5, (.pointer (some w5_3))), (6, (Sl.val t6_3)), (7, (.int .i64 t7_3)), (8, (.int .i64 t8_3))] (eval_Apply.s3 Q X1 s0_3 w5_3 t6_3 t7_3 t8_3)) := by intros; exact ⟨fun _ ⟨_, _, _, _, _, h⟩ => ⟨_, _, h⟩⟩
  have hD3 : DH 3 2 [] (.s [0, 1, 5, 6, 2, 7] (.a [(3, 1, .s [4, 8] .e)])) := by intros; exact ⟨⟩
  have hL1 : ∀ (s0_1 : (Option Addr)) (t6_1 : Sl) (t7_1 : Int), LH 1 (fun x : Int => [(0, (.pointer s0_1)), (6, (Sl.val t6_1)), (7, (.int .i64 t7_1)), (8, (.int .i64 x))]) (fun X x => eval_Apply.b1 Q X s0_1 t6_1 t7_1 x) := by intros; exact ⟨⟩
  exact g_walk 43 h Try.func73
def eval_run_get (r0 : (Option Addr)) (key1 : ByteArray) (Q : (Array Value) → K) : K :=
  New 36 #[(.bool false), (Sl.val ⟨none, 0, 0⟩), (.int .i64 0), (.int .u64 0)] fun t4 =>
  Nn r0 fun t9 =>
  Ld (t9.add 1) Value.map fun t11 =>
  Rd2 Try.prog (Instr.lookup 130 (.map t11) (.string key1) true) (fun x y => .tuple #[Value.agg x, .bool y]) fun t13v t13ok =>
  New 36 #[(.bool false), (Sl.val ⟨none, 0, 0⟩), (.int .i64 0), (.int .u64 0)] fun x5 =>
  StN x5 4 t13v <|
  Ite t13ok
    (LdN x5 4 fun t17 =>
    StN t4 4 t17 <|
    LdN t4 4 fun r0 =>
    Q r0)
    (Ld t9 Value.pointer fun t21 =>
    store_Store_Get.call t21 key1 fun t23 =>
    StN t4 4 t23 <|
    LdN t4 4 fun r0 =>
    Q r0)
theorem eval_run_get_ok (r0 : (Option Addr)) (key1 : ByteArray) (Q : (Array Value) → K) (w : World) (h : eval_run_get r0 key1 Q w) : eval_run_get.call r0 key1 Q w := by
  exact g_walk 24 h Try.func96
def eval_run_set (r0 : (Option Addr)) (key1 : ByteArray) (has2 : Bool) (value3 : Sl) (Q : K) : K :=
  eval_run_get.call r0 key1 fun t11 =>
  New 36 #[(.bool false), (Sl.val ⟨none, 0, 0⟩), (.int .i64 0), (.int .u64 0)] fun x8 =>
  StN x8 4 t11 <|
  bytes_Clone.call value3 fun t14 =>
  St x8 (.bool has2) <|
  St (x8.add 1) (Sl.val t14) <|
  Dr <|
  Nn r0 fun t18 =>
  Ld (t18.add 1) Value.map fun t20 =>
  LdN x8 4 fun t22 =>
  DoU Try.prog (Instr.mapUpdate 130 (.map t20) (.string key1) (.agg t22)) <|
  Q
theorem eval_run_set_ok (r0 : (Option Addr)) (key1 : ByteArray) (has2 : Bool) (value3 : Sl) (Q : K) (w : World) (h : eval_run_set r0 key1 has2 value3 Q w) : eval_run_set.call r0 key1 has2 value3 Q w := by
  have hD2 : DH 2 1 [6] (.s [0, 1, 2, 4, 3, 5] (.a [(6, 0, .e)])) := by intros; exact ⟨⟩
  exact g_walk 23 h Try.func97
def eval_run_add.s2 (Q : Int → K)  (r0_2 : (Option Addr)) (o3_2 : Addr) (n6_2 : Int) (t43_2 : Bool) : K :=
  Ite t43_2
    (Q 111)
    (Dr <| WithS fun S =>
    LdS S (o3_2.add 1) Value.string fun t46 =>
    LdS S (o3_2.add 3) (Value.int .i64) fun t49 =>
    Ar (IntKind.wrap .i64 (n6_2 + t49)) fun t50 =>
    eval_Value.call t50 fun t51 =>
    Sv S <|
    eval_run_set.call r0_2 t46 true t51 <|
    Q 0)
def eval_run_add.s1 (Q : Int → K)  (r0_1 : (Option Addr)) (o3_1 : Addr) (n6_1 : Int) : K :=
  Ld (o3_1.add 3) (Value.int .i64) fun t23 =>
  Ite (decide ((0 : Int) < t23))
    (Ld (o3_1.add 3) (Value.int .i64) fun t28 =>
    Ar (IntKind.wrap .i64 (9223372036854775807 - t28)) fun t29 =>
    Ite (decide (t29 < n6_1))
      (eval_run_add.s2 Q r0_1 o3_1 n6_1 true)
      (Ld (o3_1.add 3) (Value.int .i64) fun t34 =>
      Ite (decide (t34 < 0))
        (Ld (o3_1.add 3) (Value.int .i64) fun t39 =>
        Ar (IntKind.wrap .i64 ((-9223372036854775808) - t39)) fun t40 =>
        eval_run_add.s2 Q r0_1 o3_1 n6_1 (decide (n6_1 < t40)))
        (eval_run_add.s2 Q r0_1 o3_1 n6_1 false)))
    (Ld (o3_1.add 3) (Value.int .i64) fun t34 =>
    Ite (decide (t34 < 0))
      (Ld (o3_1.add 3) (Value.int .i64) fun t39 =>
      Ar (IntKind.wrap .i64 ((-9223372036854775808) - t39)) fun t40 =>
      eval_run_add.s2 Q r0_1 o3_1 n6_1 (decide (n6_1 < t40)))
      (eval_run_add.s2 Q r0_1 o3_1 n6_1 false))
def eval_run_add (r0 : (Option Addr)) (o1 : (Array Value)) (Q : Int → K) : K :=
  New 84 o1 fun o3 =>
  Ld (o3.add 1) Value.string fun t10 =>
  eval_run_get.call r0 t10 fun t11 =>
  New 36 #[(.bool false), (Sl.val ⟨none, 0, 0⟩), (.int .i64 0), (.int .u64 0)] fun x5 =>
  StN x5 4 t11 <|
  Ld x5 Value.bool fun t13 =>
  Ite t13
    (Ld (x5.add 1) Sl.val fun t16 =>
    eval_Number.call t16 fun t17x0 t17x1 =>
    Ite (!t17x1)
      (Q 110)
      (eval_run_add.s1 Q r0 o3 t17x0))
    (eval_run_add.s1 Q r0 o3 0)
theorem eval_run_add_ok (r0 : (Option Addr)) (o1 : (Array Value)) (Q : Int → K) (w : World) (h : eval_run_add r0 o1 Q w) : eval_run_add.call r0 o1 Q w := by
  have hD9 : DH 9 2 [8] (.s [0, 1, 3, 4, 2, 5, 6] (.a [(7, 1, .a [(8, 0, .e)])])) := by intros; exact ⟨⟩
  have hJ8 : JH 8 fun D => ∃ (r0_2 : (Option Addr)) (o3_2 : Addr) (n6_2 : Int), D [(0, (.pointer r0_2)), (3, (.pointer (some o3_2))), (6, (.int .i64 n6_2))] (fun C => ∀ (t43_2 : Bool), C [(0, (.pointer r0_2)), (3, (.pointer (some o3_2))), (6, (.int .i64 n6_2)), (43, (.bool t43_2))] (eval_run_add.s2 Q r0_2 o3_2 n6_2 t43_2)) := by intros; exact ⟨fun _ ⟨_, _, _, h⟩ => ⟨_, _, h⟩⟩
  have hJ7 : JH 7 fun D => ∃ (r0_1 : (Option Addr)) (o3_1 : Addr), D [(0, (.pointer r0_1)), (3, (.pointer (some o3_1)))] (fun C => ∀ (n6_1 : Int), C [(0, (.pointer r0_1)), (3, (.pointer (some o3_1))), (6, (.int .i64 n6_1))] (eval_run_add.s1 Q r0_1 o3_1 n6_1)) := by intros; exact ⟨fun _ ⟨_, _, h⟩ => ⟨_, _, h⟩⟩
  exact g_walk 53 h Try.func99
end Go.Proofs.Ytfjjocopmknhgaa
/- Plain forms of functions, and that their code comes to them (package ref07). -/
namespace Go.Proofs.Ytfjjocopmknhgaa
open Go Go.Sep
set_option linter.unusedVariables false
set_option linter.unusedSimpArgs false
set_option maxRecDepth 100000
set_option maxHeartbeats 4000000
attribute [local irreducible] G Gp Cx Tx Ex Sx Dx Ox Ax Lx Rx Fx Bx Bj Al Do Ld LdN St StN New CallF Ar DoU Rd Rd2 Pu Cd Ite Fv CallV CallY Ans0 Ans1 Ans2 Ans3 Ans4 Ans5 Ext Dead Dr WithS Sv LdS LdNS RdS Rd2S Nn Idx IdxA IdxS Fld Bld Slc SlcS Cat All LoopK RangeF RangeJ TakeD
namespace F_IRRef07
instance ct_26 : CT Try.prog 26 := ⟨by kernel_rfl⟩
instance ct_33 : CT Try.prog 33 := ⟨by kernel_rfl⟩
instance ct_4 : CT Try.prog 4 := ⟨by kernel_rfl⟩
instance ct_5 : CT Try.prog 5 := ⟨by kernel_rfl⟩
instance ct_74 : CT Try.prog 74 := ⟨by kernel_rfl⟩
instance ft_118_0 : FT Try.prog 118 0 0 1 := ⟨by kernel_rfl⟩
instance ft_118_1 : FT Try.prog 118 1 1 1 := ⟨by kernel_rfl⟩
instance ft_76_0 : FT Try.prog 76 0 0 1 := ⟨by kernel_rfl⟩
instance ft_76_1 : FT Try.prog 76 1 1 1 := ⟨by kernel_rfl⟩
instance in_2 : INT Try.prog 2 .i64 := ⟨by kernel_rfl⟩
instance in_34 : INT Try.prog 34 .u64 := ⟨by kernel_rfl⟩
instance in_5 : INT Try.prog 5 .u8 := ⟨by kernel_rfl⟩
instance mx : MX Try.prog := ⟨mixed⟩
instance sl_33 : SLT Try.prog 33 5 1 := ⟨by kernel_rfl⟩
instance sl_74 : SLT Try.prog 74 118 2 := ⟨by kernel_rfl⟩
instance sz_5 : SZ Try.prog 5 1 := ⟨by kernel_rfl⟩
instance un_4 : UN Try.prog 4 .bool := ⟨Try.underlying4⟩
end F_IRRef07
def ref07_Number.b1 (Q : Int → Bool → K)  (X1 : Int → Int → K) (v0_1 : Sl) (n4_1 : Int) (i5_1 : Int) : K :=
  Ite (decide (i5_1 < 8))
    (Ar (IntKind.wrap .u64 (n4_1 * 256)) fun t14 =>
    Idx v0_1 i5_1 1 fun t17 =>
    Ld t17 (Value.int .u8) fun t18 =>
    Ar (IntKind.wrap .u64 t18) fun t19 =>
    Ar (IntKind.wrap .u64 (t14 + t19)) fun t20 =>
    Ar (IntKind.wrap .i64 (i5_1 + 1)) fun t12 =>
    X1 t20 t12)
    (Ar (IntKind.wrap .i64 n4_1) fun t22 =>
    Q t22 true)
def ref07_Number (v0 : Sl) (Q : Int → Bool → K) : K :=
  Ite (decide ((v0.n : Int) ≠ 8))
    (Q 0 false)
    (LoopK (α := Int × Int) (fun X x => ref07_Number.b1 Q (fun n4_1 i5_1 => X (n4_1, i5_1)) v0 x.1 x.2) (0, 0))
theorem ref07_Number_ok (v0 : Sl) (Q : Int → Bool → K) (w : World) (h : ref07_Number v0 Q w) : ref07_Number.call v0 Q w := by
  have hL5 : ∀ (v0_1 : Sl), LH 5 (fun x : Int × Int => [(0, (Sl.val v0_1)), (4, (.int .u64 x.1)), (5, (.int .i64 x.2))]) (fun X x => ref07_Number.b1 Q (fun n4_1 i5_1 => X (n4_1, i5_1)) v0_1 x.1 x.2) := by intros; exact ⟨⟩
  exact g_walk 23 h Try.func19
def ref07_Value.b1 (Q : Sl → K)  (X1 : Int → Int → K) (out3_1 : Sl) (x4_1 : Int) (i5_1 : Int) : K :=
  Ite (decide ((0 : Int) ≤ i5_1))
    (Cd ((256 : Int) ≠ 0) <|
    Ar (Int.tmod x4_1 256) fun t16 =>
    Ar (IntKind.wrap .u8 t16) fun t17 =>
    Idx out3_1 i5_1 1 fun t18 =>
    St t18 (.int .u8 t17) <|
    Cd ((256 : Int) ≠ 0) <|
    Ar (IntKind.wrap .u64 (Int.tdiv x4_1 256)) fun t20 =>
    Ar (IntKind.wrap .i64 (i5_1 - 1)) fun t12 =>
    X1 t20 t12)
    (Q out3_1)
def ref07_Value (n0 : Int) (Q : Sl → K) : K :=
  Do Try.prog (Instr.makeSlice 33 (.int .i64 8) (.int .i64 8)) Sl.val fun t6 =>
  Ar (IntKind.wrap .u64 n0) fun t8 =>
  LoopK (α := Int × Int) (fun X x => ref07_Value.b1 Q (fun x4_1 i5_1 => X (x4_1, i5_1)) t6 x.1 x.2) (t8, 7)
theorem ref07_Value_ok (n0 : Int) (Q : Sl → K) (w : World) (h : ref07_Value n0 Q w) : ref07_Value.call n0 Q w := by
  have hL4 : ∀ (out3_1 : Sl), LH 4 (fun x : Int × Int => [(3, (Sl.val out3_1)), (4, (.int .u64 x.1)), (5, (.int .i64 x.2))]) (fun X x => ref07_Value.b1 Q (fun x4_1 i5_1 => X (x4_1, i5_1)) out3_1 x.1 x.2) := by intros; exact ⟨⟩
  exact g_walk 22 h Try.func21
def ref07_Same.s3 (Q : Bool → K) (X2 : Int → K) (a2_3 : Addr) (b3_3 : Addr) (i5_3 : Int) (t56_3 : Bool) : K :=
  Ite t56_3
    (Q false)
    (Ar (IntKind.wrap .i64 (i5_3 + 1)) fun t26 =>
    X2 t26)
def ref07_Same.b2 (Q : Bool → K)  (X2 : Int → K) (a2_2 : Addr) (b3_2 : Addr) (i5_2 : Int) : K :=
  Ld (a2_2.add 1) Sl.val fun t22 =>
  Ite (decide (i5_2 < (t22.n : Int)))
    (Dr <|
    Ld (a2_2.add 1) Sl.val fun t28 =>
    Idx t28 i5_2 2 fun t30 =>
    Ld t30 Value.bool fun t32 =>
    Ld (b3_2.add 1) Sl.val fun t34 =>
    Idx t34 i5_2 2 fun t36 =>
    Ld t36 Value.bool fun t38 =>
    Ite (!(t32 == t38))
      (ref07_Same.s3 Q X2 a2_2 b3_2 i5_2 true)
      (Ld (a2_2.add 1) Sl.val fun t42 =>
      Idx t42 i5_2 2 fun t44 =>
      Ld (t44.add 1) Sl.val fun t46 =>
      Rd Try.prog (convert 33 9 (Sl.val t46)) Value.string fun t47 =>
      Ld (b3_2.add 1) Sl.val fun t49 =>
      Idx t49 i5_2 2 fun t51 =>
      Ld (t51.add 1) Sl.val fun t53 =>
      Rd Try.prog (convert 33 9 (Sl.val t53)) Value.string fun t54 =>
      ref07_Same.s3 Q X2 a2_2 b3_2 i5_2 (!(t47.toList == t54.toList))))
    (Q true)
def ref07_Same.s1 (Q : Bool → K)  (a2_1 : Addr) (b3_1 : Addr) (t19_1 : Bool) : K :=
  Ite t19_1
    (Q false)
    (LoopK (α := Int) (fun X x => ref07_Same.b2 Q X a2_1 b3_1 x) 0)
def ref07_Same (a0 : (Array Value)) (b1 : (Array Value)) (Q : Bool → K) : K :=
  New 76 a0 fun a2 =>
  New 76 b1 fun b3 =>
  Ld a2 (Value.int .i64) fun t7 =>
  Ld b3 (Value.int .i64) fun t9 =>
  Ite (decide (t7 ≠ t9))
    (ref07_Same.s1 Q a2 b3 true)
    (Ld (a2.add 1) Sl.val fun t13 =>
    Ld (b3.add 1) Sl.val fun t16 =>
    ref07_Same.s1 Q a2 b3 (decide ((t13.n : Int) ≠ (t16.n : Int))))
theorem ref07_Same_ok (a0 : (Array Value)) (b1 : (Array Value)) (Q : Bool → K) (w : World) (h : ref07_Same a0 b1 Q w) : ref07_Same.call a0 b1 Q w := by
  have hJ7 : ∀ (X2 : Int → K), XH 4 X2 → JH 7 fun D => ∃ (a2_3 : Addr) (b3_3 : Addr) (i5_3 : Int), D [(2, (.pointer (some a2_3))), (3, (.pointer (some b3_3))), (5, (.int .i64 i5_3))] (fun C => ∀ (t56_3 : Bool), C [(2, (.pointer (some a2_3))), (3, (.pointer (some b3_3))), (5, (.int .i64 i5_3)), (56, (.bool t56_3))] (ref07_Same.s3 Q X2 a2_3 b3_3 i5_3 t56_3)) := by intros; exact ⟨fun _ ⟨_, _, _, h⟩ => ⟨_, _, h⟩⟩
  have hL4 : ∀ (a2_2 : Addr) (b3_2 : Addr), LH 4 (fun x : Int => [(2, (.pointer (some a2_2))), (3, (.pointer (some b3_2))), (5, (.int .i64 x))]) (fun X x => ref07_Same.b2 Q X a2_2 b3_2 x) := by intros; exact ⟨⟩
  have hJ2 : JH 2 fun D => ∃ (a2_1 : Addr) (b3_1 : Addr), D [(2, (.pointer (some a2_1))), (3, (.pointer (some b3_1)))] (fun C => ∀ (t19_1 : Bool), C [(2, (.pointer (some a2_1))), (3, (.pointer (some b3_1))), (19, (.bool t19_1))] (ref07_Same.s1 Q a2_1 b3_1 t19_1)) := by intros; exact ⟨fun _ ⟨_, _, h⟩ => ⟨_, _, h⟩⟩
  exact g_walk 57 h Try.func39
end Go.Proofs.Ytfjjocopmknhgaa
/- Numbers of eight bytes: what is read. -/
namespace Go.Proofs.Ytfjjocopmknhgaa
open Go Go.Sep
set_option linter.unusedSimpArgs false
set_option linter.unusedVariables false
set_option maxRecDepth 100000
/-- Eight bytes, the greatest first. -/
def num8 (xs : List UInt8) : Nat := xs.foldl (fun n b => n * 256 + b.toNat) 0
theorem num8_snoc (xs : List UInt8) (x : UInt8) : num8 (xs ++ [x]) = num8 xs * 256 + x.toNat := by
  unfold num8
  rw [List.foldl_append]
  rfl
theorem num8_lt : ∀ (j : Nat) (xs : List UInt8), xs.length = j → num8 xs < 256 ^ j := by
  intro j
  induction j with
  | zero =>
    intro xs h
    have : xs = [] := List.length_eq_zero_iff.1 h
    subst this
    decide
  | succ j ih =>
    intro xs h
    have hne : xs ≠ [] := fun e => by rw [e] at h; cases h
    have e : xs = xs.dropLast ++ [xs.getLast hne] := (List.dropLast_concat_getLast hne).symm
    have h1 := ih xs.dropLast (by simp; omega)
    have h2 := UInt8.toNat_lt (xs.getLast hne)
    rw [e, num8_snoc, Nat.pow_succ]
    omega
theorem or8 (m b : Nat) (hm : m * 256 < 2 ^ 64) (hb : b < 256) : bitsOf .or .u64 ((m * 256 : Nat) : Int) (b : Int) = ((m * 256 + b : Nat) : Int) := by
  unfold bitsOf
  simp only
  have h1 : (BitVec.ofInt (IntKind.bits .u64) ((m * 256 : Nat) : Int) ||| BitVec.ofInt (IntKind.bits .u64) (b : Int)).toNat = m * 256 + b := by
    show (BitVec.ofInt 64 ((m * 256 : Nat) : Int) ||| BitVec.ofInt 64 (b : Int)).toNat = _
    rw [BitVec.toNat_or, BitVec.ofInt_natCast, BitVec.ofInt_natCast, BitVec.toNat_ofNat, BitVec.toNat_ofNat, Nat.mod_eq_of_lt (by omega), Nat.mod_eq_of_lt (by omega)]
    have h4 := Nat.two_pow_add_eq_or_of_lt (i := 8) (b := b) (by omega) m
    have h5 : 2 ^ 8 * m = m * 256 := by omega
    rw [h5] at h4
    omega
  rw [h1, wrapU64 (by omega) (by omega)]
theorem pow_le8 {j : Nat} (h : j ≤ 7) : 256 ^ j ≤ 72057594037927936 := by
  have := Nat.pow_le_pow_right (n := 256) (by decide) h
  have e : (256 : Nat) ^ 7 = 72057594037927936 := by decide
  omega
section
variable {B w : World} {Γ : List HProp}
theorem eval_Number_spec {s : Sl} {xs : List UInt8} {k : Int → Bool → K} (hr : RdB w s xs) (hk : k (if xs.length = 8 then IntKind.wrap .i64 (num8 xs : Int) else 0) (decide (xs.length = 8)) w) : eval_Number.call s k w := by
  have hn : xs.length = s.n := by have := hr.len; simpa using this
  refine eval_Number_ok _ _ _ ?_
  unfold eval_Number
  refine r_ite (fun hb => ?_) (fun hb => ?_)
  · have h8 : ¬ xs.length = 8 := by simp only [decide_eq_true_eq] at hb; omega
    rw [if_neg h8, decide_eq_false h8] at hk
    exact hk
  · have h8 : xs.length = 8 := by simp only [decide_eq_false_iff_not, Decidable.not_not] at hb; omega
    rw [if_pos h8, decide_eq_true h8] at hk
    refine LoopK.of (fun t w1 => ∃ j : Nat, t = ((num8 (xs.take j) : Int), (j : Int)) ∧ j ≤ 8 ∧ w1 = w) (fun t _ => ((8 : Int) - t.2).toNat) ⟨0, rfl, by omega, rfl⟩ ?_
    rintro t w1 ⟨j, rfl, hj, rfl⟩
    dsimp only
    unfold eval_Number.b1
    refine r_ite (fun hlt => ?_) (fun hge => ?_)
    · simp only [decide_eq_true_eq] at hlt
      have hx : xs[j]? = some xs[j] := List.getElem?_eq_getElem (by omega)
      have htk : xs.take (j + 1) = xs.take j ++ [xs[j]] := List.take_succ_eq_append_getElem (by omega)
      generalize xs[j] = x at hx htk
      refine r_byte hr hx ?_
      have hlt8 := num8_lt j (xs.take j) (by rw [List.length_take]; omega)
      have hp := pow_le8 (j := j) (by omega)
      have hxb := UInt8.toNat_lt x
      refine r_cd (by decide) ?_
      refine r_ar (e' := ((num8 (xs.take j) * 256 : Nat) : Int)) (by
        unfold shlOf
        have : min ((8 : Int).toNat) (IntKind.bits .u64) = 8 := rfl
        rw [this, wrapU64 (by omega) (by omega)]
        omega) ?_
      refine r_ar (wrapU64 (by omega) (by omega)) ?_
      refine r_ar (or8 _ _ (by omega) hxb) ?_
      refine r_add64 (by omega) (by omega) ?_
      exact ⟨⟨j + 1, by rw [htk, num8_snoc]; rfl, by omega, rfl⟩, by omega⟩
    · simp only [decide_eq_false_iff_not] at hge
      have : j = 8 := by omega
      subst this
      rw [List.take_of_length_le (by omega)]
      exact r_ar rfl hk
theorem ref07_Number_spec {s : Sl} {xs : List UInt8} {k : Int → Bool → K} (hr : RdB w s xs) (hk : k (if xs.length = 8 then IntKind.wrap .i64 (num8 xs : Int) else 0) (decide (xs.length = 8)) w) : ref07_Number.call s k w := by
  have hn : xs.length = s.n := by have := hr.len; simpa using this
  refine ref07_Number_ok _ _ _ ?_
  unfold ref07_Number
  refine r_ite (fun hb => ?_) (fun hb => ?_)
  · have h8 : ¬ xs.length = 8 := by simp only [decide_eq_true_eq] at hb; omega
    rw [if_neg h8, decide_eq_false h8] at hk
    exact hk
  · have h8 : xs.length = 8 := by simp only [decide_eq_false_iff_not, Decidable.not_not] at hb; omega
    rw [if_pos h8, decide_eq_true h8] at hk
    refine LoopK.of (fun t w1 => ∃ j : Nat, t = ((num8 (xs.take j) : Int), (j : Int)) ∧ j ≤ 8 ∧ w1 = w) (fun t _ => ((8 : Int) - t.2).toNat) ⟨0, rfl, by omega, rfl⟩ ?_
    rintro t w1 ⟨j, rfl, hj, rfl⟩
    dsimp only
    unfold ref07_Number.b1
    refine r_ite (fun hlt => ?_) (fun hge => ?_)
    · simp only [decide_eq_true_eq] at hlt
      have hx : xs[j]? = some xs[j] := List.getElem?_eq_getElem (by omega)
      have htk : xs.take (j + 1) = xs.take j ++ [xs[j]] := List.take_succ_eq_append_getElem (by omega)
      generalize xs[j] = x at hx htk
      have hlt8 := num8_lt j (xs.take j) (by rw [List.length_take]; omega)
      have hp := pow_le8 (j := j) (by omega)
      have hxb := UInt8.toNat_lt x
      refine r_ar (e' := ((num8 (xs.take j) * 256 : Nat) : Int)) (by rw [wrapU64 (by omega) (by omega)]; omega) ?_
      refine r_byte hr hx ?_
      refine r_ar (wrapU64 (by omega) (by omega)) ?_
      refine r_ar (e' := ((num8 (xs.take j) * 256 + x.toNat : Nat) : Int)) (by rw [wrapU64 (by omega) (by omega)]; omega) ?_
      refine r_add64 (by omega) (by omega) ?_
      exact ⟨⟨j + 1, by rw [htk, num8_snoc]; rfl, by omega, rfl⟩, by omega⟩
    · simp only [decide_eq_false_iff_not] at hge
      have : j = 8 := by omega
      subst this
      rw [List.take_of_length_le (by omega)]
      exact r_ar rfl hk
end
end Go.Proofs.Ytfjjocopmknhgaa
/- A new row of eight bytes. -/
namespace Go.Proofs.Ytfjjocopmknhgaa
open Go Go.Sep
set_option linter.unusedSimpArgs false
set_option linter.unusedVariables false
set_option maxRecDepth 100000
section
variable {B w : World} {Γ : List HProp}
theorem r_make8 {k : Sl → K} (h : Holds B Γ w) (hk : ∀ s w, Holds B (Bytes ty_uint8 s (List.replicate 8 0) :: Γ) w → k s w) : Do Try.prog (Instr.makeSlice ty_s_uint8 (.int .i64 8) (.int .i64 8)) Sl.val k w := by
  have h1 := Go.run_make_row' (P := Try.prog) ty_s_uint8 ty_uint8 (.int .u8 0) 1 (by kernel_rfl) (by kernel_rfl) rfl .i64 .i64 8 (by decide) (by decide) w
  refine ⟨⟨some ⟨w.heap.size, 0, none⟩, 8, 8⟩, _, h1, hk _ _ ?_⟩
  have h2 := h.alloc (.cells (madeCells #[.int .u8 0] 8) ty_uint8 (0, 0))
  exact bytes_new (by kernel_rfl) (by simp) h2
end
end Go.Proofs.Ytfjjocopmknhgaa
/- Bytes of numbers. -/
namespace Go.Proofs.Ytfjjocopmknhgaa
open Go Go.Sep
set_option linter.unusedSimpArgs false
set_option linter.unusedVariables false
set_option maxRecDepth 100000

def u8 (n : Nat) : UInt8 := UInt8.ofNat n
theorem u8N (n : Nat) : (u8 n).toNat = n % 256 := by simp [u8, UInt8.toNat_ofNat']
theorem wrapB (n : Nat) : IntKind.wrap .u8 (n : Int) = ((u8 n).toNat : Int) := by
  rw [u8N]
  unfold IntKind.wrap
  simp [IntKind.bits, IntKind.signed]
theorem u8V (n : Nat) : Value.int .u8 ((u8 n).toNat : Int) = byteV (u8 n) := rfl
theorem shr64 (n : Nat) (k : Nat) (hk : k < 64) : shrOf .i64 (n : Int) (k : Int) = ((n / 2 ^ k : Nat) : Int) := by
  unfold shrOf
  have : min ((k : Int).toNat) (IntKind.bits .i64) = k := by simp [IntKind.bits]; omega
  rw [this, Int.fdiv_eq_ediv_of_nonneg _ (Int.le_of_lt (Int.pow_pos (by decide))), Int.natCast_ediv, Int.natCast_pow]
  rfl

end Go.Proofs.Ytfjjocopmknhgaa
/- Numbers of eight bytes: what is put. -/
namespace Go.Proofs.Ytfjjocopmknhgaa
open Go Go.Sep
set_option linter.unusedSimpArgs false
set_option linter.unusedVariables false
set_option maxRecDepth 100000
def partV (u i : Nat) : List UInt8 := (List.range 8).map fun j => if 8 ≤ j + i then u8 (u / 256 ^ (7 - j)) else 0
theorem partV_step (u : Nat) : ∀ i, i < 8 → (partV u i).set (7 - i) (u8 (u / 256 ^ i)) = partV u (i + 1)
  | 0, _ => rfl
  | 1, _ => rfl
  | 2, _ => rfl
  | 3, _ => rfl
  | 4, _ => rfl
  | 5, _ => rfl
  | 6, _ => rfl
  | 7, _ => rfl
theorem partV_len (u i : Nat) : (partV u i).length = 8 := by simp [partV]
def uOf (n : Int) : Nat := (IntKind.wrap .u64 n).toNat
theorem uOf_lt (n : Int) : uOf n < 2 ^ 64 ∧ IntKind.wrap .u64 n = (uOf n : Int) := by
  have h : 0 ≤ IntKind.wrap .u64 n ∧ IntKind.wrap .u64 n < 2 ^ 64 := by
    unfold IntKind.wrap
    simp only [IntKind.bits, IntKind.signed, Bool.false_and, Bool.false_eq_true, if_false]
    omega
  unfold uOf
  omega
section
variable {B w : World} {Γ : List HProp}
theorem eval_Value_spec {n : Int} {k : Sl → K} (h : Holds B Γ w) (hk : ∀ s w, Holds B (Bytes ty_uint8 s (partV (uOf n) 8) :: Γ) w → k s w) : eval_Value.call n k w := by
  obtain ⟨hu1, hu2⟩ := uOf_lt n
  refine eval_Value_ok _ _ _ ?_
  unfold eval_Value
  refine r_make8 h fun s w h => ?_
  have hsn := Bytes.len h
  simp only [List.length_replicate] at hsn
  refine LoopK.of (fun t w => ∃ i : Nat, t = (i : Int) ∧ i ≤ 8 ∧ Holds B (Bytes ty_uint8 s (partV (uOf n) i) :: Γ) w) (fun t _ => ((8 : Int) - t).toNat) ⟨0, rfl, by omega, h⟩ ?_
  clear h
  rintro t w ⟨i, rfl, hi, h⟩
  unfold eval_Value.b1
  refine r_ite (fun hlt => ?_) (fun hge => ?_)
  · simp only [decide_eq_true_eq] at hlt
    refine r_ar (e' := ((7 - i : Nat) : Int)) (by rw [wrap64 (by omega) (by omega)]; omega) ?_
    refine r_ar hu2 ?_
    refine r_ar (e' := ((8 * i : Nat) : Int)) (by rw [wrap64 (by omega) (by omega)]; omega) ?_
    refine r_cd (by omega) ?_
    refine r_ar (e' := ((uOf n / 256 ^ i : Nat) : Int)) (by
      unfold shrOf
      have : min (((8 * i : Nat) : Int).toNat) (IntKind.bits .u64) = 8 * i := by simp [IntKind.bits]; omega
      rw [this, Int.fdiv_eq_ediv_of_nonneg _ (Int.le_of_lt (Int.pow_pos (by decide))), Nat.pow_mul 2 8 i |> fun e => show (2 : Int) ^ (8 * i) = ((256 ^ i : Nat) : Int) by rw [Int.pow_mul]; rw [Int.natCast_pow]; rfl, ← Int.natCast_ediv]) ?_
    refine r_ar (wrapB _) ?_
    refine r_idxSt h (by omega) rfl fun w h => ?_
    have e1 : ((partV (uOf n) i).map byteV).set (7 - i) (Value.int .u8 ((u8 (uOf n / 256 ^ i)).toNat : Int)) = (partV (uOf n) (i + 1)).map byteV := by
      rw [← partV_step _ i (by omega), List.map_set]
      rfl
    rw [e1] at h
    refine r_add64 (by omega) (by omega) ?_
    exact ⟨⟨i + 1, by omega, by omega, h⟩, by omega⟩
  · simp only [decide_eq_false_iff_not] at hge
    have : i = 8 := by omega
    subst this
    exact hk _ _ h
theorem u8_mod' (n : Nat) : u8 (n % 256) = u8 n := by
  apply UInt8.toNat_inj.1
  rw [u8N, u8N, Nat.mod_mod]
theorem ref07_Value_spec {n : Int} {k : Sl → K} (h : Holds B Γ w) (hk : ∀ s w, Holds B (Bytes ty_uint8 s (partV (uOf n) 8) :: Γ) w → k s w) : ref07_Value.call n k w := by
  obtain ⟨hu1, hu2⟩ := uOf_lt n
  refine ref07_Value_ok _ _ _ ?_
  unfold ref07_Value
  refine r_make8 h fun s w h => ?_
  have hsn := Bytes.len h
  simp only [List.length_replicate] at hsn
  refine r_ar hu2 ?_
  refine LoopK.of (fun t w => ∃ i : Nat, t = (((uOf n / 256 ^ i : Nat) : Int), (7 : Int) - i) ∧ i ≤ 8 ∧ Holds B (Bytes ty_uint8 s (partV (uOf n) i) :: Γ) w) (fun t _ => (t.2 + 1).toNat) ⟨0, by simp, by omega, h⟩ ?_
  clear h
  rintro t w ⟨i, rfl, hi, h⟩
  dsimp only
  have hd : uOf n / 256 ^ i ≤ uOf n := Nat.div_le_self _ _
  unfold ref07_Value.b1
  refine r_ite (fun hlt => ?_) (fun hge => ?_)
  · simp only [decide_eq_true_eq] at hlt
    refine r_cd (by decide) ?_
    refine r_ar (e' := ((uOf n / 256 ^ i % 256 : Nat) : Int)) rfl ?_
    refine r_ar (wrapB _) ?_
    rw [show (7 : Int) - (i : Int) = ((7 - i : Nat) : Int) by omega]
    refine r_idxSt h (by omega) rfl fun w h => ?_
    have e1 : ((partV (uOf n) i).map byteV).set (7 - i) (Value.int .u8 ((u8 (uOf n / 256 ^ i % 256)).toNat : Int)) = (partV (uOf n) (i + 1)).map byteV := by
      rw [← partV_step _ i (by omega), List.map_set, u8_mod']
      rfl
    rw [e1] at h
    refine r_cd (by decide) ?_
    refine r_ar (e' := ((uOf n / 256 ^ (i + 1) : Nat) : Int)) (by
      rw [Nat.pow_succ, ← Nat.div_div_eq_div_mul]
      generalize uOf n / 256 ^ i = z at hd ⊢
      show IntKind.wrap .u64 ((z / 256 : Nat) : Int) = _
      exact wrapU64 (by omega) (by omega)) ?_
    refine r_ar (e' := (7 : Int) - ((i + 1 : Nat) : Int)) (by rw [wrap64 (by omega) (by omega)]; omega) ?_
    exact ⟨⟨i + 1, rfl, by omega, h⟩, by omega⟩
  · simp only [decide_eq_false_iff_not] at hge
    have : i = 8 := by omega
    subst this
    exact hk _ _ h
end
end Go.Proofs.Ytfjjocopmknhgaa
/- eval: a transaction under way over a store. -/
namespace Go.Proofs.Ytfjjocopmknhgaa
open Go Go.Sep Go.Sep.Bt
set_option linter.unusedSimpArgs false
set_option linter.unusedVariables false
set_option maxRecDepth 100000

abbrev WX := List (List UInt8 × (Rec × Sl))
abbrev OX := List ((Bool × List UInt8) × Sl)
abbrev wV (x : Rec × Sl) : Value := .agg (recA x.1 x.2)
abbrev wB (p : List UInt8 × (Rec × Sl)) : HProp := Bytes ty_uint8 p.2.2 p.2.1.val
def oF (x : (Bool × List UInt8) × Sl) : List Value := [.bool x.1.1, x.2.val]
theorem oF_len (x : (Bool × List UInt8) × Sl) : (oF x).length = 2 := rfl
abbrev oB (x : (Bool × List UInt8) × Sl) : HProp := Bytes ty_uint8 x.2 x.1.2
/-- A transaction under way. -/
abbrev runL (rb st mb : Nat) (os : Sl) (X : WX) (O : OX) (Γ : List HProp) : List HProp :=
  blk rb (.cells [.pointer (some ⟨st, 0, none⟩), .map (some mb), os.val].toArray ty_eval_run (0, 0)) :: MapR strV wV mb X :: Sep.stars (X.map wB) :: SlC ty_api_Out 2 os (O.flatMap oF) :: Sep.stars (O.map oB) :: Γ
theorem mapRec : mapIs Try.prog ty_map_string_api_Record .string ty_api_Record := ⟨9, by kernel_rfl, by kernel_rfl⟩
abbrev zRec : Rec × Sl := (⟨false, [], 0, 0⟩, ⟨none, 0, 0⟩)
theorem zeroRec : zeroT Try.prog ty_api_Record (wV zRec) := zero_ty_api_Record
/-- A key's record as it is now. -/
def nowM (n : Nat) (M : Recs) (W : List (List UInt8 × Rec)) (k : List UInt8) : Rec := (mget k W).getD (sGet n M (bs k))
abbrev modW (X : WX) : List (List UInt8 × Rec) := X.map fun p => (p.1, p.2.1)
section
variable {B : World} {Γ Δ : List HProp} {rb st mb n : Nat} {os : Sl} {X : WX} {O : OX} {M : Recs} {k : List UInt8}
theorem stars_mem {α : Type} {F : α → HProp} {l : List α} {x : α} {w : World} (hx : x ∈ l) (h : Holds B (Sep.stars (l.map F) :: Γ) w) : ∃ Δ, Holds B (F x :: Δ) w := by
  obtain ⟨A, C, rfl⟩ := List.append_of_mem hx
  exact ⟨_, ((Holds.flat.1 h).perm mid_perm).perm List.perm_middle⟩
theorem rdB_of {E : Nat} {w : World} {s : Sl} {xs : List UInt8} (h : Holds B (Bytes E s xs :: Γ) w) : RdB w s xs := h.rdC List.mem_cons_self
theorem runGet_hg {Q : Array Value → K} (hk : k.length < 1000000000000) (hX : ∀ p ∈ X, p.2.1.ok)
    (hin : ∀ r s, mget k X = some (r, s) → r.ok → (∀ w, Holds B (runL rb st mb os X O (StoreR st n M :: Γ)) w → RdB w s r.val) → HG B (runL rb st mb os X O (StoreR st n M :: Γ)) (Q (recA r s)))
    (hout : mget k X = none → ∀ s, (sGet n M (bs k)).ok → HG B (Bytes ty_uint8 s (sGet n M (bs k)).val :: runL rb st mb os X O (StoreR st n M :: Γ)) (Q (recA (sGet n M (bs k)) s))) :
    HG B (runL rb st mb os X O (StoreR st n M :: Γ)) (eval_run_get.call (some ⟨rb, 0, none⟩) (bs k) Q) := fun w hw => by
  refine eval_run_get_ok _ _ _ _ ?_
  refine hg hw ?_
  clear hw w
  unfold eval_run_get
  refine s_new fun t4 => ?_
  refine s_nn ?_
  refine s_ld (b := rb) (x := some mb) ?_
  refine s_look2 (b := mb) (enc := strV) (cV := wV) (cG := Value.agg) (g := fun x => recA x.1 x.2) (z := zRec) (a := k) (fun _ => rfl) mapRec keyE_str zeroRec ?_
  refine s_new fun x5 => ?_
  cases hm : mget k X with
  | some p =>
    obtain ⟨r, s⟩ := p
    have hmem := mget_some hm
    have hok := hX _ hmem
    simp only [Option.getD_some, Option.isSome_some]
    refine s_stN (b := x5) (l' := recL r s) ?_
    refine s_t ?_
    refine s_ldN (b := x5) (l' := recL r s) ?_
    refine s_stN (b := t4) (l' := recL r s) ?_
    refine s_ldN (b := t4) (l' := recL r s) ?_
    refine s_end (Δ := runL rb st mb os X O (StoreR st n M :: Γ)) ?_
    refine hin r s hm hok fun w hw => ?_
    obtain ⟨Δ, h1⟩ := stars_mem hmem (hw.tail.tail)
    exact rdB_of h1
  | none =>
    simp only [Option.getD_none, Option.isSome_none]
    refine s_stN (b := x5) (l' := recL zRec.1 zRec.2) ?_
    refine s_f ?_
    refine s_ld (b := rb) (x := some ⟨st, 0, none⟩) ?_
    refine s_own st ?_
    refine storeGet_spec (k := bs k) (by simpa [ByteArray.size] using hk) fun s hok => ?_
    refine s_stN (b := t4) (l' := recL (sGet n M (bs k)) s) ?_
    refine s_ldN (b := t4) (l' := recL (sGet n M (bs k)) s) ?_
    exact s_end (hout hm s hok)
/-- A key has a value, or none. -/
theorem runSet_hg {Q : K} {has : Bool} {val : List UInt8} {vs : Sl} (hk : k.length < 1000000000000) (hX : ∀ p ∈ X, p.2.1.ok) (hv : val.length ≤ 1000000000) (hr : ∀ w, Holds B (runL rb st mb os X O (StoreR st n M :: Γ)) w → RdB w vs val)
    (h : ∀ s, ({ nowM n M (modW X) k with has := has, val := val } : Rec).ok → HG B (runL rb st mb os (mset k ({ nowM n M (modW X) k with has := has, val := val }, s) X) O (StoreR st n M :: Γ)) Q) :
    HG B (runL rb st mb os X O (StoreR st n M :: Γ)) (eval_run_set.call (some ⟨rb, 0, none⟩) (bs k) has vs Q) := fun w hw => by
  refine eval_run_set_ok _ _ _ _ _ _ ?_
  refine hg hw ?_
  clear hw w
  unfold eval_run_set
  have rest : ∀ (r : Rec) (s : Sl), r = nowM n M (modW X) k → r.ok → HG B (runL rb st mb os X O (StoreR st n M :: Γ)) (New ty_api_Record [.bool false, Sl.val ⟨none, 0, 0⟩, .int .i64 0, .int .u64 0].toArray fun x8 =>
      StN x8 4 (recA r s) <| bytes_Clone.call vs fun t14 => St x8 (.bool has) <| St (x8.add 1) (Sl.val t14) <| Dr <| Nn (some ⟨rb, 0, none⟩) fun t18 => Ld (t18.add 1) Value.map fun t20 => LdN x8 4 fun t22 =>
      DoU Try.prog (Instr.mapUpdate ty_map_string_api_Record (.map t20) (.string (bs k)) (.agg t22)) Q) := fun r s hr2 hok => by
    refine s_new fun x8 => ?_
    refine s_stN (b := x8) (l' := recL r s) ?_
    refine bytesClone_hg (fun w hw => hr w hw.tail) hv fun s' _ => ?_
    refine s_st (b := x8) ?_
    refine s_st (b := x8) ?_
    refine s_dr ?_
    refine s_nn ?_
    refine s_ld (b := rb) (x := some mb) ?_
    refine s_ldN (b := x8) (l' := recL { r with has := has, val := val } s') ?_
    refine s_upd (b := mb) (enc := strV) (cV := wV) (v := (({ r with has := has, val := val } : Rec), s')) (cG := Value.agg) rfl mapRec keyE_str ?_
    rw [hr2] at hok ⊢
    refine s_end (Δ := wB (k, (({ nowM n M (modW X) k with has := has, val := val } : Rec), s')) :: Sep.stars (X.map wB) :: blk rb (.cells [.pointer (some ⟨st, 0, none⟩), .map (some mb), os.val].toArray ty_eval_run (0, 0)) :: MapR strV wV mb (mset k (({ nowM n M (modW X) k with has := has, val := val } : Rec), s') X) :: SlC ty_api_Out 2 os (O.flatMap oF) :: Sep.stars (O.map oB) :: StoreR st n M :: Γ) ?_
    refine s_mset ?_
    exact s_end (h s' ⟨hok.1, hok.2.1, hv⟩)
  have hmg : mget k (modW X) = (mget k X).map (·.1) := mget_map _ _ _
  refine runGet_hg hk hX (fun r s hm hok _ => ?_) fun hm s hok => ?_
  · refine rest r s ?_ hok
    unfold nowM; rw [hmg, hm]; rfl
  · refine s_end (Δ := runL rb st mb os X O (StoreR st n M :: Γ)) ?_
    refine rest _ s ?_ hok
    unfold nowM; rw [hmg, hm]; rfl
end

/-! ### what an operation does -/
def OpM.ok (o : OpM) : Prop := o.key.length < 1000000000000 ∧ o.val.length ≤ 1000000000 ∧ -9223372036854775808 ≤ o.n ∧ o.n ≤ 9223372036854775807
abbrev WM := List (List UInt8 × Rec)
abbrev OM := List (Bool × List UInt8)
def numOf (v : List UInt8) : Int := IntKind.wrap .i64 (num8 v : Int)
abbrev valOf (n : Int) : List UInt8 := partV (uOf n) 8
def overS (a b : Int) : Bool := decide (0 < b ∧ 9223372036854775807 - b < a ∨ b < 0 ∧ a < -9223372036854775808 - b)
def setW (n : Nat) (M : Recs) (W : WM) (k : List UInt8) (has : Bool) (val : List UInt8) : WM := mset k { nowM n M W k with has := has, val := val } W
def addW (n : Nat) (M : Recs) (W : WM) (k : List UInt8) (d : Int) : WM × Int :=
  if (nowM n M W k).has = true ∧ (nowM n M W k).val.length ≠ 8 then (W, 110) else
  if overS (if (nowM n M W k).has then numOf (nowM n M W k).val else 0) d then (W, 111) else
  (setW n M W k true (valOf ((if (nowM n M W k).has then numOf (nowM n M W k).val else 0) + d)), 0)
def stepW (n : Nat) (M : Recs) (W : WM) (O : OM) (o : OpM) : WM × OM × Int :=
  if o.kind = 1 then (W, O ++ [((nowM n M W o.key).has, (nowM n M W o.key).val)], 0) else
  if o.kind = 7 then (W, O ++ [(true, o.val)], 0) else
  if o.kind = 2 then (setW n M W o.key true o.val, O, 0) else
  if o.kind = 3 then (setW n M W o.key false [], O, 0) else
  if o.kind = 4 then (W, O, if (nowM n M W o.key).has = true ∧ (nowM n M W o.key).val = o.val then 0 else 110) else
  if o.kind = 5 then (W, O, if (nowM n M W o.key).has then 110 else 0) else
  if o.kind = 6 then ((addW n M W o.key o.n).1, O, (addW n M W o.key o.n).2) else (W, O, 0)
theorem wrap_range (n : Int) : -9223372036854775808 ≤ IntKind.wrap .i64 n ∧ IntKind.wrap .i64 n ≤ 9223372036854775807 := by
  simp only [IntKind.wrap, IntKind.signed, IntKind.bits]
  simp
  omega
theorem valOf_len (n : Int) : (valOf n).length = 8 := partV_len _ _
section
variable {B : World} {Γ Δ : List HProp} {rb st mb n : Nat} {os : Sl} {X : WX} {O : OX} {M : Recs} {k : List UInt8}
theorem modW_set {r : Rec} {s : Sl} : modW (mset k (r, s) X) = mset k r (modW X) := (mset_map (fun p : Rec × Sl => p.1) k (r, s) X).symm
theorem ok_mset {r : Rec} {s : Sl} (hX : ∀ p ∈ X, p.2.1.ok) (hr : r.ok) : ∀ p ∈ mset k (r, s) X, p.2.1.ok := fun p hp => by
  rcases mfind k X with ⟨_, h2, _, _⟩ | ⟨j, x, hj, h0, _, _, h2, _⟩
  · rw [h2] at hp
    rcases List.mem_append.1 hp with hp | hp
    · exact hX p hp
    · rw [List.mem_singleton.1 hp]; exact hr
  · rw [h2] at hp
    rcases List.mem_or_eq_of_mem_set hp with hp | rfl
    · exact hX p hp
    · exact hr
theorem runAdd_hg {Q : Int → K} {o : OpM} {osl : Sl} (ho : o.ok) (hX : ∀ p ∈ X, p.2.1.ok)
    (h : ∀ X', modW X' = (addW n M (modW X) o.key o.n).1 → (∀ p ∈ X', p.2.1.ok) → HG B (runL rb st mb os X' O (StoreR st n M :: Γ)) (Q (addW n M (modW X) o.key o.n).2)) :
    HG B (runL rb st mb os X O (StoreR st n M :: Γ)) (eval_run_add.call (some ⟨rb, 0, none⟩) (opF (o, osl)).toArray Q) := fun w hw => by
  refine eval_run_add_ok _ _ _ _ ?_
  refine hg hw ?_
  clear hw w
  obtain ⟨hk, hv, hn1, hn2⟩ := ho
  have hmg : mget o.key (modW X) = (mget o.key X).map (·.1) := mget_map _ _ _
  unfold eval_run_add
  refine s_new fun o3 => ?_
  refine s_ld (b := o3) (x := bs o.key) ?_
  -- the sum
  have sum : ∀ (a : Int) (E : HProp), -9223372036854775808 ≤ a → a ≤ 9223372036854775807 → ¬ ((nowM n M (modW X) o.key).has = true ∧ (nowM n M (modW X) o.key).val.length ≠ 8) → a = (if (nowM n M (modW X) o.key).has then numOf (nowM n M (modW X) o.key).val else 0) →
      HG B (blk o3 (.cells (opF (o, osl)).toArray ty_api_Op (0, 0)) :: runL rb st mb os X O (StoreR st n M :: Γ)) (eval_run_add.s1 Q (some ⟨rb, 0, none⟩) ⟨o3, 0, none⟩ a) := fun a E ha1 ha2 hn8 hae => by
    have done : ∀ t, t = overS a o.n → HG B (blk o3 (.cells (opF (o, osl)).toArray ty_api_Op (0, 0)) :: runL rb st mb os X O (StoreR st n M :: Γ)) (eval_run_add.s2 Q (some ⟨rb, 0, none⟩) ⟨o3, 0, none⟩ a t) := fun t ht => by
      unfold eval_run_add.s2
      refine s_ite (fun hb => ?_) fun hb => ?_
      · have e : addW n M (modW X) o.key o.n = (modW X, 111) := by unfold addW; rw [if_neg hn8, ← hae, if_pos (by rw [← ht, hb])]
        rw [e] at h
        exact s_end (h X rfl hX)
      · have hov : ¬ overS a o.n = true := by rw [← ht, hb]; simp
        have e : addW n M (modW X) o.key o.n = (setW n M (modW X) o.key true (valOf (a + o.n)), 0) := by unfold addW; rw [if_neg hn8, ← hae, if_neg hov]
        rw [e] at h
        refine s_dr ?_
        refine s_ws ?_
        refine s_ldS (b := o3) (x := bs o.key) ?_
        refine s_ldS (b := o3) (x := o.n) ?_
        refine s_ai ?_ (by simp only [overS, decide_eq_true_eq] at hov; omega) (by simp only [overS, decide_eq_true_eq] at hov; omega)
        refine fun w hw => eval_Value_spec hw fun vs w hw => ?_
        refine hg hw ?_
        clear hw w
        refine s_sv ?_
        refine s_end (Δ := runL rb st mb os X O (StoreR st n M :: Bytes ty_uint8 vs (valOf (a + o.n)) :: Γ)) ?_
        refine runSet_hg (val := valOf (a + o.n)) hk hX (by rw [valOf_len]; omega) (fun w hw => ?_) fun s hok => ?_
        · exact rdB_of (hw.drops (Δ := Bytes ty_uint8 vs (valOf (a + o.n)) :: Γ))
        · refine s_end (Δ := runL rb st mb os (mset o.key (({ nowM n M (modW X) o.key with has := true, val := valOf (a + o.n) } : Rec), s) X) O (StoreR st n M :: Γ)) ?_
          exact h _ modW_set (ok_mset hX hok)
    unfold eval_run_add.s1
    refine s_ld (b := o3) (x := o.n) ?_
    refine s_ite (fun hb => ?_) fun hb => ?_
    · have hb' : 0 < o.n := by simpa using hb
      refine s_ld (b := o3) (x := o.n) ?_
      refine s_ai ?_
      refine s_ite (fun hc => ?_) fun hc => ?_
      · refine done _ ?_
        have : 9223372036854775807 - o.n < a := by simpa using hc
        symm; simp only [overS, decide_eq_true_eq]; omega
      · have hc' : ¬ 9223372036854775807 - o.n < a := by simpa using hc
        refine s_ld (b := o3) (x := o.n) ?_
        refine s_f ?_
        refine done _ ?_
        symm; simp only [overS, decide_eq_false_iff_not]; omega
    · have hb' : ¬ 0 < o.n := by simpa using hb
      refine s_ld (b := o3) (x := o.n) ?_
      refine s_ite (fun hc => ?_) fun hc => ?_
      · have hc' : o.n < 0 := by simpa using hc
        refine s_ld (b := o3) (x := o.n) ?_
        refine s_ai ?_
        refine done _ ?_
        simp only [overS, hb', hc', false_and, true_and, false_or]
      · have hc' : ¬ o.n < 0 := by simpa using hc
        refine done _ ?_
        simp only [overS, hb', hc', false_and, or_self, decide_false]
  have rest : ∀ (r : Rec) (s : Sl) (A : HProp), r = nowM n M (modW X) o.key → (∀ w, Holds B (A :: blk o3 (.cells (opF (o, osl)).toArray ty_api_Op (0, 0)) :: runL rb st mb os X O (StoreR st n M :: Γ)) w → RdB w s r.val) →
      HG B (A :: blk o3 (.cells (opF (o, osl)).toArray ty_api_Op (0, 0)) :: runL rb st mb os X O (StoreR st n M :: Γ)) (New ty_api_Record [.bool false, Sl.val ⟨none, 0, 0⟩, .int .i64 0, .int .u64 0].toArray fun x5 => StN x5 4 (recA r s) <| Ld x5 Value.bool fun t13 => Ite t13
        (Ld (x5.add 1) Sl.val fun t16 => eval_Number.call t16 fun t17x0 t17x1 => Ite (!t17x1) (Q 110) (eval_run_add.s1 Q (some ⟨rb, 0, none⟩) ⟨o3, 0, none⟩ t17x0)) (eval_run_add.s1 Q (some ⟨rb, 0, none⟩) ⟨o3, 0, none⟩ 0)) := fun r s A hr hrd => by
    subst hr
    refine s_new fun x5 => ?_
    refine s_stN (b := x5) (l' := recL (nowM n M (modW X) o.key) s) ?_
    refine s_ld (b := x5) (x := (nowM n M (modW X) o.key).has) ?_
    refine s_ite (fun hb => ?_) fun hb => ?_
    · refine s_ld (b := x5) (x := s) ?_
      refine fun w hw => eval_Number_spec (hrd w hw.tail) ?_
      refine hg hw ?_
      clear hw w
      refine s_ite (fun hc => ?_) fun hc => ?_
      · have hc' : (nowM n M (modW X) o.key).val.length ≠ 8 := by simpa using hc
        have e : addW n M (modW X) o.key o.n = (modW X, 110) := by unfold addW; rw [if_pos ⟨hb, hc'⟩]
        rw [e] at h
        exact s_end (h X rfl hX)
      · have hc' : (nowM n M (modW X) o.key).val.length = 8 := by simpa using hc
        rw [if_pos hc']
        refine s_end (Δ := blk o3 (.cells (opF (o, osl)).toArray ty_api_Op (0, 0)) :: runL rb st mb os X O (StoreR st n M :: Γ)) ?_
        refine sum _ A (wrap_range _).1 (wrap_range _).2 (fun h5 => h5.2 hc') ?_
        rw [if_pos hb]; rfl
    · refine s_end (Δ := blk o3 (.cells (opF (o, osl)).toArray ty_api_Op (0, 0)) :: runL rb st mb os X O (StoreR st n M :: Γ)) ?_
      refine sum _ A (by omega) (by omega) (fun h5 => by rw [hb] at h5; exact absurd h5.1 (by simp)) ?_
      rw [hb]; rfl
  refine s_end (Δ := runL rb st mb os X O (StoreR st n M :: blk o3 (.cells (opF (o, osl)).toArray ty_api_Op (0, 0)) :: Γ)) ?_
  refine runGet_hg hk hX (fun r s hm hok hrd => ?_) fun hm s hok => ?_
  · refine fun w hw => ?_
    refine hg (show Holds B (pur True :: _) w from Holds.pur.2 ⟨trivial, hw⟩) ?_
    clear hw w
    refine s_end (Δ := pur True :: blk o3 (.cells (opF (o, osl)).toArray ty_api_Op (0, 0)) :: runL rb st mb os X O (StoreR st n M :: Γ)) ?_
    refine rest r s _ ?_ fun w hw => hrd w hw.drops
    unfold nowM; rw [hmg, hm]; rfl
  · refine s_end (Δ := Bytes ty_uint8 s (sGet n M (bs o.key)).val :: blk o3 (.cells (opF (o, osl)).toArray ty_api_Op (0, 0)) :: runL rb st mb os X O (StoreR st n M :: Γ)) ?_
    refine rest _ s _ ?_ fun w hw => rdB_of hw
    unfold nowM; rw [hmg, hm]; rfl
theorem bytesEqual_hg {a b : Sl} {xs ys : List UInt8} {q : Bool → K} (ha : ∀ w, Holds B Γ w → RdB w a xs) (hb : ∀ w, Holds B Γ w → RdB w b ys) (h : HG B Γ (q (decide (xs = ys)))) : HG B Γ (bytes_Equal.call a b q) := fun w hw => by
  refine bytes_Equal_ok _ _ _ _ ?_
  unfold bytes_Equal
  refine r_str (by kernel_rfl) (ha w hw) ?_
  refine r_str (by kernel_rfl) (hb w hw) ?_
  have e : ((bs xs).toList == (bs ys).toList) = decide (xs = ys) := by rw [bs_list, bs_list]; by_cases h : xs = ys <;> simp [h]
  show q ((bs xs).toList == (bs ys).toList) w
  rw [e]
  exact h w hw
theorem outs_snoc {x : (Bool × List UInt8) × Sl} {q : K} (h : HG B (Sep.stars ((O ++ [x]).map oB) :: Γ) q) : HG B (oB x :: Sep.stars (O.map oB) :: Γ) q := by
  have := s_unmid (F := oB) (A := O) (C := []) (x := x) h
  rwa [List.append_nil] at this
theorem runOut_hg {os' : Sl} {x : (Bool × List UInt8) × Sl} {q : K} (h : HG B (runL rb st mb os' X (O ++ [x]) Γ) q) :
    HG B (oB x :: Sep.stars (O.map oB) :: SlC ty_api_Out 2 os' (O.flatMap oF ++ oF x) :: blk rb (.cells [.pointer (some ⟨st, 0, none⟩), .map (some mb), os'.val].toArray ty_eval_run (0, 0)) :: MapR strV wV mb X :: Sep.stars (X.map wB) :: Γ) q := by
  refine outs_snoc ?_
  have e : O.flatMap oF ++ oF x = (O ++ [x]).flatMap oF := by simp
  rw [e]
  exact s_end h
theorem runStep_hg {Q : Int → K} {o : OpM} {osl : Sl} (ho : o.ok) (hX : ∀ p ∈ X, p.2.1.ok) (hO : O.length < 1000000) (hv : ∀ w, Holds B Γ w → RdB w osl o.val)
    (h : ∀ os' X' O', modW X' = (stepW n M (modW X) (O.map Prod.fst) o).1 → O'.map Prod.fst = (stepW n M (modW X) (O.map Prod.fst) o).2.1 → (∀ p ∈ X', p.2.1.ok) → HG B (runL rb st mb os' X' O' (StoreR st n M :: Γ)) (Q (stepW n M (modW X) (O.map Prod.fst) o).2.2)) :
    HG B (runL rb st mb os X O (StoreR st n M :: Γ)) (eval_run_step.call (some ⟨rb, 0, none⟩) (opF (o, osl)).toArray Q) := fun w hw => by
  refine eval_run_step_ok _ _ _ _ ?_
  refine hg hw ?_
  clear hw w
  have hk := ho.1
  have hvl := ho.2.1
  have hmg : mget o.key (modW X) = (mget o.key X).map (·.1) := mget_map _ _ _
  unfold eval_run_step
  refine s_new fun o3 => ?_
  refine s_ld (b := o3) (x := bs o.key) ?_
  have rest : ∀ (r : Rec) (s : Sl) (A : HProp), r = nowM n M (modW X) o.key → r.ok → (∀ w, Holds B (A :: blk o3 (.cells (opF (o, osl)).toArray ty_api_Op (0, 0)) :: runL rb st mb os X O (StoreR st n M :: Γ)) w → RdB w s r.val) →
      HG B (A :: blk o3 (.cells (opF (o, osl)).toArray ty_api_Op (0, 0)) :: runL rb st mb os X O (StoreR st n M :: Γ)) ((fun t9 => New ty_api_Record [.bool false, Sl.val ⟨none, 0, 0⟩, .int .i64 0, .int .u64 0].toArray fun x5 => StN x5 4 t9 <| 
  Ld (⟨o3, 0, none⟩ : Addr) (Value.int .i64) fun t11 =>
  Ite (decide (t11 = 1))
    (Dr <| WithS fun S =>
    Nn (some ⟨rb, 0, none⟩) fun t16 =>
    LdS S (t16.add 2) Sl.val fun t18 =>
    LdS S x5 Value.bool fun t20 =>
    LdS S (x5.add 1) Sl.val fun t22 =>
    bytes_Clone.call t22 fun t23 =>
    Sv S <|
    Bld #[(.bool false), (Sl.val ⟨none, 0, 0⟩)] (fun i => some (i * 2, 2)) [(0, (.agg #[(.bool t20), (Sl.val t23)]))] fun ct25 =>
    New ty_api_Out ct25 fun t25 =>
    Sv S <|
    Do Try.prog (Builtin.append_ #[ty_s_api_Out, ty_s_api_Out] ty_s_api_Out #[(Sl.val t18), (Sl.val (Sl.mk (some t25) 1 1))]) Sl.val fun t26 =>
    St (t16.add 2) (Sl.val t26) <|
    eval_run_step.s1 Q)
    (Ite (decide (t11 = 7))
      (Dr <| WithS fun S =>
      Nn (some ⟨rb, 0, none⟩) fun t33 =>
      LdS S (t33.add 2) Sl.val fun t35 =>
      LdS S ((⟨o3, 0, none⟩ : Addr).add 2) Sl.val fun t37 =>
      bytes_Clone.call t37 fun t38 =>
      Sv S <|
      Bld #[(.bool false), (Sl.val ⟨none, 0, 0⟩)] (fun i => some (i * 2, 2)) [(0, (.agg #[(.bool true), (Sl.val t38)]))] fun ct40 =>
      New ty_api_Out ct40 fun t40 =>
      Sv S <|
      Do Try.prog (Builtin.append_ #[ty_s_api_Out, ty_s_api_Out] ty_s_api_Out #[(Sl.val t35), (Sl.val (Sl.mk (some t40) 1 1))]) Sl.val fun t41 =>
      St (t33.add 2) (Sl.val t41) <|
      eval_run_step.s1 Q)
      (Ite (decide (t11 = 2))
        (Ld ((⟨o3, 0, none⟩ : Addr).add 1) Value.string fun t48 =>
        Ld ((⟨o3, 0, none⟩ : Addr).add 2) Sl.val fun t50 =>
        eval_run_set.call (some ⟨rb, 0, none⟩) t48 true t50 <|
        eval_run_step.s1 Q)
        (Ite (decide (t11 = 3))
          (Ld ((⟨o3, 0, none⟩ : Addr).add 1) Value.string fun t56 =>
          eval_run_set.call (some ⟨rb, 0, none⟩) t56 false (Sl.mk none 0 0) <|
          eval_run_step.s1 Q)
          (Ite (decide (t11 = 4))
            (Ld x5 Value.bool fun t61 =>
            Ite (!t61)
              (eval_run_step.s2 Q true)
              (Ld (x5.add 1) Sl.val fun t65 =>
              Ld ((⟨o3, 0, none⟩ : Addr).add 2) Sl.val fun t67 =>
              bytes_Equal.call t65 t67 fun t68 =>
              eval_run_step.s2 Q (!t68)))
            (Ite (decide (t11 = 5))
              (Ld x5 Value.bool fun t74 =>
              Ite t74
                (Q 110)
                (eval_run_step.s1 Q))
              (Ite (decide (t11 = 6))
                (LdN (⟨o3, 0, none⟩ : Addr) 4 fun t78 =>
                eval_run_add.call (some ⟨rb, 0, none⟩) t78 fun t79 =>
                Q t79)
                (eval_run_step.s1 Q)))))))) (recA r s)) := fun r s A hr hok hrd => by
    subst hr
    dsimp only
    refine s_new fun x5 => ?_
    refine s_stN (b := x5) (l' := recL (nowM n M (modW X) o.key) s) ?_
    refine s_ld (b := o3) (x := o.kind) ?_
    refine s_cap os fun a1 a2 a3 a4 => ?_
    rw [flatMap_len _ 2 oF_len] at a1
    refine s_ite (fun hb => ?_) fun hb1 => ?_
    · have hb' : o.kind = 1 := by simpa using hb
      have e : stepW n M (modW X) (O.map Prod.fst) o = (modW X, O.map Prod.fst ++ [((nowM n M (modW X) o.key).has, (nowM n M (modW X) o.key).val)], 0) := by unfold stepW; rw [if_pos hb']
      rw [e] at h
      refine s_dr ?_
      refine s_ws ?_
      refine s_nn ?_
      refine s_ldS (b := rb) (x := os) ?_
      refine s_ldS (b := x5) (x := (nowM n M (modW X) o.key).has) ?_
      refine s_ldS (b := x5) (x := s) ?_
      refine bytesClone_hg (fun w hw => hrd w hw.tail) hok.2.2 fun s' _ => ?_
      refine s_sv ?_
      refine s_bld1 (cs := oF (((nowM n M (modW X) o.key).has, (nowM n M (modW X) o.key).val), s')) ?_
      refine s_new fun t => ?_
      refine s_sv ?_
      refine s_append (esz := 2) (s := os) (x := ⟨some ⟨t, 0, none⟩, 1, 1⟩) (us := oF (((nowM n M (modW X) o.key).has, (nowM n M (modW X) o.key).val), s')) (blk_rd rfl) (by simp [oF, flatV]) (by simp only; omega) fun os' hos' => ?_
      refine s_st (b := rb) ?_
      unfold eval_run_step.s1
      refine s_end (Δ := oB (((nowM n M (modW X) o.key).has, (nowM n M (modW X) o.key).val), s') :: Sep.stars (O.map oB) :: SlC ty_api_Out 2 os' (O.flatMap oF ++ oF (((nowM n M (modW X) o.key).has, (nowM n M (modW X) o.key).val), s')) :: blk rb (.cells [.pointer (some ⟨st, 0, none⟩), .map (some mb), os'.val].toArray ty_eval_run (0, 0)) :: MapR strV wV mb X :: Sep.stars (X.map wB) :: StoreR st n M :: Γ) ?_
      refine runOut_hg ?_
      exact h os' X _ rfl (by simp) hX
    have hb1' : ¬ o.kind = 1 := by simpa using hb1
    refine s_ite (fun hb => ?_) fun hb7 => ?_
    · have hb' : o.kind = 7 := by simpa using hb
      have e : stepW n M (modW X) (O.map Prod.fst) o = (modW X, O.map Prod.fst ++ [(true, o.val)], 0) := by unfold stepW; rw [if_neg hb1', if_pos hb']
      rw [e] at h
      refine s_dr ?_
      refine s_ws ?_
      refine s_nn ?_
      refine s_ldS (b := rb) (x := os) ?_
      refine s_ldS (b := o3) (x := osl) ?_
      refine bytesClone_hg (fun w hw => hv w hw.drops) hvl fun s' _ => ?_
      refine s_sv ?_
      refine s_bld1 (cs := oF ((true, o.val), s')) ?_
      refine s_new fun t => ?_
      refine s_sv ?_
      refine s_append (esz := 2) (s := os) (x := ⟨some ⟨t, 0, none⟩, 1, 1⟩) (us := oF ((true, o.val), s')) (blk_rd rfl) (by simp [oF, flatV]) (by simp only; omega) fun os' hos' => ?_
      refine s_st (b := rb) ?_
      unfold eval_run_step.s1
      refine s_end (Δ := oB ((true, o.val), s') :: Sep.stars (O.map oB) :: SlC ty_api_Out 2 os' (O.flatMap oF ++ oF ((true, o.val), s')) :: blk rb (.cells [.pointer (some ⟨st, 0, none⟩), .map (some mb), os'.val].toArray ty_eval_run (0, 0)) :: MapR strV wV mb X :: Sep.stars (X.map wB) :: StoreR st n M :: Γ) ?_
      refine runOut_hg ?_
      exact h os' X _ rfl (by simp) hX
    have hb7' : ¬ o.kind = 7 := by simpa using hb7
    refine s_ite (fun hb => ?_) fun hb2 => ?_
    · have hb' : o.kind = 2 := by simpa using hb
      have e : stepW n M (modW X) (O.map Prod.fst) o = (setW n M (modW X) o.key true o.val, O.map Prod.fst, 0) := by unfold stepW; rw [if_neg hb1', if_neg hb7', if_pos hb']
      rw [e] at h
      refine s_ld (b := o3) (x := bs o.key) ?_
      refine s_ld (b := o3) (x := osl) ?_
      refine s_end (Δ := runL rb st mb os X O (StoreR st n M :: Γ)) ?_
      refine runSet_hg hk hX hvl (fun w hw => hv w hw.drops) fun s hok => ?_
      exact h os _ O modW_set rfl (ok_mset hX hok)
    have hb2' : ¬ o.kind = 2 := by simpa using hb2
    refine s_ite (fun hb => ?_) fun hb3 => ?_
    · have hb' : o.kind = 3 := by simpa using hb
      have e : stepW n M (modW X) (O.map Prod.fst) o = (setW n M (modW X) o.key false [], O.map Prod.fst, 0) := by unfold stepW; rw [if_neg hb1', if_neg hb7', if_neg hb2', if_pos hb']
      rw [e] at h
      refine s_ld (b := o3) (x := bs o.key) ?_
      refine s_end (Δ := runL rb st mb os X O (StoreR st n M :: Γ)) ?_
      refine runSet_hg (val := []) hk hX (by simp) (fun w hw => RdC.none') fun s hok => ?_
      exact h os _ O modW_set rfl (ok_mset hX hok)
    have hb3' : ¬ o.kind = 3 := by simpa using hb3
    refine s_ite (fun hb => ?_) fun hb4 => ?_
    · have hb' : o.kind = 4 := by simpa using hb
      have e : stepW n M (modW X) (O.map Prod.fst) o = (modW X, O.map Prod.fst, if (nowM n M (modW X) o.key).has = true ∧ (nowM n M (modW X) o.key).val = o.val then 0 else 110) := by unfold stepW; rw [if_neg hb1', if_neg hb7', if_neg hb2', if_neg hb3', if_pos hb']
      rw [e] at h
      have fin := h os X O rfl rfl hX
      refine s_ld (b := x5) (x := (nowM n M (modW X) o.key).has) ?_
      refine s_ite (fun hc => ?_) fun hc => ?_
      · have hc' : (nowM n M (modW X) o.key).has = false := by simpa using hc
        rw [if_neg (by rw [hc']; simp)] at fin
        unfold eval_run_step.s2
        refine s_t ?_
        exact s_end fin
      · have hc' : (nowM n M (modW X) o.key).has = true := by simpa using hc
        refine s_ld (b := x5) (x := s) ?_
        refine s_ld (b := o3) (x := osl) ?_
        refine bytesEqual_hg (fun w hw => hrd w hw.tail) (fun w hw => hv w hw.drops) ?_
        unfold eval_run_step.s2
        refine s_ite (fun hd => ?_) fun hd => ?_
        · have hd' : ¬ (nowM n M (modW X) o.key).val = o.val := by simpa using hd
          rw [if_neg fun x => hd' x.2] at fin
          exact s_end fin
        · have hd' : (nowM n M (modW X) o.key).val = o.val := by simpa using hd
          rw [if_pos ⟨hc', hd'⟩] at fin
          exact s_end fin
    have hb4' : ¬ o.kind = 4 := by simpa using hb4
    refine s_ite (fun hb => ?_) fun hb5 => ?_
    · have hb' : o.kind = 5 := by simpa using hb
      have e : stepW n M (modW X) (O.map Prod.fst) o = (modW X, O.map Prod.fst, if (nowM n M (modW X) o.key).has then 110 else 0) := by unfold stepW; rw [if_neg hb1', if_neg hb7', if_neg hb2', if_neg hb3', if_neg hb4', if_pos hb']
      rw [e] at h
      have fin := h os X O rfl rfl hX
      refine s_ld (b := x5) (x := (nowM n M (modW X) o.key).has) ?_
      refine s_ite (fun hc => ?_) fun hc => ?_
      · simp only [hc, if_true] at fin
        exact s_end fin
      · simp only [hc, Bool.false_eq_true, if_false] at fin
        exact s_end fin
    have hb5' : ¬ o.kind = 5 := by simpa using hb5
    refine s_ite (fun hb => ?_) fun hb6 => ?_
    · have hb' : o.kind = 6 := by simpa using hb
      have e : stepW n M (modW X) (O.map Prod.fst) o = ((addW n M (modW X) o.key o.n).1, O.map Prod.fst, (addW n M (modW X) o.key o.n).2) := by unfold stepW; rw [if_neg hb1', if_neg hb7', if_neg hb2', if_neg hb3', if_neg hb4', if_neg hb5', if_pos hb']
      rw [e] at h
      refine s_ldN (b := o3) (l' := opF (o, osl)) ?_
      refine s_end (Δ := runL rb st mb os X O (StoreR st n M :: Γ)) ?_
      exact runAdd_hg ho hX fun X' h1 h2 => h os X' O h1 rfl h2
    · have hb6' : ¬ o.kind = 6 := by simpa using hb6
      have e : stepW n M (modW X) (O.map Prod.fst) o = (modW X, O.map Prod.fst, 0) := by unfold stepW; rw [if_neg hb1', if_neg hb7', if_neg hb2', if_neg hb3', if_neg hb4', if_neg hb5', if_neg hb6']
      rw [e] at h
      exact s_end (h os X O rfl rfl hX)
  refine s_end (Δ := runL rb st mb os X O (StoreR st n M :: blk o3 (.cells (opF (o, osl)).toArray ty_api_Op (0, 0)) :: Γ)) ?_
  refine runGet_hg hk hX (fun r s hm hok hrd => ?_) fun hm s hok => ?_
  · refine fun w hw => ?_
    refine hg (show Holds B (pur True :: _) w from Holds.pur.2 ⟨trivial, hw⟩) ?_
    clear hw w
    refine s_end (Δ := pur True :: blk o3 (.cells (opF (o, osl)).toArray ty_api_Op (0, 0)) :: runL rb st mb os X O (StoreR st n M :: Γ)) ?_
    refine rest r s _ ?_ hok fun w hw => hrd w hw.drops
    unfold nowM; rw [hmg, hm]; rfl
  · refine s_end (Δ := Bytes ty_uint8 s (sGet n M (bs o.key)).val :: blk o3 (.cells (opF (o, osl)).toArray ty_api_Op (0, 0)) :: runL rb st mb os X O (StoreR st n M :: Γ)) ?_
    refine rest _ s _ ?_ hok fun w hw => rdB_of hw
    unfold nowM; rw [hmg, hm]; rfl
end
end Go.Proofs.Ytfjjocopmknhgaa
/- eval.Run: what becomes of a transaction. -/
namespace Go.Proofs.Ytfjjocopmknhgaa
open Go Go.Sep Go.Sep.Bt
set_option linter.unusedSimpArgs false
set_option linter.unusedVariables false
set_option maxRecDepth 100000

def txOk (t : TxX) : Prop := (∀ k ∈ t.writes, k.length < 1000000000000) ∧ (∀ x ∈ t.ops, x.1.ok) ∧ t.ops.length < 1000000 ∧ t.writes.length < 1000000 ∧ t.reads.length < 1000000 ∧ ∀ k ∈ t.reads, k.length < 1000000000000
def moveW (n : Nat) (M : Recs) (to : Int) : List (List UInt8) → WM → WM × Int
  | [], W => (W, 0)
  | k :: ks, W => if (nowM n M W k).cnt = 18446744073709551615 then (W, 111) else moveW n M to ks (mset k { nowM n M W k with home := to, cnt := (nowM n M W k).cnt + 1 } W)
theorem moveW_cons {n : Nat} {M : Recs} {to : Int} {k : List UInt8} {ks : List (List UInt8)} {W : WM} : moveW n M to (k :: ks) W = if (nowM n M W k).cnt = 18446744073709551615 then (W, 111) else moveW n M to ks (mset k { nowM n M W k with home := to, cnt := (nowM n M W k).cnt + 1 } W) := rfl
theorem moveW_nil {n : Nat} {M : Recs} {to : Int} {W : WM} : moveW n M to [] W = (W, 0) := rfl
def opsW (n : Nat) (M : Recs) : List OpX → WM → OM → WM × OM × Int
  | [], W, O => (W, O, 0)
  | x :: xs, W, O => if (stepW n M W O x.1).2.2 ≠ 0 then stepW n M W O x.1 else opsW n M xs (stepW n M W O x.1).1 (stepW n M W O x.1).2.1
def runW (n : Nat) (M : Recs) (t : TxX) : WM × OM × Int :=
  if t.kind = 2 then ((moveW n M t.to t.writes []).1, [], (moveW n M t.to t.writes []).2) else opsW n M t.ops [] []
section
variable {B : World} {Γ Δ : List HProp} {rb st mb n : Nat} {os : Sl} {X : WX} {O : OX} {M : Recs} {k : List UInt8}
/-- A record is in the place of one with the same bytes. -/
theorem mset_same {r r' : Rec} {s : Sl} (hm : mget k X = some (r, s)) (hv : r'.val = r.val) : (mset k (r', s) X).map wB = X.map wB := by
  rcases mfind k X with ⟨h1, _⟩ | ⟨j, x, hj, h0, _, h1, h2, _⟩
  · rw [h1] at hm; cases hm
  · rw [h1] at hm
    injection hm with hm
    subst hm
    rw [h2, List.map_set]
    apply List.ext_getElem?
    intro i
    rw [List.getElem?_set]
    split
    · rename_i h3
      subst h3
      simp only [List.getElem?_map, h0, Option.map_some, List.length_map, hj, if_true]
      show some (Bytes ty_uint8 s r'.val) = some (Bytes ty_uint8 s r.val)
      rw [hv]
    · rfl
theorem runMove_hg {Q : Int → K} {t : TxX} (hX : ∀ p ∈ X, p.2.1.ok) (htx : txOk t) (ht : ∀ w, Holds B Γ w → RdC w t.ws 1 (t.writes.map strV))
    (h : ∀ X', modW X' = (moveW n M t.to t.writes (modW X)).1 → (∀ p ∈ X', p.2.1.ok) → HG B (runL rb st mb os X' O (StoreR st n M :: Γ)) (Q (moveW n M t.to t.writes (modW X)).2)) :
    HG B (runL rb st mb os X O (StoreR st n M :: Γ)) (eval_run_move.call (some ⟨rb, 0, none⟩) (txL t).toArray Q) := fun w hw => by
  refine eval_run_move_ok _ _ _ _ ?_
  have hlen : t.ws.n = t.writes.length := by have := (ht w hw.drops).len; simpa using this.symm
  refine hg hw ?_
  clear hw w
  unfold eval_run_move
  refine s_new fun t3 => ?_
  refine s_ld (b := t3) (x := t.ws) ?_
  refine s_end (Δ := runL rb st mb os X O (StoreR st n M :: blk t3 (.cells (txL t).toArray ty_api_Txn (0, 0)) :: Γ)) ?_
  refine s_loop (α := Int) (ι := WX × Nat) (fun x i => x = (i.2 : Int) ∧ i.2 ≤ t.writes.length ∧ (∀ p ∈ i.1, p.2.1.ok) ∧ moveW n M t.to (t.writes.drop i.2) (modW i.1) = moveW n M t.to t.writes (modW X))
    (fun x i => runL rb st mb os i.1 O (StoreR st n M :: blk t3 (.cells (txL t).toArray ty_api_Txn (0, 0)) :: Γ)) (fun x i => t.writes.length - i.2) (X, 0) ⟨rfl, Nat.zero_le _, hX, rfl⟩ ?_
  rintro k' _ ⟨X1, j⟩ ⟨rfl, hj, hX1, he⟩ hk'
  simp only at hj hX1 he hk' ⊢
  unfold eval_run_move.b1
  refine s_ite (fun hb => ?_) fun hb => ?_
  · have hjl : j < t.writes.length := by simp only [decide_eq_true_eq] at hb; omega
    have hd : t.writes.drop j = t.writes[j] :: t.writes.drop (j + 1) := List.drop_eq_getElem_cons hjl
    have hkl : t.writes[j].length < 1000000000000 := htx.1 _ (List.getElem_mem hjl)
    have hge : t.writes[j]? = some t.writes[j] := List.getElem?_eq_getElem hjl
    rw [hd] at he
    generalize t.writes[j] = key at he hkl hge
    refine s_idxS (L := t.writes) (fun w hw => ht w hw.drops) hge ?_
    have hmg : mget key (modW X1) = (mget key X1).map (·.1) := mget_map _ _ _
    rw [moveW_cons] at he
    have rest : ∀ (r : Rec) (s : Sl) (A : HProp), r = nowM n M (modW X1) key → r.ok → (∀ r' : Rec, r'.val = r.val → ∀ q : K, HG B (Sep.stars ((mset key (r', s) X1).map wB) :: blk rb (.cells [.pointer (some ⟨st, 0, none⟩), .map (some mb), os.val].toArray ty_eval_run (0, 0)) :: MapR strV wV mb (mset key (r', s) X1) :: SlC ty_api_Out 2 os (O.flatMap oF) :: Sep.stars (O.map oB) :: StoreR st n M :: blk t3 (.cells (txL t).toArray ty_api_Txn (0, 0)) :: Γ) q → HG B (A :: Sep.stars (X1.map wB) :: blk rb (.cells [.pointer (some ⟨st, 0, none⟩), .map (some mb), os.val].toArray ty_eval_run (0, 0)) :: MapR strV wV mb (mset key (r', s) X1) :: SlC ty_api_Out 2 os (O.flatMap oF) :: Sep.stars (O.map oB) :: StoreR st n M :: blk t3 (.cells (txL t).toArray ty_api_Txn (0, 0)) :: Γ) q) →
        HG B (A :: runL rb st mb os X1 O (StoreR st n M :: blk t3 (.cells (txL t).toArray ty_api_Txn (0, 0)) :: Γ)) ((fun t17 => New ty_api_Record [.bool false, Sl.val ⟨none, 0, 0⟩, .int .i64 0, .int .u64 0].toArray fun x7 =>
    StN x7 4 t17 <|
    Ld (x7.add 3) (Value.int .u64) fun t19 =>
    Ite (decide (t19 = 18446744073709551615))
      (Q 111)
      (Ld ((⟨t3, 0, none⟩ : Addr).add 4) (Value.int .i64) fun t22 =>
      St (x7.add 2) (.int .i64 t22) <|
      Ld (x7.add 3) (Value.int .u64) fun t25 =>
      Ar (IntKind.wrap .u64 (t25 + 1)) fun t26 =>
      St (x7.add 3) (.int .u64 t26) <|
      Dr <|
      Nn (some ⟨rb, 0, none⟩) fun t29 =>
      Ld (t29.add 1) Value.map fun t31 =>
      LdN x7 4 fun t33 =>
      DoU Try.prog (Instr.mapUpdate ty_map_string_api_Record (.map t31) (.string (bs key)) (.agg t33)) <|
      Ar (IntKind.wrap .i64 ((j : Int) + 1)) fun t34 =>
      k' t34)) (recA r s)) := fun r s A hr hok hA => by
      subst hr
      dsimp only
      refine s_new fun x7 => ?_
      refine s_stN (b := x7) (l' := recL (nowM n M (modW X1) key) s) ?_
      refine s_ld (b := x7) (x := (nowM n M (modW X1) key).cnt) ?_
      refine s_ite (fun hc => ?_) fun hc => ?_
      · rw [if_pos (by simpa using hc)] at he
        have := h X1 (by rw [← he]) hX1
        rw [← he] at this
        exact s_end this
      · have hc' : ¬ (nowM n M (modW X1) key).cnt = 18446744073709551615 := by simpa using hc
        rw [if_neg hc'] at he
        refine s_ld (b := t3) (x := t.to) ?_
        refine s_st (b := x7) ?_
        refine s_ld (b := x7) (x := (nowM n M (modW X1) key).cnt) ?_
        obtain ⟨o1, o2, o3⟩ := hok
        refine s_ar (wrapU64 (by omega) (by omega)) ?_
        refine s_st (b := x7) ?_
        refine s_dr ?_
        refine s_nn ?_
        refine s_ld (b := rb) (x := some mb) ?_
        refine s_ldN (b := x7) (l' := recL { nowM n M (modW X1) key with home := t.to, cnt := (nowM n M (modW X1) key).cnt + 1 } s) ?_
        refine s_upd (b := mb) (enc := strV) (cV := wV) (v := (({ nowM n M (modW X1) key with home := t.to, cnt := (nowM n M (modW X1) key).cnt + 1 } : Rec), s)) (cG := Value.agg) rfl mapRec keyE_str ?_
        have hwl := htx.2.2.2.1
        refine s_ai ?_
        refine s_end (Δ := A :: Sep.stars (X1.map wB) :: blk rb (.cells [.pointer (some ⟨st, 0, none⟩), .map (some mb), os.val].toArray ty_eval_run (0, 0)) :: MapR strV wV mb (mset key ({ nowM n M (modW X1) key with home := t.to, cnt := (nowM n M (modW X1) key).cnt + 1 }, s) X1) :: SlC ty_api_Out 2 os (O.flatMap oF) :: Sep.stars (O.map oB) :: StoreR st n M :: blk t3 (.cells (txL t).toArray ty_api_Txn (0, 0)) :: Γ) ?_
        refine hA { nowM n M (modW X1) key with home := t.to, cnt := (nowM n M (modW X1) key).cnt + 1 } rfl _ ?_
        refine s_end (Δ := runL rb st mb os (mset key ({ nowM n M (modW X1) key with home := t.to, cnt := (nowM n M (modW X1) key).cnt + 1 }, s) X1) O (StoreR st n M :: blk t3 (.cells (txL t).toArray ty_api_Txn (0, 0)) :: Γ)) ?_
        refine hk' _ (mset key ({ nowM n M (modW X1) key with home := t.to, cnt := (nowM n M (modW X1) key).cnt + 1 }, s) X1, j + 1) ⟨by simp, hjl, ok_mset hX1 ⟨by simp only; omega, by simp only; omega, o3⟩, ?_⟩ (by simp only; omega)
        simp only
        rw [modW_set]
        exact he
    refine runGet_hg hkl hX1 (fun r s hm hok hrd => ?_) fun hm s hok => ?_
    · refine fun w hw => ?_
      refine hg (show Holds B (pur True :: _) w from Holds.pur.2 ⟨trivial, hw⟩) ?_
      clear hw w
      refine rest r s _ (by unfold nowM; rw [hmg, hm]; rfl) hok fun r' hr' q hq => ?_
      rw [mset_same hm hr'] at hq
      exact s_end hq
    · refine rest _ s _ (by unfold nowM; rw [hmg, hm]; rfl) hok fun r' hr' q hq => ?_
      rw [show Bytes ty_uint8 s (sGet n M (bs key)).val = wB (key, (r', s)) by show _ = Bytes ty_uint8 s r'.val; rw [hr']]
      exact s_mset hq
  · have hjl : j = t.writes.length := by simp only [decide_eq_false_iff_not] at hb; omega
    rw [hjl, List.drop_length, moveW_nil] at he
    have := h X1 (by rw [← he]) hX1
    rw [← he] at this
    exact s_end this
end

/-! ### the rows that a transaction writes -/
def rowF (x : List UInt8 × (Rec × Sl)) : List Value := strV x.1 :: recL x.2.1 x.2.2
theorem rowF_len (x : List UInt8 × (Rec × Sl)) : (rowF x).length = 5 := rfl
def sortW {ν : Type} (W : List (List UInt8 × ν)) : List (List UInt8 × ν) := W.mergeSort fun p q => decide (p.1 ≤ q.1)
theorem sortW_keys {ν : Type} (W : List (List UInt8 × ν)) : (sortW W).map Prod.fst = sortL (W.map Prod.fst) := List.map_mergeSort (fun a _ b _ => rfl)
theorem sortW_mod (X : WX) : modW (sortW X) = sortW (modW X) := List.map_mergeSort (fun a _ b _ => rfl)
theorem sortW_perm {ν : Type} (W : List (List UInt8 × ν)) : (sortW W).Perm W := List.mergeSort_perm _ _
abbrev KeysOnce {ν : Type} (W : List (List UInt8 × ν)) : Prop := (W.map Prod.fst).Nodup
theorem once_mset {ν : Type} {W : List (List UInt8 × ν)} {k : List UInt8} {v : ν} (h : KeysOnce W) : KeysOnce (mset k v W) := by
  unfold KeysOnce
  rw [mset_keys]
  split
  · exact h
  · rename_i hk
    refine List.nodup_append.2 ⟨h, by simp, fun a ha b hb => ?_⟩
    rw [List.mem_singleton.1 hb]
    exact fun e => hk (e ▸ ha)
theorem once_get {ν : Type} {W : List (List UInt8 × ν)} {k : List UInt8} {v : ν} (h : KeysOnce W) (hm : (k, v) ∈ W) : mget k W = some v := by
  induction W with
  | nil => cases hm
  | cons p W ih =>
    have h1 := List.nodup_cons.1 (show (p.1 :: W.map Prod.fst).Nodup from h)
    unfold mget
    rcases List.mem_cons.1 hm with rfl | hm
    · rw [if_pos rfl]
    · rw [if_neg (show ¬ k = p.1 from fun e => h1.1 (by rw [← e]; exact List.mem_map.2 ⟨_, hm, rfl⟩))]
      exact ih h1.2 hm
theorem once_step {n : Nat} {M : Recs} {W : WM} {O : OM} {o : OpM} (h : KeysOnce W) : KeysOnce (stepW n M W O o).1 := by
  unfold stepW setW
  repeat' split
  all_goals first | exact h | exact once_mset h | skip
  unfold addW setW
  repeat' split
  all_goals first | exact h | exact once_mset h
theorem step_len {n : Nat} {M : Recs} {W : WM} {O : OM} {o : OpM} : (stepW n M W O o).2.1.length ≤ O.length + 1 := by
  unfold stepW
  repeat' split
  all_goals simp
theorem once_ops {n : Nat} {M : Recs} : ∀ {xs : List OpX} {W : WM} {O : OM}, KeysOnce W → KeysOnce (opsW n M xs W O).1
  | [], _, _, h => h
  | x :: xs, W, O, h => by
    unfold opsW
    split
    · exact once_step h
    · exact once_ops (once_step h)
theorem once_move {n : Nat} {M : Recs} {to : Int} : ∀ {ks : List (List UInt8)} {W : WM}, KeysOnce W → KeysOnce (moveW n M to ks W).1
  | [], _, h => h
  | k :: ks, W, h => by
    rw [moveW_cons]
    split
    · exact h
    · exact once_move (once_mset h)
theorem once_run {n : Nat} {M : Recs} {t : TxX} : KeysOnce (runW n M t).1 := by
  unfold runW
  split
  · exact once_move (by simp [KeysOnce])
  · exact once_ops (by simp [KeysOnce])
theorem opsW_cons {n : Nat} {M : Recs} {x : OpX} {xs : List OpX} {W : WM} {O : OM} : opsW n M (x :: xs) W O = if (stepW n M W O x.1).2.2 ≠ 0 then stepW n M W O x.1 else opsW n M xs (stepW n M W O x.1).1 (stepW n M W O x.1).2.1 := rfl
theorem opsW_nil {n : Nat} {M : Recs} {W : WM} {O : OM} : opsW n M [] W O = (W, O, 0) := rfl
section
variable {B : World} {Γ Δ : List HProp} {rb st mb n t4 : Nat} {os : Sl} {X : WX} {O : OX} {M : Recs} {k : List UInt8}
/-- The end of Run: nothing, or what was put out and the rows. -/
theorem runEnd_hg {Q : Array Value → Sl → K} {e : Int} (hX : KeysOnce X) (hXl : X.length ≤ 1000000)
    (hbad : e ≠ 0 → HG B Γ (Q #[.int .i64 e, Sl.val ⟨none, 0, 0⟩] ⟨none, 0, 0⟩))
    (hgood : e = 0 → ∀ rows, HG B (SlC ty_api_Out 2 os (O.flatMap oF) :: Sep.stars (O.map oB) :: SlC ty_api_Row 5 rows ((sortW X).flatMap rowF) :: Sep.stars ((sortW X).map wB) :: Γ) (Q #[.int .i64 0, os.val] rows)) :
    HG B (blk t4 (.cells [.int .i64 0, Sl.val ⟨none, 0, 0⟩].toArray ty_api_Result (0, 0)) :: runL rb st mb os X O Γ) (eval_Run.s1 Q ⟨t4, 0, none⟩ ⟨rb, 0, none⟩ e) := by
  unfold eval_Run.s1
  refine s_ite (fun hb => ?_) fun hb => ?_
  · refine s_stN (b := t4) (l' := [.int .i64 e, Sl.val ⟨none, 0, 0⟩]) ?_
    refine s_ldN (b := t4) (l' := [.int .i64 e, Sl.val ⟨none, 0, 0⟩]) ?_
    exact s_end (hbad (by simpa using hb))
  have h0 : e = 0 := by simpa using hb
  have hgood := hgood h0
  refine s_ld (b := rb) (x := some mb) ?_
  refine s_own mb ?_
  refine fun w hw => sorted_keys_specR hXl hw fun ks w hw => ?_
  refine hg hw ?_
  clear hw w
  rw [← sortW_keys]
  generalize hR : sortW X = R at *
  have hRm : ∀ x ∈ R, mget x.1 X = some x.2 := fun x hx => once_get hX (by rw [← hR] at hx; exact (sortW_perm X).subset hx)
  have hRl : R.length ≤ 1000000 := by rw [← hR, (sortW_perm X).length_eq]; exact hXl
  have hperm : (R.map wB).Perm (X.map wB) := by rw [← hR]; exact (sortW_perm X).map _
  refine s_cap ks fun c1 c2 c3 c4 => ?_
  have hkn : ks.n = R.length := by simpa using c1.symm
  refine fun w hw => ?_
  refine hg (show Holds B (SlC ty_api_Row 5 ⟨none, 0, 0⟩ [] :: _) w from hw.nilSl _ _) ?_
  clear hw w
  refine s_loop (α := Sl × Int) (ι := Nat) (fun x i => x.2 = (i : Int) ∧ i ≤ R.length)
    (fun x i => SlC ty_api_Row 5 x.1 ((R.take i).flatMap rowF) :: SlS ks (R.map Prod.fst) :: MapR strV wV mb X :: blk t4 (.cells [.int .i64 0, Sl.val ⟨none, 0, 0⟩].toArray ty_api_Result (0, 0)) :: blk rb (.cells [.pointer (some ⟨st, 0, none⟩), .map (some mb), os.val].toArray ty_eval_run (0, 0)) :: Sep.stars (X.map wB) :: SlC ty_api_Out 2 os (O.flatMap oF) :: Sep.stars (O.map oB) :: Γ) (fun x i => R.length - i) 0 ⟨rfl, Nat.zero_le _⟩ ?_
  rintro k' ⟨rows, jj⟩ j ⟨hj, hjl⟩ hk'
  simp only at hj hjl hk' ⊢
  subst hj
  unfold eval_Run.b2
  refine s_cap rows fun d1 d2 d3 d4 => ?_
  rw [flatMap_len _ 5 rowF_len, List.length_take, Nat.min_eq_left hjl] at d1
  refine s_ite (fun hb2 => ?_) fun hb2 => ?_
  · have hjl2 : j < R.length := by simp only [decide_eq_true_eq] at hb2; omega
    have hge : (R.map Prod.fst)[j]? = some R[j].1 := by rw [List.getElem?_map, List.getElem?_eq_getElem hjl2]; rfl
    have hmx := hRm _ (List.getElem_mem hjl2)
    have htk : R.take (j + 1) = R.take j ++ [R[j]] := List.take_succ_eq_append_getElem hjl2
    generalize R[j] = x at hge hmx htk
    refine s_idxS (L := R.map Prod.fst) (fun w hw => (own_rd (s := ks) hw).1) hge ?_
    refine s_ld (b := rb) (x := some mb) ?_
    refine s_look1 (b := mb) (enc := strV) (cV := wV) (cG := Value.agg) (g := fun x => recA x.1 x.2) (z := zRec) (a := x.1) (fun _ => rfl) mapRec keyE_str zeroRec ?_
    rw [hmx]
    refine s_bld (cs := rowF x) ?_ rfl
    refine s_bld1 (cs := rowF x) ?_
    refine s_app1 (s := rows) (m := 1) (us := rowF x) (fun rows' hrows' => ?_)
    refine s_ai ?_
    have e1 : (R.take j).flatMap rowF ++ rowF x = (R.take (j + 1)).flatMap rowF := by rw [htk]; simp
    rw [e1]
    exact hk' (rows', (j : Int) + 1) (j + 1) ⟨by simp, hjl2⟩ (by omega)
  · have hjl2 : j = R.length := by simp only [decide_eq_false_iff_not] at hb2; omega
    refine s_ld (b := rb) (x := os) ?_
    refine s_stN (b := t4) (l' := [.int .i64 0, os.val]) ?_
    refine s_ldN (b := t4) (l' := [.int .i64 0, os.val]) ?_
    rw [hjl2, List.take_length]
    refine s_pick (Sep.stars (X.map wB)) ?_
    refine fun w hw => ?_
    refine hg (show Holds B (Sep.stars (R.map wB) :: _) w from Holds.flat.2 ((Holds.flat.1 hw).perm (hperm.symm.append_right _))) ?_
    exact s_end (hgood rows)
theorem keys_mod (X : WX) : (modW X).map Prod.fst = X.map Prod.fst := by simp [modW, Function.comp_def]
theorem mset_len {ν : Type} (W : List (List UInt8 × ν)) (k : List UInt8) (v : ν) : (mset k v W).length ≤ W.length + 1 := by
  have h := congrArg List.length (mset_keys W k v)
  rw [List.length_map] at h
  rw [h]
  split
  · simp
  · simp
theorem step_wlen {n : Nat} {M : Recs} {W : WM} {O : OM} {o : OpM} : (stepW n M W O o).1.length ≤ W.length + 1 := by
  unfold stepW setW
  repeat' split
  all_goals first | exact mset_len _ _ _ | (simp only; omega) | skip
  unfold addW setW
  repeat' split
  all_goals first | exact mset_len _ _ _ | (simp only; omega)
theorem ops_wlen {n : Nat} {M : Recs} : ∀ {xs : List OpX} {W : WM} {O : OM}, (opsW n M xs W O).1.length ≤ W.length + xs.length
  | [], _, _ => by simp [opsW]
  | x :: xs, W, O => by
    rw [opsW_cons]
    have := step_wlen (n := n) (M := M) (W := W) (O := O) (o := x.1)
    split
    · simp only [List.length_cons]; omega
    · have h2 := ops_wlen (n := n) (M := M) (xs := xs) (W := (stepW n M W O x.1).1) (O := (stepW n M W O x.1).2.1)
      simp only [List.length_cons]; omega
theorem move_wlen {n : Nat} {M : Recs} {to : Int} : ∀ {ks : List (List UInt8)} {W : WM}, (moveW n M to ks W).1.length ≤ W.length + ks.length
  | [], _ => by simp [moveW]
  | k :: ks, W => by
    rw [moveW_cons]
    split
    · simp only [List.length_cons]; omega
    · exact Nat.le_trans move_wlen (Nat.le_trans (Nat.add_le_add_right (mset_len _ _ _) _) (by simp only [List.length_cons]; omega))
/-- Run. -/
theorem eval_Run_hg {Q : Array Value → Sl → K} {t : TxX} (htx : txOk t) (ht : ∀ w, Holds B Γ w → txRd w t)
    (hbad : (runW n M t).2.2 ≠ 0 → HG B (StoreR st n M :: Γ) (Q #[.int .i64 (runW n M t).2.2, Sl.val ⟨none, 0, 0⟩] ⟨none, 0, 0⟩))
    (hgood : (runW n M t).2.2 = 0 → ∀ (os : Sl) (O : OX) (rows : Sl) (R : WX), O.map Prod.fst = (runW n M t).2.1 → modW R = sortW (runW n M t).1 → (∀ p ∈ R, p.2.1.ok) → HG B (SlC ty_api_Out 2 os (O.flatMap oF) :: Sep.stars (O.map oB) :: SlC ty_api_Row 5 rows (R.flatMap rowF) :: Sep.stars (R.map wB) :: StoreR st n M :: Γ) (Q #[.int .i64 0, os.val] rows)) :
    HG B (StoreR st n M :: Γ) (eval_Run.call (some ⟨st, 0, none⟩) (txL t).toArray Q) := fun w hw => by
  refine eval_Run_ok _ _ _ _ ?_
  have hon : t.os.n = t.ops.length := rd_len opF_len (by omega) (ht w hw.drops).2.2.1
  refine hg hw ?_
  clear hw w
  unfold eval_Run
  refine s_new fun t3 => ?_
  refine s_new fun t4 => ?_
  refine s_mkMap (enc := strV) (cV := wV) fun mb => ?_
  refine s_new fun rb => ?_
  refine s_ld (b := t3) (x := t.kind) ?_
  refine fun w hw => ?_
  refine hg (show Holds B (Sep.stars (([] : WX).map wB) :: _) w from Holds.flat.2 hw) ?_
  clear hw w
  refine fun w hw => ?_
  refine hg (show Holds B (Sep.stars (([] : OX).map oB) :: _) w from Holds.flat.2 hw) ?_
  clear hw w
  refine fun w hw => ?_
  refine hg (show Holds B (SlC ty_api_Out 2 ⟨none, 0, 0⟩ (([] : OX).flatMap oF) :: _) w from hw.nilSl _ _) ?_
  clear hw w
  -- the end, for any
  have fin : ∀ (os : Sl) (X : WX) (O : OX) (e : Int), modW X = (runW n M t).1 → O.map Prod.fst = (runW n M t).2.1 → e = (runW n M t).2.2 → (∀ p ∈ X, p.2.1.ok) → HG B (blk t4 (.cells [.int .i64 0, Sl.val ⟨none, 0, 0⟩].toArray ty_api_Result (0, 0)) :: runL rb st mb os X O (StoreR st n M :: Γ)) (eval_Run.s1 Q ⟨t4, 0, none⟩ ⟨rb, 0, none⟩ e) := fun os X O e h1 h2 h3 h4 => by
    have hko : KeysOnce X := by unfold KeysOnce; rw [← keys_mod, h1]; exact once_run
    have hwl : X.length ≤ 1000000 := by
      have e1 : X.length = (modW X).length := by simp
      rw [e1, h1]
      unfold runW
      have := htx.2.2
      split
      · have h5 := move_wlen (n := n) (M := M) (to := t.to) (ks := t.writes) (W := [])
        simp only [List.length_nil] at h5
        simp only; omega
      · have h5 := ops_wlen (n := n) (M := M) (xs := t.ops) (W := []) (O := [])
        simp only [List.length_nil] at h5
        omega
    refine runEnd_hg hko hwl (fun h5 => ?_) fun h5 rows => ?_
    · rw [h3]; exact hbad (by rw [← h3]; exact h5)
    · refine hgood (by rw [← h3]; exact h5) os O rows (sortW X) h2 (by rw [sortW_mod, h1]) fun p hp => h4 p ((sortW_perm X).subset hp)
  refine s_ite (fun hb => ?_) fun hb => ?_
  · have hk2 : t.kind = 2 := by simpa using hb
    have hr : runW n M t = ((moveW n M t.to t.writes []).1, [], (moveW n M t.to t.writes []).2) := by unfold runW; rw [if_pos hk2]
    refine s_ldN (b := t3) (l' := txL t) ?_
    refine s_end (Δ := runL rb st mb ⟨none, 0, 0⟩ [] [] (StoreR st n M :: blk t4 (.cells [.int .i64 0, Sl.val ⟨none, 0, 0⟩].toArray ty_api_Result (0, 0)) :: Γ)) ?_
    refine runMove_hg (by simp) htx (fun w hw => (ht w hw.tail).2.1) fun X' h1 h2 => ?_
    refine s_end (Δ := blk t4 (.cells [.int .i64 0, Sl.val ⟨none, 0, 0⟩].toArray ty_api_Result (0, 0)) :: runL rb st mb ⟨none, 0, 0⟩ X' [] (StoreR st n M :: Γ)) ?_
    exact fin _ X' [] _ (by rw [hr]; exact h1) (by rw [hr]; rfl) (by rw [hr]; rfl) h2
  · have hk2 : ¬ t.kind = 2 := by simpa using hb
    have hr : runW n M t = opsW n M t.ops [] [] := by unfold runW; rw [if_neg hk2]
    refine s_ld (b := t3) (x := t.os) ?_
    refine s_end (Δ := runL rb st mb ⟨none, 0, 0⟩ [] [] (StoreR st n M :: blk t4 (.cells [.int .i64 0, Sl.val ⟨none, 0, 0⟩].toArray ty_api_Result (0, 0)) :: Γ)) ?_
    refine s_loop (α := Int × Int) (ι := Sl × WX × OX × Nat) (fun x i => x.1 = 0 ∧ x.2 = (i.2.2.2 : Int) ∧ i.2.2.2 ≤ t.ops.length ∧ (∀ p ∈ i.2.1, p.2.1.ok) ∧ i.2.2.1.length ≤ i.2.2.2 ∧ opsW n M (t.ops.drop i.2.2.2) (modW i.2.1) (i.2.2.1.map Prod.fst) = opsW n M t.ops [] [])
      (fun x i => runL rb st mb i.1 i.2.1 i.2.2.1 (StoreR st n M :: blk t4 (.cells [.int .i64 0, Sl.val ⟨none, 0, 0⟩].toArray ty_api_Result (0, 0)) :: Γ)) (fun x i => t.ops.length - i.2.2.2) (⟨none, 0, 0⟩, [], [], 0) ⟨rfl, rfl, Nat.zero_le _, by simp, Nat.le_refl _, rfl⟩ ?_
    rintro k' ⟨_, _⟩ ⟨os1, X1, O1, j⟩ ⟨rfl, rfl, hjl, hX1, hO1, he⟩ hk'
    simp only at hjl hX1 hO1 he hk' ⊢
    unfold eval_Run.b3
    refine s_ite (fun hb2 => ?_) fun hb2 => ?_
    · have hjl2 : j < t.ops.length := by simp only [decide_eq_true_eq] at hb2; omega
      have hge : t.ops[j]? = some t.ops[j] := List.getElem?_eq_getElem hjl2
      have hmem : t.ops[j] ∈ t.ops := List.getElem_mem hjl2
      rw [List.drop_eq_getElem_cons hjl2] at he
      generalize t.ops[j] = x at hge hmem he
      obtain ⟨o, osl⟩ := x
      refine s_idxN opF opF_len (fun w hw => (ht w hw.drops).2.2.1) hge ?_
      refine s_new fun o9 => ?_
      refine s_stN (b := o9) (l' := opF (o, osl)) ?_
      refine s_ldN (b := o9) (l' := opF (o, osl)) ?_
      refine s_end (Δ := runL rb st mb os1 X1 O1 (StoreR st n M :: blk t4 (.cells [.int .i64 0, Sl.val ⟨none, 0, 0⟩].toArray ty_api_Result (0, 0)) :: Γ)) ?_
      have hol := htx.2.2.1
      refine runStep_hg (htx.2.1 _ hmem) hX1 (by omega) (fun w hw => (ht w hw.tail).2.2.2 _ hmem) fun os2 X2 O2 h1 h2 h3 => ?_
      rw [opsW_cons] at he
      refine s_ite (fun hc => ?_) fun hc => ?_
      · have hc' : (stepW n M (modW X1) (O1.map Prod.fst) o).2.2 ≠ 0 := by simpa using hc
        rw [if_pos hc'] at he
        refine s_end (Δ := blk t4 (.cells [.int .i64 0, Sl.val ⟨none, 0, 0⟩].toArray ty_api_Result (0, 0)) :: runL rb st mb os2 X2 O2 (StoreR st n M :: Γ)) ?_
        exact fin os2 X2 O2 _ (by rw [hr, ← he, h1]) (by rw [hr, ← he, h2]) (by rw [hr, ← he]) h3
      · have hc' : (stepW n M (modW X1) (O1.map Prod.fst) o).2.2 = 0 := by simpa using hc
        rw [if_neg (by simp [hc'])] at he
        refine s_ai ?_
        rw [hc']
        refine hk' (0, (j : Int) + 1) (os2, X2, O2, j + 1) ⟨rfl, by simp, hjl2, h3, ?_, ?_⟩ (by simp only; omega)
        · have e1 := congrArg List.length h2
          have e2 := step_len (n := n) (M := M) (W := modW X1) (O := O1.map Prod.fst) (o := o)
          simp only [List.length_map] at e1 e2
          simp only; omega
        · simp only
          rw [h1, h2]; exact he
    · have hjl2 : j = t.ops.length := by simp only [decide_eq_false_iff_not] at hb2; omega
      rw [hjl2, List.drop_length, opsW_nil] at he
      refine s_end (Δ := blk t4 (.cells [.int .i64 0, Sl.val ⟨none, 0, 0⟩].toArray ty_api_Result (0, 0)) :: runL rb st mb os1 X1 O1 (StoreR st n M :: Γ)) ?_
      exact fin os1 X1 O1 _ (by rw [hr, ← he]) (by rw [hr, ← he]) (by rw [hr, ← he]) hX1
end
end Go.Proofs.Ytfjjocopmknhgaa
/- A B-tree's node, leaf or not, in one view. Holds for every program. -/
namespace Go.Sep
open Go Go.RowKit
set_option linter.unusedSimpArgs false
set_option linter.unusedVariables false
namespace Bt
section
variable {κ : Type} {G : BtT κ} {c : κ → κ → Int} {B : World} {Γ Δ : List HProp}
/-- Items and kids in turn. -/
def wv : List G.It → List (Kid G) → List G.It
  | its, [] => its
  | [], q :: _ => q.2
  | x :: its, q :: ks => q.2 ++ x :: wv its ks
theorem wv_ps (q0 : Kid G) : ∀ (ps : List (G.It × Kid G)), wv (ps.map Prod.fst) (q0 :: ps.map Prod.snd) = psL q0 ps
  | [] => by simp [wv, psL]
  | (x, q) :: ps => by
    have e : psL q0 ((x, q) :: ps) = q0.2 ++ x :: psL q ps := by simp [psL]
    rw [e, ← wv_ps q ps]; rfl
/-- As many kids as there must be. -/
def Fit (d : Nat) (its : List G.It) (ks : List (Kid G)) : Prop := match d with
  | 0 => ks = []
  | _ + 1 => ks.length = its.length + 1
def kidsD (G : BtT κ) : Nat → List (Kid G) → HProp
  | 0, _ => Sep.stars []
  | d + 1, ks => kidsR G d ks
abbrev rawL (G : BtT κ) (d b : Nat) (s kd : Sl) (its : List G.It) (ks : List (Kid G)) (Γ : List HProp) : List HProp := nodeB G b s kd :: itsR G s its :: kpsR G kd (ks.map ptr) :: kidsD G d ks :: Γ
theorem s_raw {d m b : Nat} {L : List G.It} {k : K} (h : ∀ s kd its ks, Fit d its ks → its.length ≤ 5 → (m = 2 → its ≠ []) → L = wv its ks → HG B (rawL G d b s kd its ks Γ) k) : HG B (NodeR G d m b L :: Γ) k := by
  cases d with
  | zero =>
    refine s_node0 fun s kd h1 h2 => ?_
    refine fun w hw => ?_
    refine hg (show Holds B (kidsD G 0 [] :: _) w from Holds.flat.2 hw) ?_
    have := h s kd L [] rfl h2 h1 (by cases L <;> rfl)
    refine s_end (Δ := nodeB G b s kd :: itsR G s L :: kpsR G kd [] :: kidsD G 0 [] :: Γ) ?_
    exact this
  | succ d =>
    refine s_nodeS fun s kd q0 ps h1 h2 h3 => ?_
    exact h s kd (ps.map Prod.fst) (q0 :: ps.map Prod.snd) (by simp [Fit]) (by simpa using h2) (fun hm => by simpa using h1 (by omega)) (by rw [h3, wv_ps])
theorem zip_ps {its : List G.It} {ks : List (Kid G)} (h : ks.length = its.length + 1) : ∃ (q0 : Kid G) (ps : List (G.It × Kid G)), its = ps.map Prod.fst ∧ ks = q0 :: ps.map Prod.snd := by
  cases ks with
  | nil => simp at h
  | cons q0 ks =>
    refine ⟨q0, its.zip ks, ?_, ?_⟩
    · rw [List.map_fst_zip (by simp at h; omega)]
    · rw [List.map_snd_zip (by simp at h; omega)]
theorem s_unraw {d m b : Nat} {s kd : Sl} {its : List G.It} {ks : List (Kid G)} {k : K} (hf : Fit d its ks) (hl : its.length ≤ 5) (hm : 1 ≤ m → (d = 0 ∧ m = 1) ∨ its ≠ []) (h : HG B (NodeR G d m b (wv its ks) :: Γ) k) : HG B (rawL G d b s kd its ks Γ) k := by
  cases d with
  | zero =>
    have hk : ks = [] := hf
    subst hk
    have e : wv its [] = its := by cases its <;> rfl
    rw [e] at h
    show HG B (nodeB G b s kd :: itsR G s its :: kpsR G kd [] :: kidsD G 0 [] :: Γ) k
    refine s_end (Δ := nodeB G b s kd :: itsR G s its :: kpsR G kd [] :: Γ) ?_
    exact s_mk0 (fun h2 => by rcases hm (by omega) with h3 | h3
                              · omega
                              · exact h3) hl h
  | succ d =>
    obtain ⟨q0, ps, rfl, rfl⟩ := zip_ps hf
    rw [wv_ps] at h
    exact s_mkS (fun h2 => by rcases hm h2 with h3 | h3
                              · omega
                              · simpa using h3) (by simpa using hl) h
end
end Bt
end Go.Sep
/- A B-tree: what Delete's functions are (printed by tools/mkbt.py). Holds for every program. -/
namespace Go.Sep
open Go Go.RowKit
set_option linter.unusedSimpArgs false
set_option linter.unusedVariables false
namespace Bt
structure BtD (κ : Type) extends BtT κ where
  delIC : Sl → Int → Int → (Sl → K) → K
  delKC : Sl → Int → Int → (Sl → K) → K
  ntakeC : Option Addr → κ → (Array Value → Bool → K) → K
  nlastC : Option Addr → (Array Value → K) → K
  nmendC : Option Addr → Int → K → K
section
variable {κ : Type}
def nmend_s2 (G : BtD κ) (Q : K)  (n0_2 : Addr) (i1_2 : Int) (kid4_2 : Addr) (t202_2 : Bool) : K :=
  Ite t202_2
    (Ld (n0_2.add 1) Sl.val fun t229 =>
    Ar (IntKind.wrap .i64 (i1_2 + 1)) fun t231 =>
    Idx t229 t231 1 fun t232 =>
    Ld t232 Value.pointer fun t233 =>
    Dr <| WithS fun S =>
    LdS S kid4_2 Sl.val fun t238 =>
    LdS S n0_2 Sl.val fun t242 =>
    Idx t242 i1_2 (G.nv + 1) fun t244 =>
    LdNS S t244 (G.nv + 1) fun t245 =>
    Bld (G.kz :: G.vz).toArray (fun i => some (i * (G.nv + 1), (G.nv + 1))) [(0, (.agg t245))] fun ct246 =>
    New G.tI ct246 fun t246 =>
    Sv S <|
    Do G.P (Builtin.append_ #[G.tSI, G.tSI] G.tSI #[(Sl.val t238), (Sl.val (Sl.mk (some t246) 1 1))]) Sl.val fun t247 =>
    St kid4_2 (Sl.val t247) <|
    Dr <|
    Nn t233 fun t256 =>
    Ld n0_2 Sl.val fun t253 =>
    Ld t256 Sl.val fun t258 =>
    Idx t258 0 (G.nv + 1) fun t259 =>
    LdN t259 (G.nv + 1) fun t260 =>
    Idx t253 i1_2 (G.nv + 1) fun t261 =>
    StN t261 (G.nv + 1) t260 <|
    Ld t256 Sl.val fun t266 =>
    G.delIC t266 0 1 fun t267 =>
    St t256 (Sl.val t267) <|
    Ld (t256.add 1) Sl.val fun t273 =>
    Ite (decide ((0 : Int) < (t273.n : Int)))
      (Dr <| WithS fun S =>
      LdS S (kid4_2.add 1) Sl.val fun t280 =>
      LdS S (t256.add 1) Sl.val fun t284 =>
      Idx t284 0 1 fun t285 =>
      LdS S t285 Value.pointer fun t286 =>
      New G.tK #[(.pointer t286)] fun t287 =>
      Sv S <|
      Do G.P (Builtin.append_ #[G.tSK, G.tSK] G.tSK #[(Sl.val t280), (Sl.val (Sl.mk (some t287) 1 1))]) Sl.val fun t288 =>
      St (kid4_2.add 1) (Sl.val t288) <|
      Ld (t256.add 1) Sl.val fun t295 =>
      G.delKC t295 0 1 fun t296 =>
      St (t256.add 1) (Sl.val t296) <|
      Q)
      (Q))
    (Ar (if (1 : Int) > i1_2 then 1 else i1_2) fun t18 =>
    Dr <|
    Ld (n0_2.add 1) Sl.val fun t22 =>
    Ar (IntKind.wrap .i64 (t18 - 1)) fun t24 =>
    Idx t22 t24 1 fun t25 =>
    Ld t25 Value.pointer fun t26 =>
    Ld (n0_2.add 1) Sl.val fun t30 =>
    Idx t30 t18 1 fun t32 =>
    Ld t32 Value.pointer fun t33 =>
    Dr <| WithS fun S =>
    Nn t26 fun t36 =>
    Ar (IntKind.wrap .i64 (t18 - 1)) fun t44 =>
    Nn t33 fun t50 =>
    LdS S t36 Sl.val fun t38 =>
    LdS S n0_2 Sl.val fun t42 =>
    Idx t42 t44 (G.nv + 1) fun t45 =>
    LdNS S t45 (G.nv + 1) fun t46 =>
    LdS S t50 Sl.val fun t52 =>
    Bld (G.kz :: G.vz).toArray (fun i => some (i * (G.nv + 1), (G.nv + 1))) [(0, (.agg t46))] fun ct47 =>
    New G.tI ct47 fun t47 =>
    Sv S <|
    Do G.P (Builtin.append_ #[G.tSI, G.tSI] G.tSI #[(Sl.val t38), (Sl.val (Sl.mk (some t47) 1 1))]) Sl.val fun t48 =>
    Sv S <|
    Do G.P (Builtin.append_ #[G.tSI, G.tSI] G.tSI #[(Sl.val t48), (Sl.val t52)]) Sl.val fun t53 =>
    St t36 (Sl.val t53) <|
    Dr <|
    Ld (t36.add 1) Sl.val fun t60 =>
    Ld (t50.add 1) Sl.val fun t64 =>
    Do G.P (Builtin.append_ #[G.tSK, G.tSK] G.tSK #[(Sl.val t60), (Sl.val t64)]) Sl.val fun t65 =>
    St (t36.add 1) (Sl.val t65) <|
    Ld n0_2 Sl.val fun t72 =>
    Ar (IntKind.wrap .i64 (t18 - 1)) fun t74 =>
    G.delIC t72 t74 t18 fun t76 =>
    St n0_2 (Sl.val t76) <|
    Ld (n0_2.add 1) Sl.val fun t83 =>
    Ar (IntKind.wrap .i64 (t18 + 1)) fun t86 =>
    G.delKC t83 t18 t86 fun t87 =>
    St (n0_2.add 1) (Sl.val t87) <|
    Q)
def nmend_s1 (G : BtD κ) (Q : K)  (n0_1 : Addr) (i1_1 : Int) (kid4_1 : Addr) (t97_1 : Bool) : K :=
  Ite t97_1
    (Ld (n0_1.add 1) Sl.val fun t118 =>
    Ar (IntKind.wrap .i64 (i1_1 - 1)) fun t120 =>
    Idx t118 t120 1 fun t121 =>
    Ld t121 Value.pointer fun t122 =>
    Nn t122 fun t124 =>
    Ld t124 Sl.val fun t126 =>
    Ar (IntKind.wrap .i64 ((t126.n : Int) - 1)) fun t128 =>
    Dr <| WithS fun S =>
    Ar (IntKind.wrap .i64 (i1_1 - 1)) fun t139 =>
    LdS S kid4_1 Sl.val fun t133 =>
    LdS S n0_1 Sl.val fun t137 =>
    Idx t137 t139 (G.nv + 1) fun t140 =>
    LdNS S t140 (G.nv + 1) fun t141 =>
    Bld (G.kz :: G.vz).toArray (fun i => some (i * (G.nv + 1), (G.nv + 1))) [(0, (.agg t141))] fun ct142 =>
    New G.tI ct142 fun t142 =>
    Sv S <|
    G.insIC t133 0 (Sl.mk (some t142) 1 1) fun t143 =>
    St kid4_1 (Sl.val t143) <|
    Dr <|
    Ar (IntKind.wrap .i64 (i1_1 - 1)) fun t151 =>
    Ld n0_1 Sl.val fun t149 =>
    Ld t124 Sl.val fun t155 =>
    Idx t155 t128 (G.nv + 1) fun t157 =>
    LdN t157 (G.nv + 1) fun t158 =>
    Idx t149 t151 (G.nv + 1) fun t159 =>
    StN t159 (G.nv + 1) t158 <|
    Ld t124 Sl.val fun t164 =>
    Slc t164 0 t128 (t164.c : Int) (G.nv + 1) fun t166 =>
    St t124 (Sl.val t166) <|
    Ld (t124.add 1) Sl.val fun t172 =>
    Ite (decide ((0 : Int) < (t172.n : Int)))
      (Dr <| WithS fun S =>
      Ar (IntKind.wrap .i64 (t128 + 1)) fun t185 =>
      LdS S (kid4_1.add 1) Sl.val fun t179 =>
      LdS S (t124.add 1) Sl.val fun t183 =>
      Idx t183 t185 1 fun t186 =>
      LdS S t186 Value.pointer fun t187 =>
      New G.tK #[(.pointer t187)] fun t188 =>
      Sv S <|
      G.insKC t179 0 (Sl.mk (some t188) 1 1) fun t189 =>
      St (kid4_1.add 1) (Sl.val t189) <|
      Ld (t124.add 1) Sl.val fun t196 =>
      Ar (IntKind.wrap .i64 (t128 + 1)) fun t198 =>
      Slc t196 0 t198 (t196.c : Int) 1 fun t199 =>
      St (t124.add 1) (Sl.val t199) <|
      Q)
      (Q))
    (Ar (IntKind.wrap .i64 (i1_1 + 1)) fun t204 =>
    Ld (n0_1.add 1) Sl.val fun t208 =>
    Ite (decide (t204 < (t208.n : Int)))
      (Ld (n0_1.add 1) Sl.val fun t215 =>
      Ar (IntKind.wrap .i64 (i1_1 + 1)) fun t217 =>
      Idx t215 t217 1 fun t218 =>
      Ld t218 Value.pointer fun t219 =>
      Nn t219 fun t220 =>
      Ld t220 Sl.val fun t222 =>
      nmend_s2 G Q n0_1 i1_1 kid4_1 (decide ((2 : Int) < (t222.n : Int))))
      (nmend_s2 G Q n0_1 i1_1 kid4_1 false))
def nmend (G : BtD κ) (n0 : (Option Addr)) (i1 : Int) (Q : K) : K :=
  Nn n0 fun t11 =>
  Ld (t11.add 1) Sl.val fun t13 =>
  Idx t13 i1 1 fun t15 =>
  Ld t15 Value.pointer fun t16 =>
  Nn t16 fun t92 =>
  Ld t92 Sl.val fun t94 =>
  Ite (decide ((2 : Int) ≤ (t94.n : Int)))
    (Q)
    (Ite (decide ((0 : Int) < i1))
      (Ld (t11.add 1) Sl.val fun t104 =>
      Ar (IntKind.wrap .i64 (i1 - 1)) fun t106 =>
      Idx t104 t106 1 fun t107 =>
      Ld t107 Value.pointer fun t108 =>
      Nn t108 fun t109 =>
      Ld t109 Sl.val fun t111 =>
      nmend_s1 G Q t11 i1 t92 (decide ((2 : Int) < (t111.n : Int))))
      (nmend_s1 G Q t11 i1 t92 false))
def nlast (G : BtD κ) (n0 : (Option Addr)) (Q : (Array Value) → K) : K :=
  New G.tI (G.kz :: G.vz).toArray fun t2 =>
  Nn n0 fun t7 =>
  Ld (t7.add 1) Sl.val fun t9 =>
  Ar (IntKind.wrap .i64 ((t9.n : Int) - 1)) fun t11 =>
  Ite (decide ((0 : Int) ≤ t11))
    (Ld (t7.add 1) Sl.val fun t17 =>
    Idx t17 t11 1 fun t19 =>
    Ld t19 Value.pointer fun t20 =>
    G.nlastC t20 fun t21 =>
    New G.tI (G.kz :: G.vz).toArray fun x4 =>
    StN x4 (G.nv + 1) t21 <|
    G.nmendC (some t7) t11 <|
    LdN x4 (G.nv + 1) fun t25 =>
    StN t2 (G.nv + 1) t25 <|
    LdN t2 (G.nv + 1) fun r0 =>
    Q r0)
    (Dr <| WithS fun S =>
    LdS S t7 Sl.val fun t29 =>
    LdS S t7 Sl.val fun t33 =>
    Ar (IntKind.wrap .i64 ((t33.n : Int) - 1)) fun t35 =>
    Idx t29 t35 (G.nv + 1) fun t36 =>
    LdNS S t36 (G.nv + 1) fun t37 =>
    New G.tI (G.kz :: G.vz).toArray fun x5 =>
    Sv S <|
    StN x5 (G.nv + 1) t37 <|
    Dr <|
    Ld t7 Sl.val fun t42 =>
    Ld t7 Sl.val fun t46 =>
    Ar (IntKind.wrap .i64 ((t46.n : Int) - 1)) fun t48 =>
    Slc t42 0 t48 (t42.c : Int) (G.nv + 1) fun t49 =>
    St t7 (Sl.val t49) <|
    LdN x5 (G.nv + 1) fun t52 =>
    StN t2 (G.nv + 1) t52 <|
    LdN t2 (G.nv + 1) fun r0 =>
    Q r0)
def ntake_s1 (G : BtD κ) (Q : (Array Value) → Bool → K)  (value4_1 : Addr) (ok5_1 : Bool) : K :=
  LdN value4_1 G.nv fun t94 =>
  StN value4_1 G.nv t94 <|
  LdN value4_1 G.nv fun r0 =>
  Q r0 ok5_1
def ntake_s2 (G : BtD κ) (Q : (Array Value) → Bool → K)  (n0_2 : (Option Addr)) (key1_2 : κ) (value4_2 : Addr) (i6_2 : Int) (found7_2 : Bool) (t14_2 : Bool) : K :=
  Ite t14_2
    (Nn n0_2 fun t25 =>
    Ld t25 Sl.val fun t27 =>
    Idx t27 i6_2 (G.nv + 1) fun t29 =>
    LdN (t29.add 1) G.nv fun t31 =>
    StN value4_2 G.nv t31 <|
    Ld t25 Sl.val fun t36 =>
    Ar (IntKind.wrap .i64 (i6_2 + 1)) fun t39 =>
    G.delIC t36 i6_2 t39 fun t40 =>
    St t25 (Sl.val t40) <|
    LdN value4_2 G.nv fun t43 =>
    StN value4_2 G.nv t43 <|
    LdN value4_2 G.nv fun r0 =>
    Q r0 true)
    (Ite found7_2
      (Nn n0_2 fun t47 =>
      Ld t47 Sl.val fun t49 =>
      Idx t49 i6_2 (G.nv + 1) fun t51 =>
      LdN (t51.add 1) G.nv fun t53 =>
      StN value4_2 G.nv t53 <|
      Dr <| WithS fun S =>
      LdS S t47 Sl.val fun t57 =>
      LdS S (t47.add 1) Sl.val fun t62 =>
      Idx t62 i6_2 1 fun t64 =>
      LdS S t64 Value.pointer fun t65 =>
      G.nlastC t65 fun t66 =>
      Sv S <|
      Idx t57 i6_2 (G.nv + 1) fun t67 =>
      StN t67 (G.nv + 1) t66 <|
      G.nmendC (some t47) i6_2 <|
      LdN value4_2 G.nv fun t71 =>
      StN value4_2 G.nv t71 <|
      LdN value4_2 G.nv fun r0 =>
      Q r0 true)
      (Nn n0_2 fun t74 =>
      Ld (t74.add 1) Sl.val fun t76 =>
      Ite (decide ((0 : Int) < (t76.n : Int)))
        (Ld (t74.add 1) Sl.val fun t83 =>
        Idx t83 i6_2 1 fun t85 =>
        Ld t85 Value.pointer fun t86 =>
        G.ntakeC t86 key1_2 fun t88x0 t88x1 =>
        StN value4_2 G.nv t88x0 <|
        G.nmendC (some t74) i6_2 <|
        ntake_s1 G Q value4_2 t88x1)
        (ntake_s1 G Q value4_2 false)))
def ntake (G : BtD κ) (n0 : (Option Addr)) (key1 : κ) (Q : (Array Value) → Bool → K) : K :=
  New G.tV G.vz.toArray fun value4 =>
  G.nsearchC n0 key1 fun t11x0 t11x1 =>
  Ite t11x1
    (Nn n0 fun t18 =>
    Ld (t18.add 1) Sl.val fun t20 =>
    ntake_s2 G Q (some t18) key1 value4 t11x0 true (decide ((t20.n : Int) = 0)))
    (ntake_s2 G Q n0 key1 value4 t11x0 false false)
def tdel_s2 (G : BtD κ) (Q : (Array Value) → Bool → K)  (value4_2 : Addr) (ok5_2 : Bool) : K :=
  LdN value4_2 G.nv fun t55 =>
  StN value4_2 G.nv t55 <|
  LdN value4_2 G.nv fun r0 =>
  Q r0 ok5_2
def tdel_s1 (G : BtD κ) (Q : (Array Value) → Bool → K)  (t0_1 : Addr) (value4_1 : Addr) (ok5_1 : Bool) : K :=
  Ite ok5_1
    (Ld (t0_1.add 1) (Value.int .i64) fun t51 =>
    Ar (IntKind.wrap .i64 (t51 - 1)) fun t52 =>
    St (t0_1.add 1) (.int .i64 t52) <|
    tdel_s2 G Q value4_1 ok5_1)
    (tdel_s2 G Q value4_1 ok5_1)
def tdel_s3 (G : BtD κ) (Q : (Array Value) → Bool → K)  (t0_3 : Addr) (value4_3 : Addr) (ok5_3 : Bool) (t34_3 : Bool) : K :=
  Ite t34_3
    (Ld t0_3 Value.pointer fun t39 =>
    Nn t39 fun t40 =>
    Ld (t40.add 1) Sl.val fun t42 =>
    Idx t42 0 1 fun t43 =>
    Ld t43 Value.pointer fun t44 =>
    St t0_3 (.pointer t44) <|
    tdel_s1 G Q t0_3 value4_3 ok5_3)
    (tdel_s1 G Q t0_3 value4_3 ok5_3)
def tdel (G : BtD κ) (t0 : (Option Addr)) (key1 : κ) (Q : (Array Value) → Bool → K) : K :=
  New G.tV G.vz.toArray fun value4 =>
  Nn t0 fun t8 =>
  Ld t8 Value.pointer fun t10 =>
  G.ntakeC t10 key1 fun t12x0 t12x1 =>
  StN value4 G.nv t12x0 <|
  Ld t8 Value.pointer fun t18 =>
  Nn t18 fun t19 =>
  Ld t19 Sl.val fun t21 =>
  Ite (decide ((t21.n : Int) = 0))
    (Ld t8 Value.pointer fun t28 =>
    Nn t28 fun t29 =>
    Ld (t29.add 1) Sl.val fun t31 =>
    tdel_s3 G Q t8 value4 t12x1 (decide ((t31.n : Int) = 1)))
    (tdel_s3 G Q t8 value4 t12x1 false)
end
/-- What is asked of Delete's functions. -/
structure BtDOk {κ : Type} (G : BtD κ) (c : κ → κ → Int) : Prop extends BtOk G.toBtT c where
  delI : ∃ Z, ∀ s i j Q w, delK G.P G.tSI Z (G.nv + 1) s i j Q w → G.delIC s i j Q w
  delK : ∃ Z, ∀ s i j Q w, delK G.P G.tSK Z 1 s i j Q w → G.delKC s i j Q w
  take : ∀ n k Q w, ntake G n k Q w → G.ntakeC n k Q w
  last : ∀ n Q w, nlast G n Q w → G.nlastC n Q w
  mend : ∀ n i Q w, nmend G n i Q w → G.nmendC n i Q w
end Bt
end Go.Sep
/- A B-tree: what mend does. Holds for every program. -/
namespace Go.Sep
open Go Go.RowKit
set_option linter.unusedSimpArgs false
set_option linter.unusedVariables false
namespace Bt
section
variable {κ : Type} {B : World} {Γ Γ0 Δ : List HProp}
/-- An element that is read in every state that bears this. -/
theorem s_ldElS {α : Type} {f : α → List Value} {esz E : Nat} {s : Sl} {L : List α} {i : Nat} {x : α} {k : Array Value → K} (hf : ∀ x, (f x).length = esz) (hx : L[i]? = some x) (h : HG B Γ (k (f x).toArray)) [o : OwnS s Γ0 (SlC E esz s (L.flatMap f)) Δ] : HG B Γ (LdNS (Holds B Γ0) (elA s i esz) esz k) := fun w hw => by
  refine ⟨(f x).toArray, by simp [hf], fun w' hw' => ?_, h w hw⟩
  obtain ⟨cs, hcs, hrd, hk⟩ := s_ldEl (s := s) (i := i) (k := fun cs _ => cs = (f x).toArray) (E := E) (Γ := Γ0) (B := B) hf hx (fun _ _ => rfl) w' hw'
  rw [← hk]; exact hrd
theorem s_ldES1 {α : Type} {c : α → Value} {E : Nat} {s : Sl} {L : List α} {i : Nat} {x : α} {k : α → K} (hx : L[i]? = some x) (h : HG B Γ (k x)) [o : OwnS s Γ0 (SlC E 1 s (L.map c)) Δ] : HG B Γ (LdS (Holds B Γ0) (elA s i 1) c k) := fun w hw => by
  refine ⟨x, fun w' hw' => ?_, h w hw⟩
  obtain ⟨h0, h1, h2, h3, h4⟩ := own_rd hw' (p := o)
  rw [← add0 (elA s i 1)]
  exact el_cell (vs := L.map c) (off := 0) h0 h3 (by simp [hx])
/-- An element is another one. -/
theorem s_stEl {α : Type} {f : α → List Value} {esz E : Nat} {s : Sl} {A C : List α} {x y : α} {k : K} (hf : ∀ x, (f x).length = esz) (hfl : (f y).all flatV = true) (h : HG B (SlC E esz s ((A ++ y :: C).flatMap f) :: Δ) k) [o : OwnS s Γ (SlC E esz s ((A ++ x :: C).flatMap f)) Δ] : HG B Γ (StN (elA s A.length esz) esz (f y).toArray k) := by
  rw [← add0 (elA s A.length esz)]
  refine s_stEN (s := s) (us := f y) ?_ (hf y) ?_ hfl
  · have e : layAt ((A ++ x :: C).flatMap f) (A.length * esz + 0) (f y) = (A ++ y :: C).flatMap f := by
      have e1 : (A ++ x :: C).flatMap f = A.flatMap f ++ (f x ++ C.flatMap f) := by simp
      have e2 : (A ++ y :: C).flatMap f = A.flatMap f ++ (f y ++ C.flatMap f) := by simp
      rw [e1, e2, layAt_mid (by simp [flatMap_len f esz hf]) (by rw [hf, hf])]
    rw [e]; exact h
  · have e1 : ((A ++ x :: C).flatMap f).length = (A.length + (C.length + 1)) * esz := by rw [flatMap_len f esz hf]; simp
    rw [e1, Nat.add_mul, Nat.add_mul]; omega
variable {G : BtT κ} {c : κ → κ → Int}
theorem wv_nil (its : List G.It) : wv its ([] : List (Kid G)) = its := by cases its <;> rfl
theorem wv_app {d : Nat} {i1 i2 : List G.It} {k1 k2 : List (Kid G)} {x : G.It} (h1 : Fit d i1 k1) (h2 : Fit d i2 k2) : wv (i1 ++ x :: i2) (k1 ++ k2) = wv i1 k1 ++ x :: wv i2 k2 := by
  cases d with
  | zero =>
    have e1 : k1 = [] := h1
    have e2 : k2 = [] := h2
    subst e1; subst e2
    simp only [List.append_nil, wv_nil]
  | succ d =>
    obtain ⟨q1, ps1, rfl, rfl⟩ := zip_ps h1
    obtain ⟨q2, ps2, rfl, rfl⟩ := zip_ps h2
    have e : wv (ps1.map Prod.fst ++ x :: ps2.map Prod.fst) (q1 :: ps1.map Prod.snd ++ q2 :: ps2.map Prod.snd) = psL q1 (ps1 ++ (x, q2) :: ps2) := by
      rw [← wv_ps]; simp
    rw [e, wv_ps, wv_ps]
    simp [psL]
theorem fit_app {d : Nat} {i1 i2 : List G.It} {k1 k2 : List (Kid G)} {x : G.It} (h1 : Fit d i1 k1) (h2 : Fit d i2 k2) : Fit d (i1 ++ x :: i2) (k1 ++ k2) := by
  cases d with
  | zero =>
    have e1 : k1 = [] := h1
    have e2 : k2 = [] := h2
    subst e1; subst e2; rfl
  | succ d =>
    simp only [Fit, List.length_append, List.length_cons] at h1 h2 ⊢
    omega
theorem fit_split {d : Nat} {i1 i2 : List G.It} {ks : List (Kid G)} {x : G.It} (h : Fit d (i1 ++ x :: i2) ks) : ∃ k1 k2, ks = k1 ++ k2 ∧ Fit d i1 k1 ∧ Fit d i2 k2 := by
  cases d with
  | zero => exact ⟨[], [], h, rfl, rfl⟩
  | succ d =>
    simp only [Fit, List.length_append, List.length_cons] at h
    exact ⟨ks.take (i1.length + 1), ks.drop (i1.length + 1), (List.take_append_drop _ _).symm, by simp [Fit]; omega, by simp [Fit]; omega⟩
theorem kids_join {d : Nat} {A C : List (Kid G)} : ∀ w, Holds B (kidsD G d A :: kidsD G d C :: Γ) w ↔ Holds B (kidsD G d (A ++ C) :: Γ) w := fun w => by
  cases d with
  | zero =>
    show Holds B (Sep.stars [] :: Sep.stars [] :: Γ) w ↔ Holds B (Sep.stars [] :: Γ) w
    exact Holds.flat (Δ := [])
  | succ d =>
    show Holds B (kidsR G d A :: kidsR G d C :: Γ) w ↔ Holds B (kidsR G d (A ++ C) :: Γ) w
    constructor
    · intro h
      have h1 := Holds.flat.1 h
      have h2 := Holds.flat.1 (h1.perm (List.perm_middle (a := kidsR G d C) (l₁ := A.map fun q => NodeR G d 2 q.1 q.2) (l₂ := Γ)))
      refine Holds.flat.2 (h2.perm ?_)
      rw [List.map_append, List.append_assoc]
      rw [← List.append_assoc, ← List.append_assoc]
      exact List.perm_append_comm.append_right Γ
    · intro h
      have := s_kids_split (k := fun w => Holds B (kidsR G d A :: kidsR G d C :: Γ) w) (fun w h => h) w h
      exact this
theorem s_join {d : Nat} {A C : List (Kid G)} {k : K} (h : HG B (kidsD G d (A ++ C) :: Γ) k) : HG B (kidsD G d A :: kidsD G d C :: Γ) k := fun w hw => h w ((kids_join w).1 hw)
theorem s_part {d : Nat} {A C : List (Kid G)} {k : K} (h : HG B (kidsD G d A :: kidsD G d C :: Γ) k) : HG B (kidsD G d (A ++ C) :: Γ) k := fun w hw => h w ((kids_join w).2 hw)
end
end Bt
end Go.Sep
