/- Plain forms of functions, and that their code comes to them (package lib_btree). -/
import Derived.Test.YtfjjocopmknhgaaCalls
namespace Go.Proofs.Ytfjjocopmknhgaa
open Go Go.Sep
set_option linter.unusedVariables false
set_option linter.unusedSimpArgs false
set_option maxRecDepth 100000
set_option maxHeartbeats 4000000
attribute [local irreducible] G Gp Cx Tx Ex Sx Dx Ox Ax Lx Rx Fx Bx Bj Al Do Ld LdN St StN New CallF Ar DoU Rd Rd2 Pu Cd Ite Fv CallV CallY Ans0 Ans1 Ans2 Ans3 Ans4 Ans5 Ext Dead Dr WithS Sv LdS LdNS RdS Rd2S Nn Idx IdxA IdxS Fld Bld Slc SlcS Cat All LoopK RangeF RangeJ TakeD
namespace F_IRLibBtree
instance at_174 : AT Try.prog 174 5 := ⟨by kernel_rfl⟩
instance cb_136 : CB Try.prog 136 := ⟨by kernel_rfl⟩
instance cb_138 : CB Try.prog 138 := ⟨by kernel_rfl⟩
instance cb_144 : CB Try.prog 144 := ⟨by kernel_rfl⟩
instance cb_145 : CB Try.prog 145 := ⟨by kernel_rfl⟩
instance cb_147 : CB Try.prog 147 := ⟨by kernel_rfl⟩
instance cb_148 : CB Try.prog 148 := ⟨by kernel_rfl⟩
instance ct_164 : CT Try.prog 164 := ⟨by kernel_rfl⟩
instance ext_135 : EXT Try.prog 135 (Extern.SlicesOverlaps.overlaps #[165, 165] #[4]) := ext_of Try.func135 (by kernel_rfl) (by kernel_rfl) (by kernel_rfl) (by kernel_rfl)
instance ext_137 : EXT Try.prog 137 (Extern.SlicesOverlaps.overlaps #[166, 166] #[4]) := ext_of Try.func137 (by kernel_rfl) (by kernel_rfl) (by kernel_rfl) (by kernel_rfl)
instance in_119 : INT Try.prog 119 .u64 := ⟨by kernel_rfl⟩
instance in_3 : INT Try.prog 3 .i64 := ⟨by kernel_rfl⟩
instance mx : MX Try.prog := ⟨mixed⟩
instance sl_165 : SLT Try.prog 165 174 5 := ⟨by kernel_rfl⟩
instance sl_166 : SLT Try.prog 166 164 1 := ⟨by kernel_rfl⟩
instance sz_164 : SZ Try.prog 164 1 := ⟨by kernel_rfl⟩
instance sz_174 : SZ Try.prog 174 5 := ⟨by kernel_rfl⟩
instance un_165 : UN Try.prog 165 (.slice 174) := ⟨Try.underlying165⟩
instance un_166 : UN Try.prog 166 (.slice 164) := ⟨Try.underlying166⟩
instance zt_164 : ZT Try.prog 164 (.pointer none) := ⟨Try.t164, by kernel_rfl, by kernel_rfl⟩
instance zt_174 : ZT Try.prog 174 (.agg #[(.string ⟨#[]⟩), (.bool false), (Sl.val ⟨none, 0, 0⟩), (.int .i64 0), (.int .u64 0)]) := ⟨Try.t174, by kernel_rfl, by kernel_rfl⟩
end F_IRLibBtree
def slices_BinarySearchFunc_s_btree_item_string_api_Record_btree_item_string_api_Record_string.s2 (Q : Int → Bool → K) (X1 : Int → Int → K) (t6_2 : Int) (t7_2 : Bool) : K :=
  Q t6_2 t7_2
def slices_BinarySearchFunc_s_btree_item_string_api_Record_btree_item_string_api_Record_string.b1 (Q : Int → Bool → K)  (X1 : Int → Int → K) (x0_1 : Sl) (target1_1 : ByteArray) (cmp2_1 : Value) (n8_1 : Int) (i9_1 : Int) (j10_1 : Int) : K :=
  Ite (decide (i9_1 < j10_1))
    (Ar (IntKind.wrap .i64 (i9_1 + j10_1)) fun t20 =>
    Ar (IntKind.wrap .u64 t20) fun t21 =>
    Cd (0 ≤ (1 : Int)) <|
    Ar (shrOf .u64 t21 1) fun t22 =>
    Ar (IntKind.wrap .i64 t22) fun t23 =>
    Idx x0_1 t23 5 fun t27 =>
    LdN t27 5 fun t28 =>
    CallV Try.prog cmp2_1 [(.agg t28), (.string target1_1)] <| Ans1 (fun (t30 : Int) => (Value.int .i64) t30) fun t30 =>
    Ite (decide (t30 < 0))
      (Ar (IntKind.wrap .i64 (t23 + 1)) fun t33 =>
      X1 t33 j10_1)
      (X1 i9_1 t23))
    (Ite (decide (i9_1 < n8_1))
      (Idx x0_1 i9_1 5 fun t43 =>
      LdN t43 5 fun t44 =>
      CallV Try.prog cmp2_1 [(.agg t44), (.string target1_1)] <| Ans1 (fun (t46 : Int) => (Value.int .i64) t46) fun t46 =>
      slices_BinarySearchFunc_s_btree_item_string_api_Record_btree_item_string_api_Record_string.s2 Q X1 i9_1 (decide (t46 = 0)))
      (slices_BinarySearchFunc_s_btree_item_string_api_Record_btree_item_string_api_Record_string.s2 Q X1 i9_1 false))
def slices_BinarySearchFunc_s_btree_item_string_api_Record_btree_item_string_api_Record_string (x0 : Sl) (target1 : ByteArray) (cmp2 : Value) (Q : Int → Bool → K) : K :=
  LoopK (α := Int × Int) (fun X x => slices_BinarySearchFunc_s_btree_item_string_api_Record_btree_item_string_api_Record_string.b1 Q (fun i9_1 j10_1 => X (i9_1, j10_1)) x0 target1 cmp2 (x0.n : Int) x.1 x.2) (0, (x0.n : Int))
theorem slices_BinarySearchFunc_s_btree_item_string_api_Record_btree_item_string_api_Record_string_ok (x0 : Sl) (target1 : ByteArray) (cmp2 : Value) (Q : Int → Bool → K) (w : World) (h : slices_BinarySearchFunc_s_btree_item_string_api_Record_btree_item_string_api_Record_string x0 target1 cmp2 Q w) : slices_BinarySearchFunc_s_btree_item_string_api_Record_btree_item_string_api_Record_string.call x0 target1 cmp2 Q w := by
  have hJ1000008 : ∀ (X1 : (Int × Int) → K), XH 3 X1 → JH 1000008 fun D => D [] (fun C => ∀ (t6_2 : Int) (t7_2 : Bool), C [(6, (.int .i64 t6_2)), (7, (.bool t7_2))] (slices_BinarySearchFunc_s_btree_item_string_api_Record_btree_item_string_api_Record_string.s2 Q (fun i9_1 j10_1 => X1 (i9_1, j10_1)) t6_2 t7_2)) := by intros; exact ⟨fun _ h => ⟨_, _, h⟩⟩
  have hL3 : ∀ (x0_1 : Sl) (target1_1 : ByteArray) (cmp2_1 : Value) (n8_1 : Int), LH 3 (fun x : Int × Int => [(0, (Sl.val x0_1)), (1, (.string target1_1)), (2, cmp2_1), (8, (.int .i64 n8_1)), (9, (.int .i64 x.1)), (10, (.int .i64 x.2))]) (fun X x => slices_BinarySearchFunc_s_btree_item_string_api_Record_btree_item_string_api_Record_string.b1 Q (fun i9_1 j10_1 => X (i9_1, j10_1)) x0_1 target1_1 cmp2_1 n8_1 x.1 x.2) := by intros; exact ⟨⟩
  exact g_walk 49 h Try.func106
def slices_Delete_s_btree_item_string_api_Record_btree_item_string_api_Record (s0 : Sl) (i1 : Int) (j2 : Int) (Q : Sl → K) : K :=
  Slc s0 i1 j2 (s0.n : Int) 5 fun t13 =>
  Ite (decide (i1 = j2))
    (Q s0)
    (Dr <|
    Slc s0 0 i1 (s0.c : Int) 5 fun t22 =>
    Slc s0 j2 (s0.n : Int) (s0.c : Int) 5 fun t25 =>
    Do Try.prog (Builtin.append_ #[165, 165] 165 #[(Sl.val t22), (Sl.val t25)]) Sl.val fun t26 =>
    Slc t26 (t26.n : Int) (s0.n : Int) (t26.c : Int) 5 fun t31 =>
    Do Try.prog (Builtin.clear_ #[165] 0 #[(Sl.val t31)]) id fun _ =>
    Q t26)
theorem slices_Delete_s_btree_item_string_api_Record_btree_item_string_api_Record_ok (s0 : Sl) (i1 : Int) (j2 : Int) (Q : Sl → K) (w : World) (h : slices_Delete_s_btree_item_string_api_Record_btree_item_string_api_Record s0 i1 j2 Q w) : slices_Delete_s_btree_item_string_api_Record_btree_item_string_api_Record.call s0 i1 j2 Q w := by
  have hD5 : DH 5 0 [] (.s [0, 1, 2, 3, 4, 5] (.a [(6, 0, .s [7] .e)])) := by intros; exact ⟨⟩
  exact g_walk 33 h Try.func116
def slices_Insert_s_btree_item_string_api_Record_btree_item_string_api_Record (s0 : Sl) (i1 : Int) (v2 : Sl) (Q : Sl → K) : K :=
  Slc s0 i1 (s0.n : Int) (s0.c : Int) 5 fun t12 =>
  Ite (decide ((v2.n : Int) = 0))
    (Q s0)
    (Ite (decide (i1 = (s0.n : Int)))
      (Do Try.prog (Builtin.append_ #[165, 165] 165 #[(Sl.val s0), (Sl.val v2)]) Sl.val fun t25 =>
      Q t25)
      (Ar (IntKind.wrap .i64 ((s0.n : Int) + (v2.n : Int))) fun t28 =>
      Do Try.prog (Builtin.cap_ #[165] 3 #[(Sl.val s0)]) (Value.int .i64) fun t30 =>
      Ite (decide (t30 < t28))
        (Slc s0 0 i1 (s0.c : Int) 5 fun t34 =>
        Ar (IntKind.wrap .i64 ((s0.n : Int) + (v2.n : Int))) fun t37 =>
        Ar (IntKind.wrap .i64 (t37 - i1)) fun t39 =>
        Do Try.prog (Builtin.append_ #[165, 3] 165 #[(Sl.val t34), (.int .i64 t39)]) Sl.val fun t40 =>
        Slc t40 i1 (t40.n : Int) (t40.c : Int) 5 fun t43 =>
        Do Try.prog (Builtin.copy_ #[165, 165] 3 #[(Sl.val t43), (Sl.val v2)]) (Value.int .i64) fun t45 =>
        Dr <|
        Ar (IntKind.wrap .i64 (i1 + (v2.n : Int))) fun t49 =>
        Slc t40 t49 (t40.n : Int) (t40.c : Int) 5 fun t50 =>
        Slc s0 i1 (s0.n : Int) (s0.c : Int) 5 fun t53 =>
        Do Try.prog (Builtin.copy_ #[165, 165] 3 #[(Sl.val t50), (Sl.val t53)]) (Value.int .i64) fun t54 =>
        Q t40)
        (Ar (IntKind.wrap .i64 ((s0.n : Int) + (v2.n : Int))) fun t59 =>
        Slc s0 0 t59 (s0.c : Int) 5 fun t60 =>
        Ar (IntKind.wrap .i64 (i1 + (v2.n : Int))) fun t65 =>
        Slc t60 t65 (t60.n : Int) (t60.c : Int) 5 fun t66 =>
        Rd Try.prog (Extern.SlicesOverlaps.overlaps #[165, 165] #[4] [(Sl.val v2), (Sl.val t66)].toArray) Value.bool fun t67 =>
        Ite (!t67)
          (Dr <|
          Ar (IntKind.wrap .i64 (i1 + (v2.n : Int))) fun t72 =>
          Slc t60 t72 (t60.n : Int) (t60.c : Int) 5 fun t73 =>
          Slc t60 i1 (t60.n : Int) (t60.c : Int) 5 fun t76 =>
          Do Try.prog (Builtin.copy_ #[165, 165] 3 #[(Sl.val t73), (Sl.val t76)]) (Value.int .i64) fun t77 =>
          Slc t60 i1 (t60.n : Int) (t60.c : Int) 5 fun t80 =>
          Do Try.prog (Builtin.copy_ #[165, 165] 3 #[(Sl.val t80), (Sl.val v2)]) (Value.int .i64) fun t82 =>
          Q t60)
          (Slc t60 (s0.n : Int) (t60.n : Int) (t60.c : Int) 5 fun t86 =>
          Do Try.prog (Builtin.copy_ #[165, 165] 3 #[(Sl.val t86), (Sl.val v2)]) (Value.int .i64) fun t88 =>
          Slc t60 i1 (t60.n : Int) (t60.c : Int) 5 fun t91 =>
          slices_rotateRight_btree_item_string_api_Record.call t91 (v2.n : Int) <|
          Q t60))))
theorem slices_Insert_s_btree_item_string_api_Record_btree_item_string_api_Record_ok (s0 : Sl) (i1 : Int) (v2 : Sl) (Q : Sl → K) (w : World) (h : slices_Insert_s_btree_item_string_api_Record_btree_item_string_api_Record s0 i1 v2 Q w) : slices_Insert_s_btree_item_string_api_Record_btree_item_string_api_Record.call s0 i1 v2 Q w := by
  have hD11 : DH 11 0 [] (.s [0, 1, 2, 3, 4, 5, 6, 7] (.a [(8, 0, .e)])) := by intros; exact ⟨⟩
  have hD15 : DH 15 0 [] (.s [0, 1, 2, 3, 4, 5, 6, 7] (.a [(8, 0, .e)])) := by intros; exact ⟨⟩
  exact g_walk 95 h Try.func119
def slices_Insert_s_btree_node_string_api_Record_btree_node_string_api_Record (s0 : Sl) (i1 : Int) (v2 : Sl) (Q : Sl → K) : K :=
  Slc s0 i1 (s0.n : Int) (s0.c : Int) 1 fun t12 =>
  Ite (decide ((v2.n : Int) = 0))
    (Q s0)
    (Ite (decide (i1 = (s0.n : Int)))
      (Do Try.prog (Builtin.append_ #[166, 166] 166 #[(Sl.val s0), (Sl.val v2)]) Sl.val fun t25 =>
      Q t25)
      (Ar (IntKind.wrap .i64 ((s0.n : Int) + (v2.n : Int))) fun t28 =>
      Do Try.prog (Builtin.cap_ #[166] 3 #[(Sl.val s0)]) (Value.int .i64) fun t30 =>
      Ite (decide (t30 < t28))
        (Slc s0 0 i1 (s0.c : Int) 1 fun t34 =>
        Ar (IntKind.wrap .i64 ((s0.n : Int) + (v2.n : Int))) fun t37 =>
        Ar (IntKind.wrap .i64 (t37 - i1)) fun t39 =>
        Do Try.prog (Builtin.append_ #[166, 3] 166 #[(Sl.val t34), (.int .i64 t39)]) Sl.val fun t40 =>
        Slc t40 i1 (t40.n : Int) (t40.c : Int) 1 fun t43 =>
        Do Try.prog (Builtin.copy_ #[166, 166] 3 #[(Sl.val t43), (Sl.val v2)]) (Value.int .i64) fun t45 =>
        Dr <|
        Ar (IntKind.wrap .i64 (i1 + (v2.n : Int))) fun t49 =>
        Slc t40 t49 (t40.n : Int) (t40.c : Int) 1 fun t50 =>
        Slc s0 i1 (s0.n : Int) (s0.c : Int) 1 fun t53 =>
        Do Try.prog (Builtin.copy_ #[166, 166] 3 #[(Sl.val t50), (Sl.val t53)]) (Value.int .i64) fun t54 =>
        Q t40)
        (Ar (IntKind.wrap .i64 ((s0.n : Int) + (v2.n : Int))) fun t59 =>
        Slc s0 0 t59 (s0.c : Int) 1 fun t60 =>
        Ar (IntKind.wrap .i64 (i1 + (v2.n : Int))) fun t65 =>
        Slc t60 t65 (t60.n : Int) (t60.c : Int) 1 fun t66 =>
        Rd Try.prog (Extern.SlicesOverlaps.overlaps #[166, 166] #[4] [(Sl.val v2), (Sl.val t66)].toArray) Value.bool fun t67 =>
        Ite (!t67)
          (Dr <|
          Ar (IntKind.wrap .i64 (i1 + (v2.n : Int))) fun t72 =>
          Slc t60 t72 (t60.n : Int) (t60.c : Int) 1 fun t73 =>
          Slc t60 i1 (t60.n : Int) (t60.c : Int) 1 fun t76 =>
          Do Try.prog (Builtin.copy_ #[166, 166] 3 #[(Sl.val t73), (Sl.val t76)]) (Value.int .i64) fun t77 =>
          Slc t60 i1 (t60.n : Int) (t60.c : Int) 1 fun t80 =>
          Do Try.prog (Builtin.copy_ #[166, 166] 3 #[(Sl.val t80), (Sl.val v2)]) (Value.int .i64) fun t82 =>
          Q t60)
          (Slc t60 (s0.n : Int) (t60.n : Int) (t60.c : Int) 1 fun t86 =>
          Do Try.prog (Builtin.copy_ #[166, 166] 3 #[(Sl.val t86), (Sl.val v2)]) (Value.int .i64) fun t88 =>
          Slc t60 i1 (t60.n : Int) (t60.c : Int) 1 fun t91 =>
          slices_rotateRight_btree_node_string_api_Record.call t91 (v2.n : Int) <|
          Q t60))))
theorem slices_Insert_s_btree_node_string_api_Record_btree_node_string_api_Record_ok (s0 : Sl) (i1 : Int) (v2 : Sl) (Q : Sl → K) (w : World) (h : slices_Insert_s_btree_node_string_api_Record_btree_node_string_api_Record s0 i1 v2 Q w) : slices_Insert_s_btree_node_string_api_Record_btree_node_string_api_Record.call s0 i1 v2 Q w := by
  have hD11 : DH 11 0 [] (.s [0, 1, 2, 3, 4, 5, 6, 7] (.a [(8, 0, .e)])) := by intros; exact ⟨⟩
  have hD15 : DH 15 0 [] (.s [0, 1, 2, 3, 4, 5, 6, 7] (.a [(8, 0, .e)])) := by intros; exact ⟨⟩
  exact g_walk 95 h Try.func120
def slices_Clone_s_btree_item_string_api_Record_btree_item_string_api_Record (s0 : Sl) (Q : Sl → K) : K :=
  Ite ((s0).a.isNone)
    (Q (Sl.mk none 0 0))
    (New 174 #[] fun t5 =>
    Do Try.prog (Builtin.append_ #[165, 165] 165 #[(Sl.val (Sl.mk (some t5) 0 0)), (Sl.val s0)]) Sl.val fun t7 =>
    Q t7)
theorem slices_Clone_s_btree_item_string_api_Record_btree_item_string_api_Record_ok (s0 : Sl) (Q : Sl → K) (w : World) (h : slices_Clone_s_btree_item_string_api_Record_btree_item_string_api_Record s0 Q w) : slices_Clone_s_btree_item_string_api_Record_btree_item_string_api_Record.call s0 Q w := by
  exact g_walk 8 h Try.func121
def slices_Clone_s_btree_node_string_api_Record_btree_node_string_api_Record (s0 : Sl) (Q : Sl → K) : K :=
  Ite ((s0).a.isNone)
    (Q (Sl.mk none 0 0))
    (New 164 #[] fun t5 =>
    Do Try.prog (Builtin.append_ #[166, 166] 166 #[(Sl.val (Sl.mk (some t5) 0 0)), (Sl.val s0)]) Sl.val fun t7 =>
    Q t7)
theorem slices_Clone_s_btree_node_string_api_Record_btree_node_string_api_Record_ok (s0 : Sl) (Q : Sl → K) (w : World) (h : slices_Clone_s_btree_node_string_api_Record_btree_node_string_api_Record s0 Q w) : slices_Clone_s_btree_node_string_api_Record_btree_node_string_api_Record.call s0 Q w := by
  exact g_walk 8 h Try.func122
def slices_Delete_s_btree_node_string_api_Record_btree_node_string_api_Record (s0 : Sl) (i1 : Int) (j2 : Int) (Q : Sl → K) : K :=
  Slc s0 i1 j2 (s0.n : Int) 1 fun t13 =>
  Ite (decide (i1 = j2))
    (Q s0)
    (Dr <|
    Slc s0 0 i1 (s0.c : Int) 1 fun t22 =>
    Slc s0 j2 (s0.n : Int) (s0.c : Int) 1 fun t25 =>
    Do Try.prog (Builtin.append_ #[166, 166] 166 #[(Sl.val t22), (Sl.val t25)]) Sl.val fun t26 =>
    Slc t26 (t26.n : Int) (s0.n : Int) (t26.c : Int) 1 fun t31 =>
    Do Try.prog (Builtin.clear_ #[166] 0 #[(Sl.val t31)]) id fun _ =>
    Q t26)
theorem slices_Delete_s_btree_node_string_api_Record_btree_node_string_api_Record_ok (s0 : Sl) (i1 : Int) (j2 : Int) (Q : Sl → K) (w : World) (h : slices_Delete_s_btree_node_string_api_Record_btree_node_string_api_Record s0 i1 j2 Q w) : slices_Delete_s_btree_node_string_api_Record_btree_node_string_api_Record.call s0 i1 j2 Q w := by
  have hD5 : DH 5 0 [] (.s [0, 1, 2, 3, 4, 5] (.a [(6, 0, .s [7] .e)])) := by intros; exact ⟨⟩
  exact g_walk 33 h Try.func134
def slices_rotateRight_btree_item_string_api_Record (s0 : Sl) (r1 : Int) (Q : K) : K :=
  Ar (IntKind.wrap .i64 ((s0.n : Int) - r1)) fun t8 =>
  slices_rotateLeft_btree_item_string_api_Record.call s0 t8 <|
  Q
theorem slices_rotateRight_btree_item_string_api_Record_ok (s0 : Sl) (r1 : Int) (Q : K) (w : World) (h : slices_rotateRight_btree_item_string_api_Record s0 r1 Q w) : slices_rotateRight_btree_item_string_api_Record.call s0 r1 Q w := by
  exact g_walk 10 h Try.func136
def slices_rotateRight_btree_node_string_api_Record (s0 : Sl) (r1 : Int) (Q : K) : K :=
  Ar (IntKind.wrap .i64 ((s0.n : Int) - r1)) fun t8 =>
  slices_rotateLeft_btree_node_string_api_Record.call s0 t8 <|
  Q
theorem slices_rotateRight_btree_node_string_api_Record_ok (s0 : Sl) (r1 : Int) (Q : K) (w : World) (h : slices_rotateRight_btree_node_string_api_Record s0 r1 Q w) : slices_rotateRight_btree_node_string_api_Record.call s0 r1 Q w := by
  exact g_walk 10 h Try.func138
def slices_rotateLeft_btree_item_string_api_Record (s0 : Sl) (r1 : Int) (Q : K) : K :=
  Slc s0 0 r1 (s0.c : Int) 5 fun t6 =>
  slices_Reverse_s_btree_item_string_api_Record_btree_item_string_api_Record.call t6 <|
  Slc s0 r1 (s0.n : Int) (s0.c : Int) 5 fun t10 =>
  slices_Reverse_s_btree_item_string_api_Record_btree_item_string_api_Record.call t10 <|
  slices_Reverse_s_btree_item_string_api_Record_btree_item_string_api_Record.call s0 <|
  Q
theorem slices_rotateLeft_btree_item_string_api_Record_ok (s0 : Sl) (r1 : Int) (Q : K) (w : World) (h : slices_rotateLeft_btree_item_string_api_Record s0 r1 Q w) : slices_rotateLeft_btree_item_string_api_Record.call s0 r1 Q w := by
  exact g_walk 14 h Try.func144
def slices_rotateLeft_btree_node_string_api_Record (s0 : Sl) (r1 : Int) (Q : K) : K :=
  Slc s0 0 r1 (s0.c : Int) 1 fun t6 =>
  slices_Reverse_s_btree_node_string_api_Record_btree_node_string_api_Record.call t6 <|
  Slc s0 r1 (s0.n : Int) (s0.c : Int) 1 fun t10 =>
  slices_Reverse_s_btree_node_string_api_Record_btree_node_string_api_Record.call t10 <|
  slices_Reverse_s_btree_node_string_api_Record_btree_node_string_api_Record.call s0 <|
  Q
theorem slices_rotateLeft_btree_node_string_api_Record_ok (s0 : Sl) (r1 : Int) (Q : K) (w : World) (h : slices_rotateLeft_btree_node_string_api_Record s0 r1 Q w) : slices_rotateLeft_btree_node_string_api_Record.call s0 r1 Q w := by
  exact g_walk 14 h Try.func145
def slices_Reverse_s_btree_item_string_api_Record_btree_item_string_api_Record.b1 (Q : K)  (X1 : Int → Int → K) (s0_1 : Sl) (i2_1 : Int) (j3_1 : Int) : K :=
  Ite (decide (i2_1 < j3_1))
    (Dr <|
    Idx s0_1 j3_1 5 fun t20 =>
    Idx s0_1 i2_1 5 fun t24 =>
    LdN t20 5 fun t21 =>
    LdN t24 5 fun t25 =>
    Idx s0_1 i2_1 5 fun t26 =>
    StN t26 5 t21 <|
    Idx s0_1 j3_1 5 fun t27 =>
    StN t27 5 t25 <|
    Ar (IntKind.wrap .i64 (i2_1 + 1)) fun t11 =>
    Ar (IntKind.wrap .i64 (j3_1 - 1)) fun t13 =>
    X1 t11 t13)
    (Q)
def slices_Reverse_s_btree_item_string_api_Record_btree_item_string_api_Record (s0 : Sl) (Q : K) : K :=
  Ar (IntKind.wrap .i64 ((s0.n : Int) - 1)) fun t6 =>
  LoopK (α := Int × Int) (fun X x => slices_Reverse_s_btree_item_string_api_Record_btree_item_string_api_Record.b1 Q (fun i2_1 j3_1 => X (i2_1, j3_1)) s0 x.1 x.2) (0, t6)
theorem slices_Reverse_s_btree_item_string_api_Record_btree_item_string_api_Record_ok (s0 : Sl) (Q : K) (w : World) (h : slices_Reverse_s_btree_item_string_api_Record_btree_item_string_api_Record s0 Q w) : slices_Reverse_s_btree_item_string_api_Record_btree_item_string_api_Record.call s0 Q w := by
  have hD3 : DH 3 1 [13, 15] (.s [0, 1, 2, 3, 4, 5, 6, 8, 9, 10, 7, 11, 12] (.a [(13, 0, .s [14] (.a [(15, 0, .e)]))])) := by intros; exact ⟨⟩
  have hL1 : ∀ (s0_1 : Sl), LH 1 (fun x : Int × Int => [(0, (Sl.val s0_1)), (2, (.int .i64 x.1)), (3, (.int .i64 x.2))]) (fun X x => slices_Reverse_s_btree_item_string_api_Record_btree_item_string_api_Record.b1 Q (fun i2_1 j3_1 => X (i2_1, j3_1)) s0_1 x.1 x.2) := by intros; exact ⟨⟩
  exact g_walk 28 h Try.func147
def slices_Reverse_s_btree_node_string_api_Record_btree_node_string_api_Record.b1 (Q : K)  (X1 : Int → Int → K) (s0_1 : Sl) (i2_1 : Int) (j3_1 : Int) : K :=
  Ite (decide (i2_1 < j3_1))
    (Dr <|
    Idx s0_1 j3_1 1 fun t20 =>
    Idx s0_1 i2_1 1 fun t24 =>
    Ld t20 Value.pointer fun t21 =>
    Ld t24 Value.pointer fun t25 =>
    Idx s0_1 i2_1 1 fun t26 =>
    St t26 (.pointer t21) <|
    Idx s0_1 j3_1 1 fun t27 =>
    St t27 (.pointer t25) <|
    Ar (IntKind.wrap .i64 (i2_1 + 1)) fun t11 =>
    Ar (IntKind.wrap .i64 (j3_1 - 1)) fun t13 =>
    X1 t11 t13)
    (Q)
def slices_Reverse_s_btree_node_string_api_Record_btree_node_string_api_Record (s0 : Sl) (Q : K) : K :=
  Ar (IntKind.wrap .i64 ((s0.n : Int) - 1)) fun t6 =>
  LoopK (α := Int × Int) (fun X x => slices_Reverse_s_btree_node_string_api_Record_btree_node_string_api_Record.b1 Q (fun i2_1 j3_1 => X (i2_1, j3_1)) s0 x.1 x.2) (0, t6)
theorem slices_Reverse_s_btree_node_string_api_Record_btree_node_string_api_Record_ok (s0 : Sl) (Q : K) (w : World) (h : slices_Reverse_s_btree_node_string_api_Record_btree_node_string_api_Record s0 Q w) : slices_Reverse_s_btree_node_string_api_Record_btree_node_string_api_Record.call s0 Q w := by
  have hD3 : DH 3 1 [13, 15] (.s [0, 1, 2, 3, 4, 5, 6, 8, 9, 10, 7, 11, 12] (.a [(13, 0, .s [14] (.a [(15, 0, .e)]))])) := by intros; exact ⟨⟩
  have hL1 : ∀ (s0_1 : Sl), LH 1 (fun x : Int × Int => [(0, (Sl.val s0_1)), (2, (.int .i64 x.1)), (3, (.int .i64 x.2))]) (fun X x => slices_Reverse_s_btree_node_string_api_Record_btree_node_string_api_Record.b1 Q (fun i2_1 j3_1 => X (i2_1, j3_1)) s0_1 x.1 x.2) := by intros; exact ⟨⟩
  exact g_walk 28 h Try.func148
end Go.Proofs.Ytfjjocopmknhgaa
