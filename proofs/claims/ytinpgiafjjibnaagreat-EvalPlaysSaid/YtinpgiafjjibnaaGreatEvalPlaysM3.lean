/- Texts of the claim EvalPlays, one behind the other. -/
import Derived.Test.YtinpgiafjjibnaaGreatEvalPlaysM2
import Derived.MapKept
import GoSem.Instr.MapUpdate
import Derived.Shelf.SortM.Plain
import Derived.Shelf.SortM.SortNone
import Derived.Ground.SlgmProg
import Derived.Test.YtinpgiafjjibnaaGreatProg
import Derived.Maps.RangeRun
import Derived.Laws.StructEq
/- Plain forms of functions, and that their code comes to them (package lib_btree). -/
namespace Go.Proofs.YtinpgiafjjibnaaGreat
open Go Go.Sep
set_option linter.unusedVariables false
set_option linter.unusedSimpArgs false
set_option maxRecDepth 100000
set_option maxHeartbeats 4000000
attribute [local irreducible] G Gp Cx Tx Ex Sx Dx Ox Ax Lx Rx Fx Bx Bj Al Do Ld LdN St StN New CallF Ar DoU Rd Rd2 Pu Cd Ite Fv CallV CallY Ans0 Ans1 Ans2 Ans3 Ans4 Ans5 Ext Dead Dr WithS Sv LdS LdNS RdS Rd2S Nn Idx IdxA IdxS Fld Bld Slc SlcS Cat All LoopK RangeF RangeJ TakeD
namespace F_IRLibBtree
instance at_131 : AT Tryz.prog 131 5 := ⟨by kernel_rfl⟩
instance cb_100 : CB Tryz.prog 100 := ⟨by kernel_rfl⟩
instance cb_102 : CB Tryz.prog 102 := ⟨by kernel_rfl⟩
instance cb_104 : CB Tryz.prog 104 := ⟨by kernel_rfl⟩
instance cb_105 : CB Tryz.prog 105 := ⟨by kernel_rfl⟩
instance cb_106 : CB Tryz.prog 106 := ⟨by kernel_rfl⟩
instance cb_107 : CB Tryz.prog 107 := ⟨by kernel_rfl⟩
instance ct_108 : CT Tryz.prog 108 := ⟨by kernel_rfl⟩
instance ext_101 : EXT Tryz.prog 101 (Extern.SlicesOverlaps.overlaps #[119, 119] #[4]) := ext_of Tryz.func101 (by kernel_rfl) (by kernel_rfl) (by kernel_rfl) (by kernel_rfl)
instance ext_99 : EXT Tryz.prog 99 (Extern.SlicesOverlaps.overlaps #[118, 118] #[4]) := ext_of Tryz.func99 (by kernel_rfl) (by kernel_rfl) (by kernel_rfl) (by kernel_rfl)
instance in_126 : INT Tryz.prog 126 .u64 := ⟨by kernel_rfl⟩
instance in_3 : INT Tryz.prog 3 .i64 := ⟨by kernel_rfl⟩
instance mx : MX Tryz.prog := ⟨mixed⟩
instance sl_118 : SLT Tryz.prog 118 131 5 := ⟨by kernel_rfl⟩
instance sl_119 : SLT Tryz.prog 119 108 1 := ⟨by kernel_rfl⟩
instance sz_108 : SZ Tryz.prog 108 1 := ⟨by kernel_rfl⟩
instance sz_131 : SZ Tryz.prog 131 5 := ⟨by kernel_rfl⟩
instance un_118 : UN Tryz.prog 118 (.slice 131) := ⟨Tryz.underlying118⟩
instance un_119 : UN Tryz.prog 119 (.slice 108) := ⟨Tryz.underlying119⟩
instance zt_108 : ZT Tryz.prog 108 (.pointer none) := ⟨Tryz.t108, by kernel_rfl, by kernel_rfl⟩
instance zt_131 : ZT Tryz.prog 131 (.agg #[(.string ⟨#[]⟩), (.bool false), (Sl.val ⟨none, 0, 0⟩), (.int .i64 0), (.int .u64 0)]) := ⟨Tryz.t131, by kernel_rfl, by kernel_rfl⟩
end F_IRLibBtree
def slices_BinarySearchFunc_s_btree_item_string_api_Record_btree_item_string_api_Record_string.s2 (Q : Int → Bool → K) (X1 : Int → Int → K) (t6_2 : Int) (t7_2 : Bool) : K :=
  Q t6_2 t7_2
def slices_BinarySearchFunc_s_btree_item_string_api_Record_btree_item_string_api_Record_string.b1 (Q : Int → Bool → K)  (X1 : Int → Int → K) (x0_1 : Sl) (target1_1 : ByteArray) (cmp2_1 : Value) (n8_1 : Int) (i9_1 : Int) (j10_1 : Int) : K :=
  Ite (decide (i9_1 < j10_1))
    (Ar (IntKind.wrap .i64 (i9_1 + j10_1)) fun t20 =>
    Ar (IntKind.wrap .u64 t20) fun t21 =>
    Cd (0 ≤ (1 : Int)) <|
    Ar (shrOf .u64 t21 1) fun t22 =>
    Ar (IntKind.wrap .i64 t22) fun t23 =>
    Idx x0_1 t23 5 fun t27 =>
    LdN t27 5 fun t28 =>
    CallV Tryz.prog cmp2_1 [(.agg t28), (.string target1_1)] <| Ans1 (fun (t30 : Int) => (Value.int .i64) t30) fun t30 =>
    Ite (decide (t30 < 0))
      (Ar (IntKind.wrap .i64 (t23 + 1)) fun t33 =>
      X1 t33 j10_1)
      (X1 i9_1 t23))
    (Ite (decide (i9_1 < n8_1))
      (Idx x0_1 i9_1 5 fun t43 =>
      LdN t43 5 fun t44 =>
      CallV Tryz.prog cmp2_1 [(.agg t44), (.string target1_1)] <| Ans1 (fun (t46 : Int) => (Value.int .i64) t46) fun t46 =>
      slices_BinarySearchFunc_s_btree_item_string_api_Record_btree_item_string_api_Record_string.s2 Q X1 i9_1 (decide (t46 = 0)))
      (slices_BinarySearchFunc_s_btree_item_string_api_Record_btree_item_string_api_Record_string.s2 Q X1 i9_1 false))
def slices_BinarySearchFunc_s_btree_item_string_api_Record_btree_item_string_api_Record_string (x0 : Sl) (target1 : ByteArray) (cmp2 : Value) (Q : Int → Bool → K) : K :=
  LoopK (α := Int × Int) (fun X x => slices_BinarySearchFunc_s_btree_item_string_api_Record_btree_item_string_api_Record_string.b1 Q (fun i9_1 j10_1 => X (i9_1, j10_1)) x0 target1 cmp2 (x0.n : Int) x.1 x.2) (0, (x0.n : Int))
theorem slices_BinarySearchFunc_s_btree_item_string_api_Record_btree_item_string_api_Record_string_ok (x0 : Sl) (target1 : ByteArray) (cmp2 : Value) (Q : Int → Bool → K) (w : World) (h : slices_BinarySearchFunc_s_btree_item_string_api_Record_btree_item_string_api_Record_string x0 target1 cmp2 Q w) : slices_BinarySearchFunc_s_btree_item_string_api_Record_btree_item_string_api_Record_string.call x0 target1 cmp2 Q w := by
  have hJ1000008 : ∀ (X1 : (Int × Int) → K), XH 3 X1 → JH 1000008 fun D => D [] (fun C => ∀ (t6_2 : Int) (t7_2 : Bool), C [(6, (.int .i64 t6_2)), (7, (.bool t7_2))] (slices_BinarySearchFunc_s_btree_item_string_api_Record_btree_item_string_api_Record_string.s2 Q (fun i9_1 j10_1 => X1 (i9_1, j10_1)) t6_2 t7_2)) := by intros; exact ⟨fun _ h => ⟨_, _, h⟩⟩
  have hL3 : ∀ (x0_1 : Sl) (target1_1 : ByteArray) (cmp2_1 : Value) (n8_1 : Int), LH 3 (fun x : Int × Int => [(0, (Sl.val x0_1)), (1, (.string target1_1)), (2, cmp2_1), (8, (.int .i64 n8_1)), (9, (.int .i64 x.1)), (10, (.int .i64 x.2))]) (fun X x => slices_BinarySearchFunc_s_btree_item_string_api_Record_btree_item_string_api_Record_string.b1 Q (fun i9_1 j10_1 => X (i9_1, j10_1)) x0_1 target1_1 cmp2_1 n8_1 x.1 x.2) := by intros; exact ⟨⟩
  exact g_walk 49 h Tryz.func82
def slices_Delete_s_btree_item_string_api_Record_btree_item_string_api_Record (s0 : Sl) (i1 : Int) (j2 : Int) (Q : Sl → K) : K :=
  Slc s0 i1 j2 (s0.n : Int) 5 fun t13 =>
  Ite (decide (i1 = j2))
    (Q s0)
    (Dr <|
    Slc s0 0 i1 (s0.c : Int) 5 fun t22 =>
    Slc s0 j2 (s0.n : Int) (s0.c : Int) 5 fun t25 =>
    Do Tryz.prog (Builtin.append_ #[118, 118] 118 #[(Sl.val t22), (Sl.val t25)]) Sl.val fun t26 =>
    Slc t26 (t26.n : Int) (s0.n : Int) (t26.c : Int) 5 fun t31 =>
    Do Tryz.prog (Builtin.clear_ #[118] 0 #[(Sl.val t31)]) id fun _ =>
    Q t26)
theorem slices_Delete_s_btree_item_string_api_Record_btree_item_string_api_Record_ok (s0 : Sl) (i1 : Int) (j2 : Int) (Q : Sl → K) (w : World) (h : slices_Delete_s_btree_item_string_api_Record_btree_item_string_api_Record s0 i1 j2 Q w) : slices_Delete_s_btree_item_string_api_Record_btree_item_string_api_Record.call s0 i1 j2 Q w := by
  have hD5 : DH 5 0 [] (.s [0, 1, 2, 3, 4, 5] (.a [(6, 0, .s [7] .e)])) := by intros; exact ⟨⟩
  exact g_walk 33 h Tryz.func85
def slices_Insert_s_btree_item_string_api_Record_btree_item_string_api_Record (s0 : Sl) (i1 : Int) (v2 : Sl) (Q : Sl → K) : K :=
  Slc s0 i1 (s0.n : Int) (s0.c : Int) 5 fun t12 =>
  Ite (decide ((v2.n : Int) = 0))
    (Q s0)
    (Ite (decide (i1 = (s0.n : Int)))
      (Do Tryz.prog (Builtin.append_ #[118, 118] 118 #[(Sl.val s0), (Sl.val v2)]) Sl.val fun t25 =>
      Q t25)
      (Ar (IntKind.wrap .i64 ((s0.n : Int) + (v2.n : Int))) fun t28 =>
      Do Tryz.prog (Builtin.cap_ #[118] 3 #[(Sl.val s0)]) (Value.int .i64) fun t30 =>
      Ite (decide (t30 < t28))
        (Slc s0 0 i1 (s0.c : Int) 5 fun t34 =>
        Ar (IntKind.wrap .i64 ((s0.n : Int) + (v2.n : Int))) fun t37 =>
        Ar (IntKind.wrap .i64 (t37 - i1)) fun t39 =>
        Do Tryz.prog (Builtin.append_ #[118, 3] 118 #[(Sl.val t34), (.int .i64 t39)]) Sl.val fun t40 =>
        Slc t40 i1 (t40.n : Int) (t40.c : Int) 5 fun t43 =>
        Do Tryz.prog (Builtin.copy_ #[118, 118] 3 #[(Sl.val t43), (Sl.val v2)]) (Value.int .i64) fun t45 =>
        Dr <|
        Ar (IntKind.wrap .i64 (i1 + (v2.n : Int))) fun t49 =>
        Slc t40 t49 (t40.n : Int) (t40.c : Int) 5 fun t50 =>
        Slc s0 i1 (s0.n : Int) (s0.c : Int) 5 fun t53 =>
        Do Tryz.prog (Builtin.copy_ #[118, 118] 3 #[(Sl.val t50), (Sl.val t53)]) (Value.int .i64) fun t54 =>
        Q t40)
        (Ar (IntKind.wrap .i64 ((s0.n : Int) + (v2.n : Int))) fun t59 =>
        Slc s0 0 t59 (s0.c : Int) 5 fun t60 =>
        Ar (IntKind.wrap .i64 (i1 + (v2.n : Int))) fun t65 =>
        Slc t60 t65 (t60.n : Int) (t60.c : Int) 5 fun t66 =>
        Rd Tryz.prog (Extern.SlicesOverlaps.overlaps #[118, 118] #[4] [(Sl.val v2), (Sl.val t66)].toArray) Value.bool fun t67 =>
        Ite (!t67)
          (Dr <|
          Ar (IntKind.wrap .i64 (i1 + (v2.n : Int))) fun t72 =>
          Slc t60 t72 (t60.n : Int) (t60.c : Int) 5 fun t73 =>
          Slc t60 i1 (t60.n : Int) (t60.c : Int) 5 fun t76 =>
          Do Tryz.prog (Builtin.copy_ #[118, 118] 3 #[(Sl.val t73), (Sl.val t76)]) (Value.int .i64) fun t77 =>
          Slc t60 i1 (t60.n : Int) (t60.c : Int) 5 fun t80 =>
          Do Tryz.prog (Builtin.copy_ #[118, 118] 3 #[(Sl.val t80), (Sl.val v2)]) (Value.int .i64) fun t82 =>
          Q t60)
          (Slc t60 (s0.n : Int) (t60.n : Int) (t60.c : Int) 5 fun t86 =>
          Do Tryz.prog (Builtin.copy_ #[118, 118] 3 #[(Sl.val t86), (Sl.val v2)]) (Value.int .i64) fun t88 =>
          Slc t60 i1 (t60.n : Int) (t60.c : Int) 5 fun t91 =>
          slices_rotateRight_btree_item_string_api_Record.call t91 (v2.n : Int) <|
          Q t60))))
theorem slices_Insert_s_btree_item_string_api_Record_btree_item_string_api_Record_ok (s0 : Sl) (i1 : Int) (v2 : Sl) (Q : Sl → K) (w : World) (h : slices_Insert_s_btree_item_string_api_Record_btree_item_string_api_Record s0 i1 v2 Q w) : slices_Insert_s_btree_item_string_api_Record_btree_item_string_api_Record.call s0 i1 v2 Q w := by
  have hD11 : DH 11 0 [] (.s [0, 1, 2, 3, 4, 5, 6, 7] (.a [(8, 0, .e)])) := by intros; exact ⟨⟩
  have hD15 : DH 15 0 [] (.s [0, 1, 2, 3, 4, 5, 6, 7] (.a [(8, 0, .e)])) := by intros; exact ⟨⟩
  exact g_walk 95 h Tryz.func88
def slices_Insert_s_btree_node_string_api_Record_btree_node_string_api_Record (s0 : Sl) (i1 : Int) (v2 : Sl) (Q : Sl → K) : K :=
  Slc s0 i1 (s0.n : Int) (s0.c : Int) 1 fun t12 =>
  Ite (decide ((v2.n : Int) = 0))
    (Q s0)
    (Ite (decide (i1 = (s0.n : Int)))
      (Do Tryz.prog (Builtin.append_ #[119, 119] 119 #[(Sl.val s0), (Sl.val v2)]) Sl.val fun t25 =>
      Q t25)
      (Ar (IntKind.wrap .i64 ((s0.n : Int) + (v2.n : Int))) fun t28 =>
      Do Tryz.prog (Builtin.cap_ #[119] 3 #[(Sl.val s0)]) (Value.int .i64) fun t30 =>
      Ite (decide (t30 < t28))
        (Slc s0 0 i1 (s0.c : Int) 1 fun t34 =>
        Ar (IntKind.wrap .i64 ((s0.n : Int) + (v2.n : Int))) fun t37 =>
        Ar (IntKind.wrap .i64 (t37 - i1)) fun t39 =>
        Do Tryz.prog (Builtin.append_ #[119, 3] 119 #[(Sl.val t34), (.int .i64 t39)]) Sl.val fun t40 =>
        Slc t40 i1 (t40.n : Int) (t40.c : Int) 1 fun t43 =>
        Do Tryz.prog (Builtin.copy_ #[119, 119] 3 #[(Sl.val t43), (Sl.val v2)]) (Value.int .i64) fun t45 =>
        Dr <|
        Ar (IntKind.wrap .i64 (i1 + (v2.n : Int))) fun t49 =>
        Slc t40 t49 (t40.n : Int) (t40.c : Int) 1 fun t50 =>
        Slc s0 i1 (s0.n : Int) (s0.c : Int) 1 fun t53 =>
        Do Tryz.prog (Builtin.copy_ #[119, 119] 3 #[(Sl.val t50), (Sl.val t53)]) (Value.int .i64) fun t54 =>
        Q t40)
        (Ar (IntKind.wrap .i64 ((s0.n : Int) + (v2.n : Int))) fun t59 =>
        Slc s0 0 t59 (s0.c : Int) 1 fun t60 =>
        Ar (IntKind.wrap .i64 (i1 + (v2.n : Int))) fun t65 =>
        Slc t60 t65 (t60.n : Int) (t60.c : Int) 1 fun t66 =>
        Rd Tryz.prog (Extern.SlicesOverlaps.overlaps #[119, 119] #[4] [(Sl.val v2), (Sl.val t66)].toArray) Value.bool fun t67 =>
        Ite (!t67)
          (Dr <|
          Ar (IntKind.wrap .i64 (i1 + (v2.n : Int))) fun t72 =>
          Slc t60 t72 (t60.n : Int) (t60.c : Int) 1 fun t73 =>
          Slc t60 i1 (t60.n : Int) (t60.c : Int) 1 fun t76 =>
          Do Tryz.prog (Builtin.copy_ #[119, 119] 3 #[(Sl.val t73), (Sl.val t76)]) (Value.int .i64) fun t77 =>
          Slc t60 i1 (t60.n : Int) (t60.c : Int) 1 fun t80 =>
          Do Tryz.prog (Builtin.copy_ #[119, 119] 3 #[(Sl.val t80), (Sl.val v2)]) (Value.int .i64) fun t82 =>
          Q t60)
          (Slc t60 (s0.n : Int) (t60.n : Int) (t60.c : Int) 1 fun t86 =>
          Do Tryz.prog (Builtin.copy_ #[119, 119] 3 #[(Sl.val t86), (Sl.val v2)]) (Value.int .i64) fun t88 =>
          Slc t60 i1 (t60.n : Int) (t60.c : Int) 1 fun t91 =>
          slices_rotateRight_btree_node_string_api_Record.call t91 (v2.n : Int) <|
          Q t60))))
theorem slices_Insert_s_btree_node_string_api_Record_btree_node_string_api_Record_ok (s0 : Sl) (i1 : Int) (v2 : Sl) (Q : Sl → K) (w : World) (h : slices_Insert_s_btree_node_string_api_Record_btree_node_string_api_Record s0 i1 v2 Q w) : slices_Insert_s_btree_node_string_api_Record_btree_node_string_api_Record.call s0 i1 v2 Q w := by
  have hD11 : DH 11 0 [] (.s [0, 1, 2, 3, 4, 5, 6, 7] (.a [(8, 0, .e)])) := by intros; exact ⟨⟩
  have hD15 : DH 15 0 [] (.s [0, 1, 2, 3, 4, 5, 6, 7] (.a [(8, 0, .e)])) := by intros; exact ⟨⟩
  exact g_walk 95 h Tryz.func89
def slices_Clone_s_btree_item_string_api_Record_btree_item_string_api_Record (s0 : Sl) (Q : Sl → K) : K :=
  Ite ((s0).a.isNone)
    (Q (Sl.mk none 0 0))
    (New 131 #[] fun t5 =>
    Do Tryz.prog (Builtin.append_ #[118, 118] 118 #[(Sl.val (Sl.mk (some t5) 0 0)), (Sl.val s0)]) Sl.val fun t7 =>
    Q t7)
theorem slices_Clone_s_btree_item_string_api_Record_btree_item_string_api_Record_ok (s0 : Sl) (Q : Sl → K) (w : World) (h : slices_Clone_s_btree_item_string_api_Record_btree_item_string_api_Record s0 Q w) : slices_Clone_s_btree_item_string_api_Record_btree_item_string_api_Record.call s0 Q w := by
  exact g_walk 8 h Tryz.func90
def slices_Clone_s_btree_node_string_api_Record_btree_node_string_api_Record (s0 : Sl) (Q : Sl → K) : K :=
  Ite ((s0).a.isNone)
    (Q (Sl.mk none 0 0))
    (New 108 #[] fun t5 =>
    Do Tryz.prog (Builtin.append_ #[119, 119] 119 #[(Sl.val (Sl.mk (some t5) 0 0)), (Sl.val s0)]) Sl.val fun t7 =>
    Q t7)
theorem slices_Clone_s_btree_node_string_api_Record_btree_node_string_api_Record_ok (s0 : Sl) (Q : Sl → K) (w : World) (h : slices_Clone_s_btree_node_string_api_Record_btree_node_string_api_Record s0 Q w) : slices_Clone_s_btree_node_string_api_Record_btree_node_string_api_Record.call s0 Q w := by
  exact g_walk 8 h Tryz.func91
def slices_Delete_s_btree_node_string_api_Record_btree_node_string_api_Record (s0 : Sl) (i1 : Int) (j2 : Int) (Q : Sl → K) : K :=
  Slc s0 i1 j2 (s0.n : Int) 1 fun t13 =>
  Ite (decide (i1 = j2))
    (Q s0)
    (Dr <|
    Slc s0 0 i1 (s0.c : Int) 1 fun t22 =>
    Slc s0 j2 (s0.n : Int) (s0.c : Int) 1 fun t25 =>
    Do Tryz.prog (Builtin.append_ #[119, 119] 119 #[(Sl.val t22), (Sl.val t25)]) Sl.val fun t26 =>
    Slc t26 (t26.n : Int) (s0.n : Int) (t26.c : Int) 1 fun t31 =>
    Do Tryz.prog (Builtin.clear_ #[119] 0 #[(Sl.val t31)]) id fun _ =>
    Q t26)
theorem slices_Delete_s_btree_node_string_api_Record_btree_node_string_api_Record_ok (s0 : Sl) (i1 : Int) (j2 : Int) (Q : Sl → K) (w : World) (h : slices_Delete_s_btree_node_string_api_Record_btree_node_string_api_Record s0 i1 j2 Q w) : slices_Delete_s_btree_node_string_api_Record_btree_node_string_api_Record.call s0 i1 j2 Q w := by
  have hD5 : DH 5 0 [] (.s [0, 1, 2, 3, 4, 5] (.a [(6, 0, .s [7] .e)])) := by intros; exact ⟨⟩
  exact g_walk 33 h Tryz.func98
def slices_rotateRight_btree_item_string_api_Record (s0 : Sl) (r1 : Int) (Q : K) : K :=
  Ar (IntKind.wrap .i64 ((s0.n : Int) - r1)) fun t8 =>
  slices_rotateLeft_btree_item_string_api_Record.call s0 t8 <|
  Q
theorem slices_rotateRight_btree_item_string_api_Record_ok (s0 : Sl) (r1 : Int) (Q : K) (w : World) (h : slices_rotateRight_btree_item_string_api_Record s0 r1 Q w) : slices_rotateRight_btree_item_string_api_Record.call s0 r1 Q w := by
  exact g_walk 10 h Tryz.func100
def slices_rotateRight_btree_node_string_api_Record (s0 : Sl) (r1 : Int) (Q : K) : K :=
  Ar (IntKind.wrap .i64 ((s0.n : Int) - r1)) fun t8 =>
  slices_rotateLeft_btree_node_string_api_Record.call s0 t8 <|
  Q
theorem slices_rotateRight_btree_node_string_api_Record_ok (s0 : Sl) (r1 : Int) (Q : K) (w : World) (h : slices_rotateRight_btree_node_string_api_Record s0 r1 Q w) : slices_rotateRight_btree_node_string_api_Record.call s0 r1 Q w := by
  exact g_walk 10 h Tryz.func102
def slices_rotateLeft_btree_item_string_api_Record (s0 : Sl) (r1 : Int) (Q : K) : K :=
  Slc s0 0 r1 (s0.c : Int) 5 fun t6 =>
  slices_Reverse_s_btree_item_string_api_Record_btree_item_string_api_Record.call t6 <|
  Slc s0 r1 (s0.n : Int) (s0.c : Int) 5 fun t10 =>
  slices_Reverse_s_btree_item_string_api_Record_btree_item_string_api_Record.call t10 <|
  slices_Reverse_s_btree_item_string_api_Record_btree_item_string_api_Record.call s0 <|
  Q
theorem slices_rotateLeft_btree_item_string_api_Record_ok (s0 : Sl) (r1 : Int) (Q : K) (w : World) (h : slices_rotateLeft_btree_item_string_api_Record s0 r1 Q w) : slices_rotateLeft_btree_item_string_api_Record.call s0 r1 Q w := by
  exact g_walk 14 h Tryz.func104
def slices_rotateLeft_btree_node_string_api_Record (s0 : Sl) (r1 : Int) (Q : K) : K :=
  Slc s0 0 r1 (s0.c : Int) 1 fun t6 =>
  slices_Reverse_s_btree_node_string_api_Record_btree_node_string_api_Record.call t6 <|
  Slc s0 r1 (s0.n : Int) (s0.c : Int) 1 fun t10 =>
  slices_Reverse_s_btree_node_string_api_Record_btree_node_string_api_Record.call t10 <|
  slices_Reverse_s_btree_node_string_api_Record_btree_node_string_api_Record.call s0 <|
  Q
theorem slices_rotateLeft_btree_node_string_api_Record_ok (s0 : Sl) (r1 : Int) (Q : K) (w : World) (h : slices_rotateLeft_btree_node_string_api_Record s0 r1 Q w) : slices_rotateLeft_btree_node_string_api_Record.call s0 r1 Q w := by
  exact g_walk 14 h Tryz.func105
def slices_Reverse_s_btree_item_string_api_Record_btree_item_string_api_Record.b1 (Q : K)  (X1 : Int → Int → K) (s0_1 : Sl) (i2_1 : Int) (j3_1 : Int) : K :=
  Ite (decide (i2_1 < j3_1))
    (Dr <|
    Idx s0_1 j3_1 5 fun t20 =>
    Idx s0_1 i2_1 5 fun t24 =>
    LdN t20 5 fun t21 =>
    LdN t24 5 fun t25 =>
    Idx s0_1 i2_1 5 fun t26 =>
    StN t26 5 t21 <|
    Idx s0_1 j3_1 5 fun t27 =>
    StN t27 5 t25 <|
    Ar (IntKind.wrap .i64 (i2_1 + 1)) fun t11 =>
    Ar (IntKind.wrap .i64 (j3_1 - 1)) fun t13 =>
    X1 t11 t13)
    (Q)
def slices_Reverse_s_btree_item_string_api_Record_btree_item_string_api_Record (s0 : Sl) (Q : K) : K :=
  Ar (IntKind.wrap .i64 ((s0.n : Int) - 1)) fun t6 =>
  LoopK (α := Int × Int) (fun X x => slices_Reverse_s_btree_item_string_api_Record_btree_item_string_api_Record.b1 Q (fun i2_1 j3_1 => X (i2_1, j3_1)) s0 x.1 x.2) (0, t6)
theorem slices_Reverse_s_btree_item_string_api_Record_btree_item_string_api_Record_ok (s0 : Sl) (Q : K) (w : World) (h : slices_Reverse_s_btree_item_string_api_Record_btree_item_string_api_Record s0 Q w) : slices_Reverse_s_btree_item_string_api_Record_btree_item_string_api_Record.call s0 Q w := by
  have hD3 : DH 3 1 [13, 15] (.s [0, 1, 2, 3, 4, 5, 6, 8, 9, 10, 7, 11, 12] (.a [(13, 0, .s [14] (.a [(15, 0, .e)]))])) := by intros; exact ⟨⟩
  have hL1 : ∀ (s0_1 : Sl), LH 1 (fun x : Int × Int => [(0, (Sl.val s0_1)), (2, (.int .i64 x.1)), (3, (.int .i64 x.2))]) (fun X x => slices_Reverse_s_btree_item_string_api_Record_btree_item_string_api_Record.b1 Q (fun i2_1 j3_1 => X (i2_1, j3_1)) s0_1 x.1 x.2) := by intros; exact ⟨⟩
  exact g_walk 28 h Tryz.func106
def slices_Reverse_s_btree_node_string_api_Record_btree_node_string_api_Record.b1 (Q : K)  (X1 : Int → Int → K) (s0_1 : Sl) (i2_1 : Int) (j3_1 : Int) : K :=
  Ite (decide (i2_1 < j3_1))
    (Dr <|
    Idx s0_1 j3_1 1 fun t20 =>
    Idx s0_1 i2_1 1 fun t24 =>
    Ld t20 Value.pointer fun t21 =>
    Ld t24 Value.pointer fun t25 =>
    Idx s0_1 i2_1 1 fun t26 =>
    St t26 (.pointer t21) <|
    Idx s0_1 j3_1 1 fun t27 =>
    St t27 (.pointer t25) <|
    Ar (IntKind.wrap .i64 (i2_1 + 1)) fun t11 =>
    Ar (IntKind.wrap .i64 (j3_1 - 1)) fun t13 =>
    X1 t11 t13)
    (Q)
def slices_Reverse_s_btree_node_string_api_Record_btree_node_string_api_Record (s0 : Sl) (Q : K) : K :=
  Ar (IntKind.wrap .i64 ((s0.n : Int) - 1)) fun t6 =>
  LoopK (α := Int × Int) (fun X x => slices_Reverse_s_btree_node_string_api_Record_btree_node_string_api_Record.b1 Q (fun i2_1 j3_1 => X (i2_1, j3_1)) s0 x.1 x.2) (0, t6)
theorem slices_Reverse_s_btree_node_string_api_Record_btree_node_string_api_Record_ok (s0 : Sl) (Q : K) (w : World) (h : slices_Reverse_s_btree_node_string_api_Record_btree_node_string_api_Record s0 Q w) : slices_Reverse_s_btree_node_string_api_Record_btree_node_string_api_Record.call s0 Q w := by
  have hD3 : DH 3 1 [13, 15] (.s [0, 1, 2, 3, 4, 5, 6, 8, 9, 10, 7, 11, 12] (.a [(13, 0, .s [14] (.a [(15, 0, .e)]))])) := by intros; exact ⟨⟩
  have hL1 : ∀ (s0_1 : Sl), LH 1 (fun x : Int × Int => [(0, (Sl.val s0_1)), (2, (.int .i64 x.1)), (3, (.int .i64 x.2))]) (fun X x => slices_Reverse_s_btree_node_string_api_Record_btree_node_string_api_Record.b1 Q (fun i2_1 j3_1 => X (i2_1, j3_1)) s0_1 x.1 x.2) := by intros; exact ⟨⟩
  exact g_walk 28 h Tryz.func107
end Go.Proofs.YtinpgiafjjibnaaGreat
/- Plain forms of functions, and that their code comes to them (package lib_cmp). -/
namespace Go.Proofs.YtinpgiafjjibnaaGreat
open Go Go.Sep
set_option linter.unusedVariables false
set_option linter.unusedSimpArgs false
set_option maxRecDepth 100000
set_option maxHeartbeats 4000000
attribute [local irreducible] G Gp Cx Tx Ex Sx Dx Ox Ax Lx Rx Fx Bx Bj Al Do Ld LdN St StN New CallF Ar DoU Rd Rd2 Pu Cd Ite Fv CallV CallY Ans0 Ans1 Ans2 Ans3 Ans4 Ans5 Ext Dead Dr WithS Sv LdS LdNS RdS Rd2S Nn Idx IdxA IdxS Fld Bld Slc SlcS Cat All LoopK RangeF RangeJ TakeD
namespace F_IRLibCmp
instance cb_97 : CB Tryz.prog 97 := ⟨by kernel_rfl⟩
instance mx : MX Tryz.prog := ⟨mixed⟩
end F_IRLibCmp
def cmp_Less_string.s1 (Q : Bool → K)  (t4_1 : Bool) : K :=
  Q t4_1
def cmp_Less_string (x0 : ByteArray) (y1 : ByteArray) (Q : Bool → K) : K :=
  cmp_isNaN_string.call x0 fun t6 =>
  Ite t6
    (cmp_isNaN_string.call y1 fun t9 =>
    Ite (!t9)
      (cmp_Less_string.s1 Q true)
      (cmp_Less_string.s1 Q (Op.bytesLess x0.toList y1.toList)))
    (cmp_Less_string.s1 Q (Op.bytesLess x0.toList y1.toList))
theorem cmp_Less_string_ok (x0 : ByteArray) (y1 : ByteArray) (Q : Bool → K) (w : World) (h : cmp_Less_string x0 y1 Q w) : cmp_Less_string.call x0 y1 Q w := by
  have hJ1000001 : JH 1000001 fun D => D [] (fun C => ∀ (t4_1 : Bool), C [(4, (.bool t4_1))] (cmp_Less_string.s1 Q t4_1)) := by intros; exact ⟨fun _ h => ⟨_, _, h⟩⟩
  exact g_walk 17 h Tryz.func77
def cmp_Compare_string (x0 : ByteArray) (y1 : ByteArray) (Q : Int → K) : K :=
  cmp_isNaN_string.call x0 fun t8 =>
  cmp_isNaN_string.call y1 fun t10 =>
  Ite t8
    (Ite t10
      (Q 0)
      (Q (-1)))
    (Ite t10
      (Q 1)
      (Ite (Op.bytesLess x0.toList y1.toList)
        (Q (-1))
        (Ite (!(Op.bytesLess x0.toList y1.toList || x0.toList == y1.toList))
          (Q 1)
          (Q 0))))
theorem cmp_Compare_string_ok (x0 : ByteArray) (y1 : ByteArray) (Q : Int → K) (w : World) (h : cmp_Compare_string x0 y1 Q w) : cmp_Compare_string.call x0 y1 Q w := by
  exact g_walk 20 h Tryz.func84
def cmp_isNaN_string (x0 : ByteArray) (Q : Bool → K) : K :=
  Q (!(x0.toList == x0.toList))
theorem cmp_isNaN_string_ok (x0 : ByteArray) (Q : Bool → K) (w : World) (h : cmp_isNaN_string x0 Q w) : cmp_isNaN_string.call x0 Q w := by
  exact g_walk 6 h Tryz.func97
end Go.Proofs.YtinpgiafjjibnaaGreat
/- The B-tree of records by strings is one of Bt's. -/
namespace Go.Proofs.YtinpgiafjjibnaaGreat
open Go Go.Sep Go.Sep.Bt
set_option linter.unusedSimpArgs false
set_option linter.unusedVariables false
set_option maxRecDepth 100000

noncomputable def btS : BtT ByteArray where
  P := Tryz.prog
  tI := ty_btree_item_string_api_Record
  tSI := ty_s_btree_item_string_api_Record
  tV := ty_api_Record
  tK := ty_p_btree_node_string_api_Record
  tSK := ty_s_p_btree_node_string_api_Record
  tN := ty_btree_node_string_api_Record
  tT := ty_btree_Tree_string_api_Record
  nv := 4
  kz := .string ⟨#[]⟩
  vz := [.bool false, Sl.val ⟨none, 0, 0⟩, .int .i64 0, .int .u64 0]
  kV := Value.string
  cv := .func (.func 83) #[] #[]
  bsC := slices_BinarySearchFunc_s_btree_item_string_api_Record_btree_item_string_api_Record_string.call
  nsearchC := btree_node_string_api_Record_search.call
  nputC := btree_node_string_api_Record_put.call
  insIC := slices_Insert_s_btree_item_string_api_Record_btree_item_string_api_Record.call
  insKC := slices_Insert_s_btree_node_string_api_Record_btree_node_string_api_Record.call
  cloneIC := slices_Clone_s_btree_item_string_api_Record_btree_item_string_api_Record.call
  cloneKC := slices_Clone_s_btree_node_string_api_Record_btree_node_string_api_Record.call

/-- How strings are compared. -/
def cmpS (a b : ByteArray) : Int := if a.toList < b.toList then -1 else if a.toList = b.toList then 0 else 1
theorem toList_inj {a b : ByteArray} (h : a.toList = b.toList) : a = b := by
  obtain ⟨x, rfl⟩ := bs_of a
  obtain ⟨y, rfl⟩ := bs_of b
  rw [bs_list, bs_list] at h
  rw [h]
theorem cmpS_neg {a b : ByteArray} : cmpS a b < 0 ↔ a.toList < b.toList := by
  unfold cmpS
  split
  · simp [*]
  · split <;> simp [*]
theorem cmpS_zero {a b : ByteArray} : cmpS a b = 0 ↔ a = b := by
  unfold cmpS
  split
  · rename_i h
    simp only [show ¬ ((-1 : Int) = 0) by omega, false_iff]
    rintro rfl; exact List.lt_irrefl _ h
  · split
    · rename_i h; simp [toList_inj h]
    · rename_i h
      simp only [show ¬ ((1 : Int) = 0) by omega, false_iff]
      rintro rfl; exact h rfl
theorem list_tri {x y : List UInt8} (h1 : ¬ x < y) (h2 : ¬ x = y) : y < x := by
  have h4 : y ≤ x := by rw [← List.not_lt]; exact h1
  rcases List.le_iff_lt_or_eq.1 h4 with h5 | h5
  · exact h5
  · exact absurd h5.symm h2
theorem cmpS_pos {a b : ByteArray} : 0 < cmpS a b ↔ b.toList < a.toList := by
  unfold cmpS
  split
  · rename_i h
    simp only [show ¬ (0 < (-1 : Int)) by omega, false_iff]
    exact fun h2 => List.lt_irrefl _ (List.lt_trans h h2)
  · split
    · rename_i h
      simp only [show ¬ (0 < (0 : Int)) by omega, false_iff]
      rw [h]; exact List.lt_irrefl _
    · rename_i h1 h2
      simp only [show 0 < (1 : Int) by omega, true_iff]
      exact list_tri h1 h2
theorem isNaN_spec {B : World} {Γ : List HProp} {x : ByteArray} {q : Bool → K} (h : HG B Γ (q false)) : HG B Γ (cmp_isNaN_string.call x q) := fun w hw => cmp_isNaN_string_ok _ _ _ (by unfold cmp_isNaN_string; simpa using h w hw)
theorem Compare_spec {B : World} {Γ : List HProp} {x y : ByteArray} {q : Int → K} (h : HG B Γ (q (cmpS x y))) : HG B Γ (cmp_Compare_string.call x y q) := fun w hw => by
  refine cmp_Compare_string_ok _ _ _ _ ?_
  refine hg hw ?_
  unfold cmp_Compare_string
  refine isNaN_spec (isNaN_spec ?_)
  refine s_f ?_ rfl
  refine s_f ?_ rfl
  rw [gt_dec, bytesLess_dec]
  refine s_ite (fun h1 => ?_) fun h1 => ?_
  · have e : cmpS x y = -1 := by unfold cmpS; rw [if_pos (by simpa using h1)]
    rw [e] at h; exact h
  refine s_ite (fun h2 => ?_) fun h2 => ?_
  · have h3 : y.toList < x.toList := by simpa using h2
    have e : cmpS x y = 1 := by
      unfold cmpS
      rw [if_neg (by simpa using h1), if_neg fun h4 => by rw [h4] at h3; exact List.lt_irrefl _ h3]
    rw [e] at h; exact h
  · have h3 : ¬ y.toList < x.toList := by simpa using h2
    have e : cmpS x y = 0 := by
      unfold cmpS
      rw [if_neg (by simpa using h1), if_pos (Classical.byContradiction fun h4 => h3 (list_tri (by simpa using h1) h4))]
    rw [e] at h; exact h
theorem btS_ok : BtOk btS cmpS where
  kf := fun _ => rfl
  kzf := rfl
  vz := ⟨rfl, rfl⟩
  TI := by kernel_rfl
  ZI := by kernel_rfl
  TK := by kernel_rfl
  ZK := by kernel_rfl
  tr := fun h1 h2 => cmpS_neg.2 (List.lt_trans (cmpS_neg.1 h1) (cmpS_neg.1 h2))
  eq := cmpS_zero
  sw := by intro a b; rw [cmpS_neg, cmpS_pos]
  cmp := fun a b vs q hl h => by
    refine s_callv ?_
    refine fun w hw => btree_node_string_api_Record_search_1_ok _ _ _ _ ?_
    refine hg hw ?_
    clear hw w
    unfold btree_node_string_api_Record_search_1
    refine s_new fun t => ?_
    refine s_ld (b := t) (x := a) ?_
    refine Compare_spec ?_
    exact s_end h
  bs := fun s k Q w h => slices_BinarySearchFunc_s_btree_item_string_api_Record_btree_item_string_api_Record_string_ok _ _ _ _ _ h
  search := fun n k Q w h => btree_node_string_api_Record_search_ok _ _ _ _ h
  put := fun n x Q w h => btree_node_string_api_Record_put_ok _ _ _ _ h
  insI := ⟨_, _, fun s i v Q w h => slices_Insert_s_btree_item_string_api_Record_btree_item_string_api_Record_ok _ _ _ _ _ h⟩
  insK := ⟨_, _, fun s i v Q w h => slices_Insert_s_btree_node_string_api_Record_btree_node_string_api_Record_ok _ _ _ _ _ h⟩
  cloneI := fun s Q w h => slices_Clone_s_btree_item_string_api_Record_btree_item_string_api_Record_ok _ _ _ h
  cloneK := fun s Q w h => slices_Clone_s_btree_node_string_api_Record_btree_node_string_api_Record_ok _ _ _ h

section
variable {B : World} {Γ : List HProp}
theorem btNew_spec {Q : Option Addr → K} (h : ∀ t, HG B (TreeR btS cmpS t [] :: Γ) (Q (some ⟨t, 0, none⟩))) : HG B Γ (btree_New_string_api_Record.call Q) := fun w hw =>
  btree_New_string_api_Record_ok _ _ (show tnew btS Q w from hg hw (tnew_spec h))
theorem btGet_spec {t : Nat} {L : List btS.It} {k : ByteArray} {Q : Array Value → Bool → K} (hfound : ∀ A v C, L = A ++ (k, v) :: C → HG B (TreeR btS cmpS t L :: Γ) (Q v.1.toArray true)) (hnot : (∀ A C, L = A ++ C → (∀ x ∈ A, cmpS x.1 k < 0) → (∀ x ∈ C, cmpS k x.1 < 0) → HG B (TreeR btS cmpS t L :: Γ) (Q btS.vz.toArray false))) :
    HG B (TreeR btS cmpS t L :: Γ) (btree_Tree_string_api_Record_Get.call (some ⟨t, 0, none⟩) k Q) := fun w hw =>
  btree_Tree_string_api_Record_Get_ok _ _ _ _ (show tget btS (some ⟨t, 0, none⟩) k Q w from hg hw (tget_spec btS_ok hfound hnot))
theorem btPut_spec {t : Nat} {L : List btS.It} {k : ByteArray} {v : Cel btS.nv} {Q : Array Value → Bool → K} (hL : L.length < 1000000000) (h : ∀ L' old had, PutR cmpS (btS.z0 btS_ok.vz) L k v L' old had → HG B (TreeR btS cmpS t L' :: Γ) (Q old.1.toArray had)) :
    HG B (TreeR btS cmpS t L :: Γ) (btree_Tree_string_api_Record_Put.call (some ⟨t, 0, none⟩) k v.1.toArray Q) := fun w hw =>
  btree_Tree_string_api_Record_Put_ok _ _ _ _ _ (show tput btS (some ⟨t, 0, none⟩) k v.1.toArray Q w from hg hw (tput_spec btS_ok hL h))
end
end Go.Proofs.YtinpgiafjjibnaaGreat
/- Plain forms of functions, and that their code comes to them (package lib_bytes). -/
namespace Go.Proofs.YtinpgiafjjibnaaGreat
open Go Go.Sep
set_option linter.unusedVariables false
set_option linter.unusedSimpArgs false
set_option maxRecDepth 100000
set_option maxHeartbeats 4000000
attribute [local irreducible] G Gp Cx Tx Ex Sx Dx Ox Ax Lx Rx Fx Bx Bj Al Do Ld LdN St StN New CallF Ar DoU Rd Rd2 Pu Cd Ite Fv CallV CallY Ans0 Ans1 Ans2 Ans3 Ans4 Ans5 Ext Dead Dr WithS Sv LdS LdNS RdS Rd2S Nn Idx IdxA IdxS Fld Bld Slc SlcS Cat All LoopK RangeF RangeJ TakeD
namespace F_IRLibBytes
instance mx : MX Tryz.prog := ⟨mixed⟩
instance sl_52 : SLT Tryz.prog 52 5 1 := ⟨by kernel_rfl⟩
instance un_52 : UN Tryz.prog 52 (.slice 5) := ⟨Tryz.underlying52⟩
instance zt_5 : ZT Tryz.prog 5 (.int .u8 0) := ⟨Tryz.t5, by kernel_rfl, by kernel_rfl⟩
end F_IRLibBytes
def bytes_Clone (b0 : Sl) (Q : Sl → K) : K :=
  Ite ((b0).a.isNone)
    (Q (Sl.mk none 0 0))
    (New 5 #[] fun t5 =>
    Do Tryz.prog (Builtin.append_ #[52, 52] 52 #[(Sl.val (Sl.mk (some t5) 0 0)), (Sl.val b0)]) Sl.val fun t7 =>
    Q t7)
theorem bytes_Clone_ok (b0 : Sl) (Q : Sl → K) (w : World) (h : bytes_Clone b0 Q w) : bytes_Clone.call b0 Q w := by
  exact g_walk 8 h Tryz.func31
def bytes_Equal (a0 : Sl) (b1 : Sl) (Q : Bool → K) : K :=
  Rd Tryz.prog (convert 52 9 (Sl.val a0)) Value.string fun t6 =>
  Rd Tryz.prog (convert 52 9 (Sl.val b1)) Value.string fun t8 =>
  Q (t6.toList == t8.toList)
theorem bytes_Equal_ok (a0 : Sl) (b1 : Sl) (Q : Bool → K) (w : World) (h : bytes_Equal a0 b1 Q w) : bytes_Equal.call a0 b1 Q w := by
  exact g_walk 10 h Tryz.func47
end Go.Proofs.YtinpgiafjjibnaaGreat
/- bytes.Clone gives the same bytes in memory of one's own. -/
namespace Go.Proofs.YtinpgiafjjibnaaGreat
open Go Go.Sep
set_option linter.unusedSimpArgs false
set_option linter.unusedVariables false
section
variable {B w : World} {Γ : List HProp}
theorem bytes_Clone_spec {b : Sl} {xs : List UInt8} {k : Sl → K} (h : Holds B Γ w) (hr : ∀ w, Holds B Γ w → RdB w b xs) (hl : xs.length ≤ 1000000000)
    (hk : ∀ s w, Holds B (Bytes ty_uint8 s xs :: Γ) w → s.a.isNone = b.a.isNone → k s w) : bytes_Clone.call b k w := by
  refine bytes_Clone_ok _ _ _ ?_
  unfold bytes_Clone
  refine r_ite (fun hb => ?_) (fun hb => ?_)
  · have hx : xs = [] := by
      have h1 := (hr w h).nil (by simpa using hb)
      have h2 := (hr w h).len
      rw [h1] at h2; simpa using h2
    subst hx
    exact hk _ _ (h.nilSl _ _) (by rw [hb]; rfl)
  · refine r_new h ?_
    clear h
    intro t w h
    try simp only [add_mk, Nat.zero_add, Nat.reduceAdd]
    have hn : b.n = xs.length := by have h2 := (hr w h.tail).len; simpa using h2.symm
    refine r_append (vs := []) (h.imp (blk_SlC rfl rfl)) (by kernel_rfl) (by kernel_rfl) (by' := 1) (by kernel_rfl) zero_ty_uint8 rfl (hr w h.tail) (byteV_flat _) (by simp only [hn]; omega) (by decide) fun s w h hs ha => ?_
    refine hk s w h ?_
    rw [hb]
    have := ha rfl
    cases hh : s.a <;> simp [hh] at this ⊢
end
end Go.Proofs.YtinpgiafjjibnaaGreat
/- Plain forms of functions, and that their code comes to them (package store). -/
namespace Go.Proofs.YtinpgiafjjibnaaGreat
open Go Go.Sep
set_option linter.unusedVariables false
set_option linter.unusedSimpArgs false
set_option maxRecDepth 100000
set_option maxHeartbeats 4000000
attribute [local irreducible] G Gp Cx Tx Ex Sx Dx Ox Ax Lx Rx Fx Bx Bj Al Do Ld LdN St StN New CallF Ar DoU Rd Rd2 Pu Cd Ite Fv CallV CallY Ans0 Ans1 Ans2 Ans3 Ans4 Ans5 Ext Dead Dr WithS Sv LdS LdNS RdS Rd2S Nn Idx IdxA IdxS Fld Bld Slc SlcS Cat All LoopK RangeF RangeJ TakeD
namespace F_IRStore
instance at_57 : AT Tryz.prog 57 4 := ⟨by kernel_rfl⟩
instance cb_30 : CB Tryz.prog 30 := ⟨by kernel_rfl⟩
instance cb_31 : CB Tryz.prog 31 := ⟨by kernel_rfl⟩
instance cb_40 : CB Tryz.prog 40 := ⟨by kernel_rfl⟩
instance cb_43 : CB Tryz.prog 43 := ⟨by kernel_rfl⟩
instance cb_44 : CB Tryz.prog 44 := ⟨by kernel_rfl⟩
instance cb_59 : CB Tryz.prog 59 := ⟨by kernel_rfl⟩
instance cb_60 : CB Tryz.prog 60 := ⟨by kernel_rfl⟩
instance cb_61 : CB Tryz.prog 61 := ⟨by kernel_rfl⟩
instance cb_62 : CB Tryz.prog 62 := ⟨by kernel_rfl⟩
instance ct_3 : CT Tryz.prog 3 := ⟨by kernel_rfl⟩
instance ct_39 : CT Tryz.prog 39 := ⟨by kernel_rfl⟩
instance ct_4 : CT Tryz.prog 4 := ⟨by kernel_rfl⟩
instance ct_52 : CT Tryz.prog 52 := ⟨by kernel_rfl⟩
instance ct_55 : CT Tryz.prog 55 := ⟨by kernel_rfl⟩
instance ct_86 : CT Tryz.prog 86 := ⟨by kernel_rfl⟩
instance ft_57_0 : FT Tryz.prog 57 0 0 1 := ⟨by kernel_rfl⟩
instance ft_57_1 : FT Tryz.prog 57 1 1 1 := ⟨by kernel_rfl⟩
instance ft_57_2 : FT Tryz.prog 57 2 2 1 := ⟨by kernel_rfl⟩
instance ft_57_3 : FT Tryz.prog 57 3 3 1 := ⟨by kernel_rfl⟩
instance ft_88_0 : FT Tryz.prog 88 0 0 1 := ⟨by kernel_rfl⟩
instance ft_88_1 : FT Tryz.prog 88 1 1 1 := ⟨by kernel_rfl⟩
instance in_3 : INT Tryz.prog 3 .i64 := ⟨by kernel_rfl⟩
instance in_5 : INT Tryz.prog 5 .u8 := ⟨by kernel_rfl⟩
instance mx : MX Tryz.prog := ⟨mixed⟩
instance pl_59 : PLT Tryz.prog 59 [(0, 1), (1, 4)] := ⟨_, Tryz.underlying59, by kernel_rfl⟩
instance pl_88 : PLT Tryz.prog 88 [(0, 1), (1, 1)] := ⟨_, Tryz.underlying88, by kernel_rfl⟩
instance sl_39 : SLT Tryz.prog 39 59 5 := ⟨by kernel_rfl⟩
instance st_9 : STT Tryz.prog 9 := ⟨by kernel_rfl⟩
instance sz_3 : SZ Tryz.prog 3 1 := ⟨by kernel_rfl⟩
instance sz_39 : SZ Tryz.prog 39 1 := ⟨by kernel_rfl⟩
instance sz_4 : SZ Tryz.prog 4 1 := ⟨by kernel_rfl⟩
instance sz_52 : SZ Tryz.prog 52 1 := ⟨by kernel_rfl⟩
instance sz_55 : SZ Tryz.prog 55 1 := ⟨by kernel_rfl⟩
instance sz_57 : SZ Tryz.prog 57 4 := ⟨by kernel_rfl⟩
instance zt_39 : ZT Tryz.prog 39 (Sl.val ⟨none, 0, 0⟩) := ⟨Tryz.t39, by kernel_rfl, by kernel_rfl⟩
instance zt_57 : ZT Tryz.prog 57 (.agg #[(.bool false), (Sl.val ⟨none, 0, 0⟩), (.int .i64 0), (.int .u64 0)]) := ⟨Tryz.t57, by kernel_rfl, by kernel_rfl⟩
instance zt_59 : ZT Tryz.prog 59 (.agg #[(.string ⟨#[]⟩), (.bool false), (Sl.val ⟨none, 0, 0⟩), (.int .i64 0), (.int .u64 0)]) := ⟨Tryz.t59, by kernel_rfl, by kernel_rfl⟩
instance zt_88 : ZT Tryz.prog 88 (.agg #[(.int .i64 0), (.pointer none)]) := ⟨Tryz.t88, by kernel_rfl, by kernel_rfl⟩
end F_IRStore
def store_Store_Rows (s0 : (Option Addr)) (Q : Sl → K) : K :=
  New 39 #[(Sl.val ⟨none, 0, 0⟩)] fun out2 =>
  Nn s0 fun t6 =>
  Ld (t6.add 1) Value.pointer fun t8 =>
  btree_Tree_string_api_Record_All.call t8 fun t9 =>
  RangeJ Tryz.prog t9 .ret (fun x : ByteArray × (Array Value) => [(.string x.1), (.agg x.2)]) (fun BG1 KN1 KJ1 x =>
    New 57 #[(.bool false), (Sl.val ⟨none, 0, 0⟩), (.int .i64 0), (.int .u64 0)] fun r4 =>
    StN r4 4 x.2 <|
    BG1 <|
    Ld (r4.add 1) Sl.val fun t13 =>
    bytes_Clone.call t13 fun t14 =>
    St (r4.add 1) (Sl.val t14) <|
    Ld out2 Sl.val fun t16 =>
    LdN r4 4 fun t18 =>
    Bld #[(.string ⟨#[]⟩), (.bool false), (Sl.val ⟨none, 0, 0⟩), (.int .i64 0), (.int .u64 0)] ([(0, 1), (1, 4)][·]?) [(0, (.string x.1)), (1, (.agg t18))] fun t19 =>
    Bld #[(.string ⟨#[]⟩), (.bool false), (Sl.val ⟨none, 0, 0⟩), (.int .i64 0), (.int .u64 0)] (fun i => some (i * 5, 5)) [(0, (.agg t19))] fun ct20 =>
    New 59 ct20 fun t20 =>
    Do Tryz.prog (Builtin.append_ #[39, 39] 39 #[(Sl.val t16), (Sl.val (Sl.mk (some t20) 1 1))]) Sl.val fun t21 =>
    St out2 (Sl.val t21) <|
    KN1)
    (fun D1 =>
      Ld out2 Sl.val fun t22 =>
      St out2 (Sl.val t22) <|
      TakeD D1 <|
      Ld out2 Sl.val fun r0 =>
      Q r0)
    (fun D1 =>
      Dead)
theorem store_Store_Rows_ok (s0 : (Option Addr)) (Q : Sl → K) (w : World) (h : store_Store_Rows s0 Q w) : store_Store_Rows.call s0 Q w := by
  exact g_walk 23 h Tryz.func12
def store_New.s1 (Q : (Option Addr) → Int → K)  (regions0_1 : Int) (t9_1 : Bool) : K :=
  Ite t9_1
    (Q none 1)
    (btree_New_string_api_Record.call  fun t11 =>
    New 88 #[(.int .i64 regions0_1), (.pointer t11)] fun t13 =>
    Q (some t13) 0)
def store_New (regions0 : Int) (Q : (Option Addr) → Int → K) : K :=
  Ite (decide (regions0 < 1))
    (store_New.s1 Q regions0 true)
    (store_New.s1 Q regions0 (decide ((3 : Int) < regions0)))
theorem store_New_ok (regions0 : Int) (Q : (Option Addr) → Int → K) (w : World) (h : store_New regions0 Q w) : store_New.call regions0 Q w := by
  have hJ2 : JH 2 fun D => ∃ (regions0_1 : Int), D [(0, (.int .i64 regions0_1))] (fun C => ∀ (t9_1 : Bool), C [(0, (.int .i64 regions0_1)), (9, (.bool t9_1))] (store_New.s1 Q regions0_1 t9_1)) := by intros; exact ⟨fun _ ⟨_, h⟩ => ⟨_, _, h⟩⟩
  exact g_walk 14 h Tryz.func19
def store_Store_Put (s0 : (Option Addr)) (key1 : ByteArray) (value2 : Sl) (Q : K) : K :=
  store_Store_Get.call s0 key1 fun t9 =>
  New 57 #[(.bool false), (Sl.val ⟨none, 0, 0⟩), (.int .i64 0), (.int .u64 0)] fun r6 =>
  StN r6 4 t9 <|
  bytes_Clone.call value2 fun t11 =>
  St r6 (.bool true) <|
  St (r6.add 1) (Sl.val t11) <|
  LdN r6 4 fun t16 =>
  store_Store_set.call s0 key1 t16 <|
  Q
theorem store_Store_Put_ok (s0 : (Option Addr)) (key1 : ByteArray) (value2 : Sl) (Q : K) (w : World) (h : store_Store_Put s0 key1 value2 Q w) : store_Store_Put.call s0 key1 value2 Q w := by
  exact g_walk 18 h Tryz.func21
def store_Store_Move.s1 (Q : Int → K)  (s0_1 : (Option Addr)) (key1_1 : ByteArray) (home2_1 : Int) (r7_1 : Addr) (t11_1 : Bool) : K :=
  Ite t11_1
    (Q 1)
    (Ld (r7_1.add 3) (Value.int .u64) fun t24 =>
    Ite (decide (t24 = 18446744073709551615))
      (Q 111)
      (St (r7_1.add 2) (.int .i64 home2_1) <|
      Ld (r7_1.add 3) (Value.int .u64) fun t29 =>
      Ar (IntKind.wrap .u64 (t29 + 1)) fun t30 =>
      St (r7_1.add 3) (.int .u64 t30) <|
      LdN r7_1 4 fun t34 =>
      store_Store_set.call s0_1 key1_1 t34 <|
      Q 0))
def store_Store_Move (s0 : (Option Addr)) (key1 : ByteArray) (home2 : Int) (Q : Int → K) : K :=
  store_Store_Get.call s0 key1 fun t10 =>
  New 57 #[(.bool false), (Sl.val ⟨none, 0, 0⟩), (.int .i64 0), (.int .u64 0)] fun r7 =>
  StN r7 4 t10 <|
  Ite (decide (home2 < 0))
    (store_Store_Move.s1 Q s0 key1 home2 r7 true)
    (Nn s0 fun t17 =>
    Ld t17 (Value.int .i64) fun t19 =>
    store_Store_Move.s1 Q (some t17) key1 home2 r7 (decide (t19 ≤ home2)))
theorem store_Store_Move_ok (s0 : (Option Addr)) (key1 : ByteArray) (home2 : Int) (Q : Int → K) (w : World) (h : store_Store_Move s0 key1 home2 Q w) : store_Store_Move.call s0 key1 home2 Q w := by
  have hJ3 : JH 3 fun D => ∃ (s0_1 : (Option Addr)) (key1_1 : ByteArray) (home2_1 : Int) (r7_1 : Addr), D [(0, (.pointer s0_1)), (1, (.string key1_1)), (2, (.int .i64 home2_1)), (7, (.pointer (some r7_1)))] (fun C => ∀ (t11_1 : Bool), C [(0, (.pointer s0_1)), (1, (.string key1_1)), (2, (.int .i64 home2_1)), (7, (.pointer (some r7_1))), (11, (.bool t11_1))] (store_Store_Move.s1 Q s0_1 key1_1 home2_1 r7_1 t11_1)) := by intros; exact ⟨fun _ ⟨_, _, _, _, h⟩ => ⟨_, _, h⟩⟩
  exact g_walk 36 h Tryz.func23
def store_Store_Get.s1 (Q : (Array Value) → K)  (t4_1 : Addr) (r5_1 : Addr) : K :=
  Ld (r5_1.add 1) Sl.val fun t26 =>
  bytes_Clone.call t26 fun t27 =>
  St (r5_1.add 1) (Sl.val t27) <|
  LdN r5_1 4 fun t29 =>
  StN t4_1 4 t29 <|
  LdN t4_1 4 fun r0 =>
  Q r0
def store_Store_Get (s0 : (Option Addr)) (key1 : ByteArray) (Q : (Array Value) → K) : K :=
  New 57 #[(.bool false), (Sl.val ⟨none, 0, 0⟩), (.int .i64 0), (.int .u64 0)] fun t4 =>
  Nn s0 fun t9 =>
  Ld (t9.add 1) Value.pointer fun t11 =>
  btree_Tree_string_api_Record_Get.call t11 key1 fun t13x0 t13x1 =>
  New 57 #[(.bool false), (Sl.val ⟨none, 0, 0⟩), (.int .i64 0), (.int .u64 0)] fun r5 =>
  StN r5 4 t13x0 <|
  Ite (!t13x1)
    (Ld t9 (Value.int .i64) fun t22 =>
    store_Default.call key1 t22 fun t23 =>
    St (r5.add 2) (.int .i64 t23) <|
    store_Store_Get.s1 Q t4 r5)
    (store_Store_Get.s1 Q t4 r5)
theorem store_Store_Get_ok (s0 : (Option Addr)) (key1 : ByteArray) (Q : (Array Value) → K) (w : World) (h : store_Store_Get s0 key1 Q w) : store_Store_Get.call s0 key1 Q w := by
  have hJ4 : JH 4 fun D => ∃ (t4_1 : Addr) (r5_1 : Addr), D [(4, (.pointer (some t4_1))), (5, (.pointer (some r5_1)))] (fun C => C [(4, (.pointer (some t4_1))), (5, (.pointer (some r5_1)))] (store_Store_Get.s1 Q t4_1 r5_1)) := by intros; exact ⟨fun _ ⟨_, _, h⟩ => ⟨_, _, h⟩⟩
  exact g_walk 30 h Tryz.func40
def store_Store_Delete (s0 : (Option Addr)) (key1 : ByteArray) (Q : K) : K :=
  store_Store_Get.call s0 key1 fun t7 =>
  New 57 #[(.bool false), (Sl.val ⟨none, 0, 0⟩), (.int .i64 0), (.int .u64 0)] fun r4 =>
  StN r4 4 t7 <|
  St r4 (.bool false) <|
  St (r4.add 1) (Sl.val (Sl.mk none 0 0)) <|
  LdN r4 4 fun t12 =>
  store_Store_set.call s0 key1 t12 <|
  Q
theorem store_Store_Delete_ok (s0 : (Option Addr)) (key1 : ByteArray) (Q : K) (w : World) (h : store_Store_Delete s0 key1 Q w) : store_Store_Delete.call s0 key1 Q w := by
  exact g_walk 14 h Tryz.func41
def store_Store_set.s1 (Q : K)  (s0_1 : (Option Addr)) (key1_1 : ByteArray) (r5_1 : Addr) (t13_1 : Bool) : K :=
  Ite t13_1
    (Nn s0_1 fun t15 =>
    Ld (t15.add 1) Value.pointer fun t17 =>
    btree_Tree_string_api_Record_Delete.call t17 key1_1 fun t19x0 t19x1 =>
    Q)
    (Dr <|
    Nn s0_1 fun t21 =>
    Ld (t21.add 1) Value.pointer fun t23 =>
    LdN r5_1 4 fun t25 =>
    btree_Tree_string_api_Record_Put.call t23 key1_1 t25 fun t26x0 t26x1 =>
    Q)
def store_Store_set (s0 : (Option Addr)) (key1 : ByteArray) (r2 : (Array Value)) (Q : K) : K :=
  New 57 r2 fun r5 =>
  Ld r5 Value.bool fun t7 =>
  Ite (!t7)
    (Ld (r5.add 3) (Value.int .u64) fun t11 =>
    store_Store_set.s1 Q s0 key1 r5 (decide (t11 = 0)))
    (store_Store_set.s1 Q s0 key1 r5 false)
theorem store_Store_set_ok (s0 : (Option Addr)) (key1 : ByteArray) (r2 : (Array Value)) (Q : K) (w : World) (h : store_Store_set s0 key1 r2 Q w) : store_Store_set.call s0 key1 r2 Q w := by
  have hD3 : DH 3 1 [6] (.s [0, 1, 2, 4, 3, 5] (.a [(6, 0, .e)])) := by intros; exact ⟨⟩
  have hJ2 : JH 2 fun D => ∃ (s0_1 : (Option Addr)) (key1_1 : ByteArray) (r5_1 : Addr), D [(0, (.pointer s0_1)), (1, (.string key1_1)), (5, (.pointer (some r5_1)))] (fun C => ∀ (t13_1 : Bool), C [(0, (.pointer s0_1)), (1, (.string key1_1)), (5, (.pointer (some r5_1))), (13, (.bool t13_1))] (store_Store_set.s1 Q s0_1 key1_1 r5_1 t13_1)) := by intros; exact ⟨fun _ ⟨_, _, _, h⟩ => ⟨_, _, h⟩⟩
  exact g_walk 27 h Tryz.func44
def store_Default.b1 (Q : Int → K)  (X1 : Int → Int → K) (key0_1 : ByteArray) (regions1_1 : Int) (t10_1 : Int) (sum5_1 : Int) (t11_1 : Int) : K :=
  Ite (decide (t11_1 < t10_1))
    (IdxS key0_1 t11_1 fun t17 =>
    Ar (IntKind.wrap .i64 t17) fun t18 =>
    Ar (IntKind.wrap .i64 (sum5_1 + t18)) fun t19 =>
    Cd (regions1_1 ≠ 0) <|
    Ar (Int.tmod t19 regions1_1) fun t21 =>
    Ar (IntKind.wrap .i64 (t11_1 + 1)) fun t22 =>
    X1 t21 t22)
    (Q sum5_1)
def store_Default (key0 : ByteArray) (regions1 : Int) (Q : Int → K) : K :=
  Ite (decide (regions1 < 1))
    (Q 0)
    (LoopK (α := Int × Int) (fun X x => store_Default.b1 Q (fun sum5_1 t11_1 => X (sum5_1, t11_1)) key0 regions1 (key0.size : Int) x.1 x.2) (0, 0))
theorem store_Default_ok (key0 : ByteArray) (regions1 : Int) (Q : Int → K) (w : World) (h : store_Default key0 regions1 Q w) : store_Default.call key0 regions1 Q w := by
  have hL5 : ∀ (key0_1 : ByteArray) (regions1_1 : Int) (t10_1 : Int), LH 5 (fun x : Int × Int => [(0, (.string key0_1)), (1, (.int .i64 regions1_1)), (5, (.int .i64 x.1)), (10, (.int .i64 t10_1)), (11, (.int .i64 x.2))]) (fun X x => store_Default.b1 Q (fun sum5_1 t11_1 => X (sum5_1, t11_1)) key0_1 regions1_1 t10_1 x.1 x.2) := by intros; exact ⟨⟩
  exact g_walk 24 h Tryz.func60
end Go.Proofs.YtinpgiafjjibnaaGreat
/- The store: its records; New, Get. -/
namespace Go.Proofs.YtinpgiafjjibnaaGreat
open Go Go.Sep Go.Sep.Bt
set_option linter.unusedSimpArgs false
set_option linter.unusedVariables false
set_option maxRecDepth 100000

structure Rec where
  has : Bool
  val : List UInt8
  home : Int
  cnt : Int
def Rec.ok (r : Rec) : Prop := 0 ≤ r.cnt ∧ r.cnt ≤ 18446744073709551615 ∧ r.val.length ≤ 1000000000
abbrev recL (r : Rec) (s : Sl) : List Value := [.bool r.has, s.val, .int .i64 r.home, .int .u64 r.cnt]
abbrev recA (r : Rec) (s : Sl) : Array Value := #[.bool r.has, s.val, .int .i64 r.home, .int .u64 r.cnt]
abbrev recC (x : Rec × Sl) : Cel 4 := ⟨recL x.1 x.2, rfl, rfl⟩
abbrev Recs := List (ByteArray × Rec)
abbrev RecX := ByteArray × (Rec × Sl)
abbrev recB (x : RecX) : HProp := Bytes ty_uint8 x.2.2 x.2.1.val
abbrev recI (x : RecX) : btS.It := (x.1, recC x.2)
abbrev recM (x : RecX) : ByteArray × Rec := (x.1, x.2.1)
/-- The first home of a key. -/
def homeOf (k : List UInt8) (n : Nat) : Nat := k.foldl (fun s b => (s + b.toNat) % n) 0
def getM (M : Recs) (k : ByteArray) : Option Rec := (M.find? fun x => decide (x.1 = k)).map Prod.snd
def putM (M : Recs) (k : ByteArray) (r : Rec) : Recs := match M with
  | [] => [(k, r)]
  | x :: M => if cmpS x.1 k < 0 then x :: putM M k r else if x.1 = k then (k, r) :: M else (k, r) :: x :: M
def sGet (n : Nat) (M : Recs) (k : ByteArray) : Rec := (getM M k).getD ⟨false, [], homeOf k.toList n, 0⟩
def sMove (n : Nat) (M : Recs) (k : ByteArray) (h : Int) : Recs × Int :=
  if h < 0 ∨ (n : Int) ≤ h then (M, 1) else if (sGet n M k).cnt = 18446744073709551615 then (M, 111) else (putM M k { sGet n M k with home := h, cnt := (sGet n M k).cnt + 1 }, 0)
theorem getM_put (M : Recs) (k k' : ByteArray) (r : Rec) : getM (putM M k r) k' = if k' = k then some r else getM M k' := by
  induction M with
  | nil => by_cases h : k' = k <;> simp [putM, getM, h, eq_comm]
  | cons x M ih =>
    unfold putM
    split
    · rename_i h
      have hx : x.1 ≠ k := fun e => by rw [e] at h; have := cmpS_neg.1 h; exact List.lt_irrefl _ this
      by_cases h2 : k' = k
      · subst h2
        have := ih
        simp only [getM, List.find?_cons, if_true] at this ⊢
        rw [show decide (x.1 = k') = false by simpa using hx]
        simpa using this
      · simp only [if_neg h2] at ih ⊢
        by_cases h3 : x.1 = k'
        · simp [getM, List.find?_cons, h3]
        · simp only [getM, List.find?_cons, show decide (x.1 = k') = false by simpa using h3]
          simpa [getM] using ih
    · split
      · rename_i h h1
        by_cases h2 : k' = k
        · subst h2; simp [getM]
        · simp [getM, List.find?_cons, h2, Ne.symm h2, h1]
      · rename_i h h1
        by_cases h2 : k' = k
        · subst h2; simp [getM]
        · simp [getM, List.find?_cons, h2, Ne.symm h2]
theorem putM_len (M : Recs) (k : ByteArray) (r : Rec) : (putM M k r).length ≤ M.length + 1 := by
  induction M with
  | nil => simp [putM]
  | cons x M ih =>
    unfold putM
    split
    · simp; omega
    · split <;> simp
theorem putM_mem {M : Recs} {k : ByteArray} {r : Rec} {x : ByteArray × Rec} (h : x ∈ putM M k r) : x = (k, r) ∨ x ∈ M := by
  induction M with
  | nil => simpa [putM] using h
  | cons y M ih =>
    unfold putM at h
    split at h
    · rcases List.mem_cons.1 h with rfl | h
      · exact .inr List.mem_cons_self
      · rcases ih h with h | h
        · exact .inl h
        · exact .inr (List.mem_cons_of_mem _ h)
    · split at h
      · rcases List.mem_cons.1 h with rfl | h
        · exact .inl rfl
        · exact .inr (List.mem_cons_of_mem _ h)
      · rcases List.mem_cons.1 h with rfl | h
        · exact .inl rfl
        · exact .inr h
theorem sGet_put (n : Nat) (M : Recs) (k k' : ByteArray) (r : Rec) : sGet n (putM M k r) k' = if k' = k then r else sGet n M k' := by
  unfold sGet
  rw [getM_put]
  split <;> simp
theorem getM_mem {M : Recs} {k : ByteArray} {r : Rec} (h : getM M k = some r) : (k, r) ∈ M := by
  simp only [getM, Option.map_eq_some_iff] at h
  obtain ⟨x, hx, rfl⟩ := h
  have h1 := List.mem_of_find?_eq_some hx
  have h2 := List.find?_some hx
  simp only [decide_eq_true_eq] at h2
  rw [← h2]; exact h1
theorem getM_mid {A C : Recs} {k : ByteArray} {r : Rec} (hA : ∀ x ∈ A, x.1 ≠ k) : getM (A ++ (k, r) :: C) k = some r := by
  unfold getM
  rw [List.find?_append, List.find?_eq_none.2 (fun x hx => by simpa using hA x hx)]
  simp
theorem getM_none {M : Recs} {k : ByteArray} (h : ∀ x ∈ M, x.1 ≠ k) : getM M k = none := by
  unfold getM
  rw [List.find?_eq_none.2 (fun x hx => by simpa using h x hx)]; rfl
theorem putM_mid {A C : Recs} {k : ByteArray} {r0 r : Rec} (hA : ∀ x ∈ A, cmpS x.1 k < 0) : putM (A ++ (k, r0) :: C) k r = A ++ (k, r) :: C := by
  induction A with
  | nil =>
    have : ¬ cmpS k k < 0 := fun h => List.lt_irrefl _ (cmpS_neg.1 h)
    simp [putM, this]
  | cons x A ih =>
    rw [List.cons_append, putM, if_pos (hA x List.mem_cons_self), ih (fun y hy => hA y (List.mem_cons_of_mem _ hy))]; rfl
theorem putM_new {A C : Recs} {k : ByteArray} {r : Rec} (hA : ∀ x ∈ A, cmpS x.1 k < 0) (hC : ∀ x ∈ C, cmpS k x.1 < 0) : putM (A ++ C) k r = A ++ (k, r) :: C := by
  induction A with
  | nil =>
    cases C with
    | nil => rfl
    | cons y C =>
      have h := cmpS_neg.1 (hC y List.mem_cons_self)
      have h1 : ¬ cmpS y.1 k < 0 := fun h2 => List.lt_irrefl _ (List.lt_trans h (cmpS_neg.1 h2))
      have h2 : ¬ y.1 = k := fun e => by rw [e] at h; exact List.lt_irrefl _ h
      simp [putM, h1, h2]
  | cons x A ih =>
    rw [List.cons_append, putM, if_pos (hA x List.mem_cons_self), ih (fun y hy => hA y (List.mem_cons_of_mem _ hy))]; rfl

/-- A store of some regions. -/
def StoreR (st n : Nat) (M : Recs) : HProp := ex fun t => ex fun X : List RecX => Sep.stars [pur (M = X.map recM ∧ (∀ x ∈ M, x.2.ok) ∧ 1 ≤ n ∧ n ≤ 3), blk st (.cells [.int .i64 n, .pointer (some ⟨t, 0, none⟩)].toArray ty_store_Store (0, 0)), TreeR btS cmpS t (X.map recI), Sep.stars (X.map recB)]
section
variable {B : World} {Γ Δ : List HProp}
instance (priority := high) own_store {st n : Nat} {M : Recs} : Sep.Own st (StoreR st n M :: Γ) (StoreR st n M) Γ := ⟨.refl _⟩
theorem s_store {st n : Nat} {M : Recs} {k : K} (h : ∀ t (X : List RecX), M = X.map recM → (∀ x ∈ M, x.2.ok) → 1 ≤ n → n ≤ 3 → HG B (blk st (.cells [.int .i64 n, .pointer (some ⟨t, 0, none⟩)].toArray ty_store_Store (0, 0)) :: TreeR btS cmpS t (X.map recI) :: Sep.stars (X.map recB) :: Γ) k) : HG B (StoreR st n M :: Γ) k :=
  s_ex fun t => s_ex fun X => s_flat <| s_pur fun ⟨h1, h2, h3, h4⟩ => h t X h1 h2 h3 h4
theorem s_mkStore {st n t : Nat} {X : List RecX} {k : K} (h2 : ∀ x ∈ X.map recM, x.2.ok) (h3 : 1 ≤ n) (h4 : n ≤ 3) (h : HG B (StoreR st n (X.map recM) :: Γ) k) : HG B (blk st (.cells [.int .i64 n, .pointer (some ⟨t, 0, none⟩)].toArray ty_store_Store (0, 0)) :: TreeR btS cmpS t (X.map recI) :: Sep.stars (X.map recB) :: Γ) k := fun w hw => by
  refine h w ?_
  have h3 : Holds B (Sep.stars [pur (X.map recM = X.map recM ∧ (∀ x ∈ X.map recM, x.2.ok) ∧ 1 ≤ n ∧ n ≤ 3), blk st (.cells [.int .i64 n, .pointer (some ⟨t, 0, none⟩)].toArray ty_store_Store (0, 0)), TreeR btS cmpS t (X.map recI), Sep.stars (X.map recB)] :: Γ) w := Holds.flat.2 (Holds.pur.2 ⟨⟨rfl, h2, h3, h4⟩, hw⟩)
  exact h3.imp fun g hg => ⟨t, X, hg⟩

theorem Default_spec {k : ByteArray} {n : Nat} {q : Int → K} (h1 : 1 ≤ n) (hn : n ≤ 1000) (hk : k.size < 1000000000000) (h : HG B Γ (q (homeOf k.toList n : Nat))) : HG B Γ (store_Default.call k n q) := fun w hw => by
  refine store_Default_ok _ _ _ _ ?_
  refine hg hw ?_
  clear hw w
  unfold store_Default
  refine s_f ?_
  obtain ⟨l, rfl⟩ := bs_of k
  rw [bs_list] at h
  have hsz : (bs l).size = l.length := rfl
  refine s_loopC (fun x : Int × Int => ∃ i s : Nat, x = ((s : Int), (i : Int)) ∧ i ≤ l.length ∧ s = homeOf (l.take i) n ∧ s < n) (fun x => l.length - x.2.toNat) ⟨0, 0, rfl, Nat.zero_le _, rfl, by omega⟩ fun k' x hx hk' => ?_
  obtain ⟨i, s, rfl, hi, hs, hsn⟩ := hx
  unfold store_Default.b1
  dsimp only
  refine s_ite (fun hb => ?_) fun hb => ?_
  · have hil : i < l.length := by simp only [decide_eq_true_eq] at hb; omega
    refine fun w hw => ⟨(l[i].toNat : Int), l[i], by omega, ?_, rfl, hg hw ?_⟩
    · show (bs l)[((i : Nat) : Int).toNat]? = _
      rw [Int.toNat_natCast]
      exact Array.getElem?_eq_getElem (xs := l.toArray) (by simpa using hil)
    have hb8 : l[i].toNat < 256 := l[i].toNat_lt
    refine s_ai ?_
    refine s_ai ?_
    refine s_cd (by omega) ?_
    refine s_ar (e' := (((s + l[i].toNat) % n : Nat) : Int)) ?_ ?_
    · rw [Int.tmod_eq_emod_of_nonneg (by omega)]; simp
    refine s_ai ?_
    refine hk' _ ⟨i + 1, (s + l[i].toNat) % n, by simp, hil, ?_, Nat.mod_lt _ (by omega)⟩ (by simp only; omega)
    rw [hs, List.take_succ_eq_append_getElem hil, homeOf, homeOf, List.foldl_append]; rfl
  · have hil : i = l.length := by simp only [decide_eq_false_iff_not] at hb; omega
    rw [hil, List.take_length] at hs
    rw [hs]
    exact h

theorem bytesClone_hg {b : Sl} {xs : List UInt8} {q : Sl → K} (hr : ∀ w, Holds B Γ w → RdB w b xs) (hl : xs.length ≤ 1000000000) (hk : ∀ s, s.a.isNone = b.a.isNone → HG B (Bytes ty_uint8 s xs :: Γ) (q s)) : HG B Γ (bytes_Clone.call b q) := fun w hw =>
  bytes_Clone_spec hw hr hl fun s w h hs => hk s hs w h
theorem storeNew_spec {n : Nat} {q : Option Addr → Int → K} (h1 : 1 ≤ n) (h3 : n ≤ 3) (h : ∀ st, HG B (StoreR st n [] :: Γ) (q (some ⟨st, 0, none⟩) 0)) : HG B Γ (store_New.call n q) := fun w hw => by
  refine store_New_ok _ _ _ ?_
  refine hg hw ?_
  clear hw w
  unfold store_New
  refine s_f ?_
  unfold store_New.s1
  refine s_f ?_
  refine btNew_spec fun t => ?_
  show HG B (TreeR btS cmpS t (([] : List RecX).map recI) :: Γ) _
  refine s_new fun st => ?_
  refine fun w hw => ?_
  refine hg (show Holds B (Sep.stars (([] : List RecX).map recB) :: _) w from Holds.flat.2 hw) ?_
  refine s_end (Δ := blk st (.cells [.int .i64 n, .pointer (some ⟨t, 0, none⟩)].toArray ty_store_Store (0, 0)) :: TreeR btS cmpS t (([] : List RecX).map recI) :: Sep.stars (([] : List RecX).map recB) :: Γ) ?_
  exact s_mkStore (by simp) h1 h3 (h st)

theorem split_rec {X : List RecX} {A C : List btS.It} {k : ByteArray} {v : Cel btS.nv} (e : X.map recI = A ++ ((k, v) : btS.It) :: C) : ∃ XA r XC, X = XA ++ (k, r) :: XC ∧ A = XA.map recI ∧ C = XC.map recI ∧ v = recC r := by
  obtain ⟨XA, X2, rfl, rfl, h2⟩ := List.map_eq_append_iff.1 e
  obtain ⟨⟨k', r⟩, XC, rfl, h3, rfl⟩ := List.map_eq_cons_iff.1 h2
  simp only [recI, Prod.mk.injEq] at h3
  obtain ⟨rfl, rfl⟩ := h3
  exact ⟨XA, r, XC, rfl, rfl, rfl, rfl⟩
theorem split_app {X : List RecX} {A C : List btS.It} (e : X.map recI = A ++ C) : ∃ XA XC, X = XA ++ XC ∧ A = XA.map recI ∧ C = XC.map recI := by
  obtain ⟨XA, X2, rfl, rfl, rfl⟩ := List.map_eq_append_iff.1 e
  exact ⟨XA, X2, rfl, rfl, rfl⟩
theorem lt_of_srt {X Y : List RecX} {k : ByteArray} {r : Rec × Sl} (h : Srt cmpS ((X ++ (k, r) :: Y).map recI)) : ∀ x ∈ X, cmpS x.1 k < 0 := fun x hx => by
  rw [List.map_append] at h
  exact (List.pairwise_append.1 h).2.2 (recI x) (List.mem_map.2 ⟨x, hx, rfl⟩) (recI (k, r)) (by simp)
theorem ne_of_lt {a b : ByteArray} (h : cmpS a b < 0) : a ≠ b := fun e => by rw [e] at h; exact List.lt_irrefl _ (cmpS_neg.1 h)

theorem sGet1 {t4 r5 : Nat} {r : Rec} {s : Sl} {z : List Value} {q : Array Value → K} (hz : z.length = 4) (hzf : z.all flatV = true) (hr : ∀ w, Holds B Γ w → RdB w s r.val) (hl : r.val.length ≤ 1000000000) (h : ∀ s', s'.a.isNone = s.a.isNone → HG B (Bytes ty_uint8 s' r.val :: Γ) (q (recA r s'))) :
    HG B (blk r5 (.cells (recL r s).toArray ty_api_Record (0, 0)) :: blk t4 (.cells z.toArray ty_api_Record (0, 0)) :: Γ) (store_Store_Get.s1 q ⟨t4, 0, none⟩ ⟨r5, 0, none⟩) := by
  unfold store_Store_Get.s1
  refine s_ld (b := r5) (x := s) ?_
  refine bytesClone_hg (fun w hw => hr w hw.tail.tail) hl fun s' hs' => ?_
  refine s_st (b := r5) ?_
  refine s_ldN (b := r5) ?_
  refine s_stN (b := t4) ?_ hz rfl rfl
  refine s_ldN (b := t4) ?_
  exact s_end (h s' hs')
/-- Get. -/
theorem storeGet_spec {st n : Nat} {M : Recs} {k : ByteArray} {q : Array Value → K} (hk : k.size < 1000000000000) (h : ∀ s, (sGet n M k).ok → HG B (Bytes ty_uint8 s (sGet n M k).val :: StoreR st n M :: Γ) (q (recA (sGet n M k) s))) : HG B (StoreR st n M :: Γ) (store_Store_Get.call (some ⟨st, 0, none⟩) k q) := fun w hw => by
  refine store_Store_Get_ok _ _ _ _ ?_
  refine hg hw ?_
  clear hw w
  refine s_store fun t X hM hok h1 h3 => ?_
  unfold store_Store_Get
  refine s_new fun t4 => ?_
  refine s_nn ?_
  refine s_ld (b := st) (x := some ⟨t, 0, none⟩) ?_
  refine s_own t ?_
  refine tree_srt fun hs => ?_
  refine btGet_spec (fun A v C e => ?_) fun A C e hA hC => ?_
  · obtain ⟨XA, r, XC, rfl, rfl, rfl, rfl⟩ := split_rec e
    have hlt := lt_of_srt hs
    have hg' : getM M k = some r.1 := by
      rw [hM, List.map_append]
      exact getM_mid fun x hx => by
        obtain ⟨y, hy, rfl⟩ := List.mem_map.1 hx
        exact ne_of_lt (hlt y hy)
    have hr : sGet n M k = r.1 := by unfold sGet; rw [hg']; rfl
    have hrok : r.1.ok := hok (k, r.1) (getM_mem hg')
    rw [hr] at h
    refine s_new fun r5 => ?_
    refine s_stN (b := r5) (l' := recL r.1 r.2) ?_
    refine s_f ?_
    refine s_end (Δ := blk r5 (.cells (recL r.1 r.2).toArray ty_api_Record (0, 0)) :: blk t4 (.cells [.bool false, Sl.val ⟨none, 0, 0⟩, .int .i64 0, .int .u64 0].toArray ty_api_Record (0, 0)) :: blk st (.cells [.int .i64 n, .pointer (some ⟨t, 0, none⟩)].toArray ty_store_Store (0, 0)) :: TreeR btS cmpS t ((XA ++ (k, r) :: XC).map recI) :: Sep.stars ((XA ++ (k, r) :: XC).map recB) :: Γ) ?_
    refine sGet1 (r := r.1) rfl rfl (fun w hw => ?_) hrok.2.2 fun s' hs' => ?_
    · have h5 : Holds B (recB (k, r) :: _) w := (Holds.flat.1 (hw.tail.tail)).perm mid_perm |>.perm List.perm_middle
      exact h5.rdC List.mem_cons_self
    · rw [hM] at h
      refine s_end (Δ := blk st (.cells [.int .i64 n, .pointer (some ⟨t, 0, none⟩)].toArray ty_store_Store (0, 0)) :: TreeR btS cmpS t ((XA ++ (k, r) :: XC).map recI) :: Sep.stars ((XA ++ (k, r) :: XC).map recB) :: Bytes ty_uint8 s' r.1.val :: Γ) ?_
      refine s_mkStore (by rw [← hM]; exact hok) h1 h3 ?_
      exact s_end (h s' hrok)
  · obtain ⟨XA, XC, rfl, rfl, rfl⟩ := split_app e
    have hg' : getM M k = none := by
      rw [hM, List.map_append]
      refine getM_none fun x hx => ?_
      rcases List.mem_append.1 hx with hx | hx
      · obtain ⟨y, hy, rfl⟩ := List.mem_map.1 hx
        exact ne_of_lt (hA (recI y) (List.mem_map.2 ⟨y, hy, rfl⟩))
      · obtain ⟨y, hy, rfl⟩ := List.mem_map.1 hx
        exact Ne.symm (ne_of_lt (hC (recI y) (List.mem_map.2 ⟨y, hy, rfl⟩)))
    have hr : sGet n M k = ⟨false, [], homeOf k.toList n, 0⟩ := by unfold sGet; rw [hg']; rfl
    rw [hr] at h
    refine s_new fun r5 => ?_
    refine s_stN (b := r5) (l' := recL ⟨false, [], 0, 0⟩ ⟨none, 0, 0⟩) ?_
    refine s_t ?_
    refine s_ld (b := st) (x := (n : Int)) ?_
    refine Default_spec h1 (by omega) hk ?_
    refine s_st (b := r5) ?_
    refine s_end (Δ := blk r5 (.cells (recL ⟨false, [], homeOf k.toList n, 0⟩ ⟨none, 0, 0⟩).toArray ty_api_Record (0, 0)) :: blk t4 (.cells [.bool false, Sl.val ⟨none, 0, 0⟩, .int .i64 0, .int .u64 0].toArray ty_api_Record (0, 0)) :: blk st (.cells [.int .i64 n, .pointer (some ⟨t, 0, none⟩)].toArray ty_store_Store (0, 0)) :: TreeR btS cmpS t ((XA ++ XC).map recI) :: Sep.stars ((XA ++ XC).map recB) :: Γ) ?_
    refine sGet1 (r := ⟨false, [], homeOf k.toList n, 0⟩) rfl rfl (fun w hw => RdC.none') (by simp) fun s' hs' => ?_
    rw [hM] at h
    refine s_end (Δ := blk st (.cells [.int .i64 n, .pointer (some ⟨t, 0, none⟩)].toArray ty_store_Store (0, 0)) :: TreeR btS cmpS t ((XA ++ XC).map recI) :: Sep.stars ((XA ++ XC).map recB) :: Bytes ty_uint8 s' [] :: Γ) ?_
    refine s_mkStore (by rw [← hM]; exact hok) h1 h3 ?_
    exact s_end (h s' ⟨by simp, by simp, by simp⟩)

end
end Go.Proofs.YtinpgiafjjibnaaGreat
/- The store: what its functions do to its records. -/
namespace Go.Proofs.YtinpgiafjjibnaaGreat
open Go Go.Sep Go.Sep.Bt
set_option linter.unusedSimpArgs false
set_option linter.unusedVariables false
set_option maxRecDepth 100000
section
variable {B : World} {Γ Δ : List HProp}
theorem srt_M {X : List RecX} (h : Srt cmpS (X.map recI)) : Srt cmpS (X.map recM) := by
  unfold Srt at h ⊢
  rw [List.pairwise_map] at h ⊢
  exact h
/-- What a store is told of a key. -/
theorem storePut_hg {st t n : Nat} {X : List RecX} {k : ByteArray} {r : Rec} {s : Sl} {q : Array Value → Bool → K} (hok : ∀ x ∈ X.map recM, x.2.ok) (hr : r.ok) (h1 : 1 ≤ n) (h3 : n ≤ 3) (hL : X.length < 1000000000)
    (h : ∀ a b, HG B (StoreR st n (putM (X.map recM) k r) :: Γ) (q a b)) :
    HG B (blk st (.cells [.int .i64 n, .pointer (some ⟨t, 0, none⟩)].toArray ty_store_Store (0, 0)) :: TreeR btS cmpS t (X.map recI) :: Sep.stars (X.map recB) :: Bytes ty_uint8 s r.val :: Γ) (btree_Tree_string_api_Record_Put.call (some ⟨t, 0, none⟩) k (recA r s) q) := by
  refine s_own t ?_
  refine tree_srt fun hs => ?_
  refine btPut_spec (v := recC (r, s)) (by simpa using hL) fun L' old had hp => ?_
  have hput : ∀ x ∈ putM (X.map recM) k r, x.2.ok := fun x hx => by
    rcases putM_mem hx with rfl | hx
    · exact hr
    · exact hok x hx
  rcases hp with ⟨A, C, e, rfl, rfl⟩ | ⟨A, C, e, hA, hC, rfl, rfl, rfl⟩
  · obtain ⟨XA, r0, XC, rfl, rfl, rfl, rfl⟩ := split_rec e
    have hlt := lt_of_srt hs
    have e2 : putM ((XA ++ (k, r0) :: XC).map recM) k r = (XA ++ (k, (r, s)) :: XC).map recM := by
      rw [List.map_append, List.map_cons]
      rw [show recM (k, r0) = (k, r0.1) from rfl, putM_mid (fun x hx => by
        obtain ⟨y, hy, rfl⟩ := List.mem_map.1 hx
        exact hlt y hy)]
      simp
    rw [e2] at h hput
    refine s_pick (Sep.stars ((XA ++ (k, r0) :: XC).map recB)) ?_
    refine s_mid ?_
    have e3 : XA.map recI ++ ((k, recC (r, s)) : btS.It) :: XC.map recI = (XA ++ (k, (r, s)) :: XC).map recI := by simp
    refine s_end (Δ := recB (k, (r, s)) :: Sep.stars ((XA ++ XC).map recB) :: blk st (.cells [.int .i64 n, .pointer (some ⟨t, 0, none⟩)].toArray ty_store_Store (0, 0)) :: TreeR btS cmpS t (XA.map recI ++ ((k, recC (r, s)) : btS.It) :: XC.map recI) :: Γ) ?_
    refine s_unmid ?_
    rw [e3]
    refine s_end (Δ := blk st (.cells [.int .i64 n, .pointer (some ⟨t, 0, none⟩)].toArray ty_store_Store (0, 0)) :: TreeR btS cmpS t ((XA ++ (k, (r, s)) :: XC).map recI) :: Sep.stars ((XA ++ (k, (r, s)) :: XC).map recB) :: Γ) ?_
    exact s_mkStore hput h1 h3 (h _ _)
  · obtain ⟨XA, XC, rfl, rfl, rfl⟩ := split_app e
    have e2 : putM ((XA ++ XC).map recM) k r = (XA ++ (k, (r, s)) :: XC).map recM := by
      rw [List.map_append, putM_new (fun x hx => by
        obtain ⟨y, hy, rfl⟩ := List.mem_map.1 hx
        exact hA (recI y) (List.mem_map.2 ⟨y, hy, rfl⟩)) (fun x hx => by
        obtain ⟨y, hy, rfl⟩ := List.mem_map.1 hx
        exact hC (recI y) (List.mem_map.2 ⟨y, hy, rfl⟩))]
      simp
    rw [e2] at h hput
    have e3 : XA.map recI ++ ((k, recC (r, s)) : btS.It) :: XC.map recI = (XA ++ (k, (r, s)) :: XC).map recI := by simp
    refine s_end (Δ := recB (k, (r, s)) :: Sep.stars ((XA ++ XC).map recB) :: blk st (.cells [.int .i64 n, .pointer (some ⟨t, 0, none⟩)].toArray ty_store_Store (0, 0)) :: TreeR btS cmpS t (XA.map recI ++ ((k, recC (r, s)) : btS.It) :: XC.map recI) :: Γ) ?_
    refine s_unmid ?_
    rw [e3]
    refine s_end (Δ := blk st (.cells [.int .i64 n, .pointer (some ⟨t, 0, none⟩)].toArray ty_store_Store (0, 0)) :: TreeR btS cmpS t ((XA ++ (k, (r, s)) :: XC).map recI) :: Sep.stars ((XA ++ (k, (r, s)) :: XC).map recB) :: Γ) ?_
    exact s_mkStore hput h1 h3 (h _ _)
theorem storeSet_spec {st n : Nat} {M : Recs} {k : ByteArray} {r : Rec} {s : Sl} {q : K} (hr : r.ok) (hne : r.has = true ∨ r.cnt ≠ 0) (hL : M.length < 1000000000) (h : HG B (StoreR st n (putM M k r) :: Γ) q) : HG B (StoreR st n M :: Bytes ty_uint8 s r.val :: Γ) (store_Store_set.call (some ⟨st, 0, none⟩) k (recA r s) q) := fun w hw => by
  refine store_Store_set_ok _ _ _ _ _ ?_
  refine hg hw ?_
  clear hw w
  refine s_store fun t X hM hok h1 h3 => ?_
  subst hM
  unfold store_Store_set
  refine s_new fun r5 => ?_
  refine s_ld (b := r5) (x := r.has) ?_
  have key : HG B (blk r5 (.cells (recL r s).toArray ty_api_Record (0, 0)) :: blk st (.cells [.int .i64 n, .pointer (some ⟨t, 0, none⟩)].toArray ty_store_Store (0, 0)) :: TreeR btS cmpS t (X.map recI) :: Sep.stars (X.map recB) :: Bytes ty_uint8 s r.val :: Γ) (store_Store_set.s1 q (some ⟨st, 0, none⟩) k ⟨r5, 0, none⟩ false) := by
    unfold store_Store_set.s1
    refine s_f ?_
    refine s_dr ?_
    refine s_nn ?_
    refine s_ld (b := st) (x := some ⟨t, 0, none⟩) ?_
    refine s_ldN (b := r5) ?_
    refine s_end (Δ := blk st (.cells [.int .i64 n, .pointer (some ⟨t, 0, none⟩)].toArray ty_store_Store (0, 0)) :: TreeR btS cmpS t (X.map recI) :: Sep.stars (X.map recB) :: Bytes ty_uint8 s r.val :: Γ) ?_
    exact storePut_hg hok hr h1 h3 (by simpa using hL) fun _ _ => h
  refine s_ite (fun hb => ?_) fun hb => key
  refine s_ld (b := r5) (x := r.cnt) ?_
  have hc : r.cnt ≠ 0 := hne.resolve_left (by simpa using hb)
  rw [show decide (r.cnt = 0) = false by simpa using hc]
  exact key
/-- Move. -/
theorem storeMove_spec {st n : Nat} {M : Recs} {k : ByteArray} {to : Int} {q : Int → K} (hk : k.size < 1000000000000) (hL : M.length < 1000000000) (h : HG B (StoreR st n (sMove n M k to).1 :: Γ) (q (sMove n M k to).2)) : HG B (StoreR st n M :: Γ) (store_Store_Move.call (some ⟨st, 0, none⟩) k to q) := fun w hw => by
  refine store_Store_Move_ok _ _ _ _ _ ?_
  refine hg hw ?_
  clear hw w
  unfold store_Store_Move
  refine storeGet_spec hk fun s hok => ?_
  generalize hR : sGet n M k = r at *
  refine s_new fun r7 => ?_
  refine s_stN (b := r7) (l' := recL r s) ?_
  have bad : to < 0 ∨ (n : Int) ≤ to → ∀ s0, HG B (blk r7 (.cells (recL r s).toArray ty_api_Record (0, 0)) :: Bytes ty_uint8 s r.val :: StoreR st n M :: Γ) (store_Store_Move.s1 q s0 k to ⟨r7, 0, none⟩ true) := fun hb s0 => by
    unfold store_Store_Move.s1
    refine s_t ?_
    have e : sMove n M k to = (M, 1) := by unfold sMove; rw [if_pos hb]
    rw [e] at h
    exact s_end h
  refine s_ite (fun hb => bad (.inl (by simpa using hb)) _) fun hb => ?_
  refine s_nn ?_
  refine s_own st ?_
  refine s_store fun t X hM hok2 h1 h3 => ?_
  refine s_ld (b := st) (x := (n : Int)) ?_
  subst hM
  refine s_mkStore hok2 h1 h3 ?_
  refine s_end (Δ := blk r7 (.cells (recL r s).toArray ty_api_Record (0, 0)) :: Bytes ty_uint8 s r.val :: StoreR st n (X.map recM) :: Γ) ?_
  by_cases hb2 : (n : Int) ≤ to
  · rw [show decide ((n : Int) ≤ to) = true by simpa using hb2]
    exact bad (.inr hb2) _
  rw [show decide ((n : Int) ≤ to) = false by simpa using hb2]
  have hnb : ¬ (to < 0 ∨ (n : Int) ≤ to) := by
    simp only [decide_eq_false_iff_not] at hb
    omega
  unfold store_Store_Move.s1
  refine s_f ?_
  refine s_ld (b := r7) (x := r.cnt) ?_
  refine s_ite (fun hc => ?_) fun hc => ?_
  · have e : sMove n (X.map recM) k to = (X.map recM, 111) := by unfold sMove; rw [if_neg hnb, hR, if_pos (by simpa using hc)]
    rw [e] at h
    exact s_end h
  have hc' : r.cnt ≠ 18446744073709551615 := by simpa using hc
  obtain ⟨o1, o2, o3⟩ := hok
  refine s_st (b := r7) ?_
  refine s_ld (b := r7) (x := r.cnt) ?_
  refine s_ar (wrapU64 (by omega) (by omega)) ?_
  refine s_st (b := r7) ?_
  refine s_ldN (b := r7) (l' := recL { r with home := to, cnt := r.cnt + 1 } s) ?_
  refine s_end (Δ := StoreR st n (X.map recM) :: Bytes ty_uint8 s r.val :: Γ) ?_
  refine storeSet_spec (r := { r with home := to, cnt := r.cnt + 1 }) ⟨by simp only; omega, by simp only; omega, o3⟩ (.inr (by simp only; omega)) hL ?_
  have e : sMove n (X.map recM) k to = (putM (X.map recM) k { r with home := to, cnt := r.cnt + 1 }, 0) := by unfold sMove; rw [if_neg hnb, hR, if_neg hc']
  rw [e] at h
  exact h
end
end Go.Proofs.YtinpgiafjjibnaaGreat
/- A B-tree's node, leaf or not, in one view. Holds for every program. -/
namespace Go.Sep
open Go Go.RowKit
set_option linter.unusedSimpArgs false
set_option linter.unusedVariables false
namespace Bt
section
variable {κ : Type} {G : BtT κ} {c : κ → κ → Int} {B : World} {Γ Δ : List HProp}
/-- Items and kids in turn. -/
def wv : List G.It → List (Kid G) → List G.It
  | its, [] => its
  | [], q :: _ => q.2
  | x :: its, q :: ks => q.2 ++ x :: wv its ks
theorem wv_ps (q0 : Kid G) : ∀ (ps : List (G.It × Kid G)), wv (ps.map Prod.fst) (q0 :: ps.map Prod.snd) = psL q0 ps
  | [] => by simp [wv, psL]
  | (x, q) :: ps => by
    have e : psL q0 ((x, q) :: ps) = q0.2 ++ x :: psL q ps := by simp [psL]
    rw [e, ← wv_ps q ps]; rfl
/-- As many kids as there must be. -/
def Fit (d : Nat) (its : List G.It) (ks : List (Kid G)) : Prop := match d with
  | 0 => ks = []
  | _ + 1 => ks.length = its.length + 1
def kidsD (G : BtT κ) : Nat → List (Kid G) → HProp
  | 0, _ => Sep.stars []
  | d + 1, ks => kidsR G d ks
abbrev rawL (G : BtT κ) (d b : Nat) (s kd : Sl) (its : List G.It) (ks : List (Kid G)) (Γ : List HProp) : List HProp := nodeB G b s kd :: itsR G s its :: kpsR G kd (ks.map ptr) :: kidsD G d ks :: Γ
theorem s_raw {d m b : Nat} {L : List G.It} {k : K} (h : ∀ s kd its ks, Fit d its ks → its.length ≤ 5 → (m = 2 → its ≠ []) → L = wv its ks → HG B (rawL G d b s kd its ks Γ) k) : HG B (NodeR G d m b L :: Γ) k := by
  cases d with
  | zero =>
    refine s_node0 fun s kd h1 h2 => ?_
    refine fun w hw => ?_
    refine hg (show Holds B (kidsD G 0 [] :: _) w from Holds.flat.2 hw) ?_
    have := h s kd L [] rfl h2 h1 (by cases L <;> rfl)
    refine s_end (Δ := nodeB G b s kd :: itsR G s L :: kpsR G kd [] :: kidsD G 0 [] :: Γ) ?_
    exact this
  | succ d =>
    refine s_nodeS fun s kd q0 ps h1 h2 h3 => ?_
    exact h s kd (ps.map Prod.fst) (q0 :: ps.map Prod.snd) (by simp [Fit]) (by simpa using h2) (fun hm => by simpa using h1 (by omega)) (by rw [h3, wv_ps])
theorem zip_ps {its : List G.It} {ks : List (Kid G)} (h : ks.length = its.length + 1) : ∃ (q0 : Kid G) (ps : List (G.It × Kid G)), its = ps.map Prod.fst ∧ ks = q0 :: ps.map Prod.snd := by
  cases ks with
  | nil => simp at h
  | cons q0 ks =>
    refine ⟨q0, its.zip ks, ?_, ?_⟩
    · rw [List.map_fst_zip (by simp at h; omega)]
    · rw [List.map_snd_zip (by simp at h; omega)]
theorem s_unraw {d m b : Nat} {s kd : Sl} {its : List G.It} {ks : List (Kid G)} {k : K} (hf : Fit d its ks) (hl : its.length ≤ 5) (hm : 1 ≤ m → (d = 0 ∧ m = 1) ∨ its ≠ []) (h : HG B (NodeR G d m b (wv its ks) :: Γ) k) : HG B (rawL G d b s kd its ks Γ) k := by
  cases d with
  | zero =>
    have hk : ks = [] := hf
    subst hk
    have e : wv its [] = its := by cases its <;> rfl
    rw [e] at h
    show HG B (nodeB G b s kd :: itsR G s its :: kpsR G kd [] :: kidsD G 0 [] :: Γ) k
    refine s_end (Δ := nodeB G b s kd :: itsR G s its :: kpsR G kd [] :: Γ) ?_
    exact s_mk0 (fun h2 => by rcases hm (by omega) with h3 | h3
                              · omega
                              · exact h3) hl h
  | succ d =>
    obtain ⟨q0, ps, rfl, rfl⟩ := zip_ps hf
    rw [wv_ps] at h
    exact s_mkS (fun h2 => by rcases hm h2 with h3 | h3
                              · omega
                              · simpa using h3) (by simpa using hl) h
end
end Bt
end Go.Sep
/- A B-tree: what Delete's functions are (printed by tools/mkbt.py). Holds for every program. -/
namespace Go.Sep
open Go Go.RowKit
set_option linter.unusedSimpArgs false
set_option linter.unusedVariables false
namespace Bt
structure BtD (κ : Type) extends BtT κ where
  delIC : Sl → Int → Int → (Sl → K) → K
  delKC : Sl → Int → Int → (Sl → K) → K
  ntakeC : Option Addr → κ → (Array Value → Bool → K) → K
  nlastC : Option Addr → (Array Value → K) → K
  nmendC : Option Addr → Int → K → K
section
variable {κ : Type}
def nmend_s2 (G : BtD κ) (Q : K)  (n0_2 : Addr) (i1_2 : Int) (kid4_2 : Addr) (t202_2 : Bool) : K :=
  Ite t202_2
    (Ld (n0_2.add 1) Sl.val fun t229 =>
    Ar (IntKind.wrap .i64 (i1_2 + 1)) fun t231 =>
    Idx t229 t231 1 fun t232 =>
    Ld t232 Value.pointer fun t233 =>
    Dr <| WithS fun S =>
    LdS S kid4_2 Sl.val fun t238 =>
    LdS S n0_2 Sl.val fun t242 =>
    Idx t242 i1_2 (G.nv + 1) fun t244 =>
    LdNS S t244 (G.nv + 1) fun t245 =>
    Bld (G.kz :: G.vz).toArray (fun i => some (i * (G.nv + 1), (G.nv + 1))) [(0, (.agg t245))] fun ct246 =>
    New G.tI ct246 fun t246 =>
    Sv S <|
    Do G.P (Builtin.append_ #[G.tSI, G.tSI] G.tSI #[(Sl.val t238), (Sl.val (Sl.mk (some t246) 1 1))]) Sl.val fun t247 =>
    St kid4_2 (Sl.val t247) <|
    Dr <|
    Nn t233 fun t256 =>
    Ld n0_2 Sl.val fun t253 =>
    Ld t256 Sl.val fun t258 =>
    Idx t258 0 (G.nv + 1) fun t259 =>
    LdN t259 (G.nv + 1) fun t260 =>
    Idx t253 i1_2 (G.nv + 1) fun t261 =>
    StN t261 (G.nv + 1) t260 <|
    Ld t256 Sl.val fun t266 =>
    G.delIC t266 0 1 fun t267 =>
    St t256 (Sl.val t267) <|
    Ld (t256.add 1) Sl.val fun t273 =>
    Ite (decide ((0 : Int) < (t273.n : Int)))
      (Dr <| WithS fun S =>
      LdS S (kid4_2.add 1) Sl.val fun t280 =>
      LdS S (t256.add 1) Sl.val fun t284 =>
      Idx t284 0 1 fun t285 =>
      LdS S t285 Value.pointer fun t286 =>
      New G.tK #[(.pointer t286)] fun t287 =>
      Sv S <|
      Do G.P (Builtin.append_ #[G.tSK, G.tSK] G.tSK #[(Sl.val t280), (Sl.val (Sl.mk (some t287) 1 1))]) Sl.val fun t288 =>
      St (kid4_2.add 1) (Sl.val t288) <|
      Ld (t256.add 1) Sl.val fun t295 =>
      G.delKC t295 0 1 fun t296 =>
      St (t256.add 1) (Sl.val t296) <|
      Q)
      (Q))
    (Ar (if (1 : Int) > i1_2 then 1 else i1_2) fun t18 =>
    Dr <|
    Ld (n0_2.add 1) Sl.val fun t22 =>
    Ar (IntKind.wrap .i64 (t18 - 1)) fun t24 =>
    Idx t22 t24 1 fun t25 =>
    Ld t25 Value.pointer fun t26 =>
    Ld (n0_2.add 1) Sl.val fun t30 =>
    Idx t30 t18 1 fun t32 =>
    Ld t32 Value.pointer fun t33 =>
    Dr <| WithS fun S =>
    Nn t26 fun t36 =>
    Ar (IntKind.wrap .i64 (t18 - 1)) fun t44 =>
    Nn t33 fun t50 =>
    LdS S t36 Sl.val fun t38 =>
    LdS S n0_2 Sl.val fun t42 =>
    Idx t42 t44 (G.nv + 1) fun t45 =>
    LdNS S t45 (G.nv + 1) fun t46 =>
    LdS S t50 Sl.val fun t52 =>
    Bld (G.kz :: G.vz).toArray (fun i => some (i * (G.nv + 1), (G.nv + 1))) [(0, (.agg t46))] fun ct47 =>
    New G.tI ct47 fun t47 =>
    Sv S <|
    Do G.P (Builtin.append_ #[G.tSI, G.tSI] G.tSI #[(Sl.val t38), (Sl.val (Sl.mk (some t47) 1 1))]) Sl.val fun t48 =>
    Sv S <|
    Do G.P (Builtin.append_ #[G.tSI, G.tSI] G.tSI #[(Sl.val t48), (Sl.val t52)]) Sl.val fun t53 =>
    St t36 (Sl.val t53) <|
    Dr <|
    Ld (t36.add 1) Sl.val fun t60 =>
    Ld (t50.add 1) Sl.val fun t64 =>
    Do G.P (Builtin.append_ #[G.tSK, G.tSK] G.tSK #[(Sl.val t60), (Sl.val t64)]) Sl.val fun t65 =>
    St (t36.add 1) (Sl.val t65) <|
    Ld n0_2 Sl.val fun t72 =>
    Ar (IntKind.wrap .i64 (t18 - 1)) fun t74 =>
    G.delIC t72 t74 t18 fun t76 =>
    St n0_2 (Sl.val t76) <|
    Ld (n0_2.add 1) Sl.val fun t83 =>
    Ar (IntKind.wrap .i64 (t18 + 1)) fun t86 =>
    G.delKC t83 t18 t86 fun t87 =>
    St (n0_2.add 1) (Sl.val t87) <|
    Q)
def nmend_s1 (G : BtD κ) (Q : K)  (n0_1 : Addr) (i1_1 : Int) (kid4_1 : Addr) (t97_1 : Bool) : K :=
  Ite t97_1
    (Ld (n0_1.add 1) Sl.val fun t118 =>
    Ar (IntKind.wrap .i64 (i1_1 - 1)) fun t120 =>
    Idx t118 t120 1 fun t121 =>
    Ld t121 Value.pointer fun t122 =>
    Nn t122 fun t124 =>
    Ld t124 Sl.val fun t126 =>
    Ar (IntKind.wrap .i64 ((t126.n : Int) - 1)) fun t128 =>
    Dr <| WithS fun S =>
    Ar (IntKind.wrap .i64 (i1_1 - 1)) fun t139 =>
    LdS S kid4_1 Sl.val fun t133 =>
    LdS S n0_1 Sl.val fun t137 =>
    Idx t137 t139 (G.nv + 1) fun t140 =>
    LdNS S t140 (G.nv + 1) fun t141 =>
    Bld (G.kz :: G.vz).toArray (fun i => some (i * (G.nv + 1), (G.nv + 1))) [(0, (.agg t141))] fun ct142 =>
    New G.tI ct142 fun t142 =>
    Sv S <|
    G.insIC t133 0 (Sl.mk (some t142) 1 1) fun t143 =>
    St kid4_1 (Sl.val t143) <|
    Dr <|
    Ar (IntKind.wrap .i64 (i1_1 - 1)) fun t151 =>
    Ld n0_1 Sl.val fun t149 =>
    Ld t124 Sl.val fun t155 =>
    Idx t155 t128 (G.nv + 1) fun t157 =>
    LdN t157 (G.nv + 1) fun t158 =>
    Idx t149 t151 (G.nv + 1) fun t159 =>
    StN t159 (G.nv + 1) t158 <|
    Ld t124 Sl.val fun t164 =>
    Slc t164 0 t128 (t164.c : Int) (G.nv + 1) fun t166 =>
    St t124 (Sl.val t166) <|
    Ld (t124.add 1) Sl.val fun t172 =>
    Ite (decide ((0 : Int) < (t172.n : Int)))
      (Dr <| WithS fun S =>
      Ar (IntKind.wrap .i64 (t128 + 1)) fun t185 =>
      LdS S (kid4_1.add 1) Sl.val fun t179 =>
      LdS S (t124.add 1) Sl.val fun t183 =>
      Idx t183 t185 1 fun t186 =>
      LdS S t186 Value.pointer fun t187 =>
      New G.tK #[(.pointer t187)] fun t188 =>
      Sv S <|
      G.insKC t179 0 (Sl.mk (some t188) 1 1) fun t189 =>
      St (kid4_1.add 1) (Sl.val t189) <|
      Ld (t124.add 1) Sl.val fun t196 =>
      Ar (IntKind.wrap .i64 (t128 + 1)) fun t198 =>
      Slc t196 0 t198 (t196.c : Int) 1 fun t199 =>
      St (t124.add 1) (Sl.val t199) <|
      Q)
      (Q))
    (Ar (IntKind.wrap .i64 (i1_1 + 1)) fun t204 =>
    Ld (n0_1.add 1) Sl.val fun t208 =>
    Ite (decide (t204 < (t208.n : Int)))
      (Ld (n0_1.add 1) Sl.val fun t215 =>
      Ar (IntKind.wrap .i64 (i1_1 + 1)) fun t217 =>
      Idx t215 t217 1 fun t218 =>
      Ld t218 Value.pointer fun t219 =>
      Nn t219 fun t220 =>
      Ld t220 Sl.val fun t222 =>
      nmend_s2 G Q n0_1 i1_1 kid4_1 (decide ((2 : Int) < (t222.n : Int))))
      (nmend_s2 G Q n0_1 i1_1 kid4_1 false))
def nmend (G : BtD κ) (n0 : (Option Addr)) (i1 : Int) (Q : K) : K :=
  Nn n0 fun t11 =>
  Ld (t11.add 1) Sl.val fun t13 =>
  Idx t13 i1 1 fun t15 =>
  Ld t15 Value.pointer fun t16 =>
  Nn t16 fun t92 =>
  Ld t92 Sl.val fun t94 =>
  Ite (decide ((2 : Int) ≤ (t94.n : Int)))
    (Q)
    (Ite (decide ((0 : Int) < i1))
      (Ld (t11.add 1) Sl.val fun t104 =>
      Ar (IntKind.wrap .i64 (i1 - 1)) fun t106 =>
      Idx t104 t106 1 fun t107 =>
      Ld t107 Value.pointer fun t108 =>
      Nn t108 fun t109 =>
      Ld t109 Sl.val fun t111 =>
      nmend_s1 G Q t11 i1 t92 (decide ((2 : Int) < (t111.n : Int))))
      (nmend_s1 G Q t11 i1 t92 false))
def nlast (G : BtD κ) (n0 : (Option Addr)) (Q : (Array Value) → K) : K :=
  New G.tI (G.kz :: G.vz).toArray fun t2 =>
  Nn n0 fun t7 =>
  Ld (t7.add 1) Sl.val fun t9 =>
  Ar (IntKind.wrap .i64 ((t9.n : Int) - 1)) fun t11 =>
  Ite (decide ((0 : Int) ≤ t11))
    (Ld (t7.add 1) Sl.val fun t17 =>
    Idx t17 t11 1 fun t19 =>
    Ld t19 Value.pointer fun t20 =>
    G.nlastC t20 fun t21 =>
    New G.tI (G.kz :: G.vz).toArray fun x4 =>
    StN x4 (G.nv + 1) t21 <|
    G.nmendC (some t7) t11 <|
    LdN x4 (G.nv + 1) fun t25 =>
    StN t2 (G.nv + 1) t25 <|
    LdN t2 (G.nv + 1) fun r0 =>
    Q r0)
    (Dr <| WithS fun S =>
    LdS S t7 Sl.val fun t29 =>
    LdS S t7 Sl.val fun t33 =>
    Ar (IntKind.wrap .i64 ((t33.n : Int) - 1)) fun t35 =>
    Idx t29 t35 (G.nv + 1) fun t36 =>
    LdNS S t36 (G.nv + 1) fun t37 =>
    New G.tI (G.kz :: G.vz).toArray fun x5 =>
    Sv S <|
    StN x5 (G.nv + 1) t37 <|
    Dr <|
    Ld t7 Sl.val fun t42 =>
    Ld t7 Sl.val fun t46 =>
    Ar (IntKind.wrap .i64 ((t46.n : Int) - 1)) fun t48 =>
    Slc t42 0 t48 (t42.c : Int) (G.nv + 1) fun t49 =>
    St t7 (Sl.val t49) <|
    LdN x5 (G.nv + 1) fun t52 =>
    StN t2 (G.nv + 1) t52 <|
    LdN t2 (G.nv + 1) fun r0 =>
    Q r0)
def ntake_s1 (G : BtD κ) (Q : (Array Value) → Bool → K)  (value4_1 : Addr) (ok5_1 : Bool) : K :=
  LdN value4_1 G.nv fun t94 =>
  StN value4_1 G.nv t94 <|
  LdN value4_1 G.nv fun r0 =>
  Q r0 ok5_1
def ntake_s2 (G : BtD κ) (Q : (Array Value) → Bool → K)  (n0_2 : (Option Addr)) (key1_2 : κ) (value4_2 : Addr) (i6_2 : Int) (found7_2 : Bool) (t14_2 : Bool) : K :=
  Ite t14_2
    (Nn n0_2 fun t25 =>
    Ld t25 Sl.val fun t27 =>
    Idx t27 i6_2 (G.nv + 1) fun t29 =>
    LdN (t29.add 1) G.nv fun t31 =>
    StN value4_2 G.nv t31 <|
    Ld t25 Sl.val fun t36 =>
    Ar (IntKind.wrap .i64 (i6_2 + 1)) fun t39 =>
    G.delIC t36 i6_2 t39 fun t40 =>
    St t25 (Sl.val t40) <|
    LdN value4_2 G.nv fun t43 =>
    StN value4_2 G.nv t43 <|
    LdN value4_2 G.nv fun r0 =>
    Q r0 true)
    (Ite found7_2
      (Nn n0_2 fun t47 =>
      Ld t47 Sl.val fun t49 =>
      Idx t49 i6_2 (G.nv + 1) fun t51 =>
      LdN (t51.add 1) G.nv fun t53 =>
      StN value4_2 G.nv t53 <|
      Dr <| WithS fun S =>
      LdS S t47 Sl.val fun t57 =>
      LdS S (t47.add 1) Sl.val fun t62 =>
      Idx t62 i6_2 1 fun t64 =>
      LdS S t64 Value.pointer fun t65 =>
      G.nlastC t65 fun t66 =>
      Sv S <|
      Idx t57 i6_2 (G.nv + 1) fun t67 =>
      StN t67 (G.nv + 1) t66 <|
      G.nmendC (some t47) i6_2 <|
      LdN value4_2 G.nv fun t71 =>
      StN value4_2 G.nv t71 <|
      LdN value4_2 G.nv fun r0 =>
      Q r0 true)
      (Nn n0_2 fun t74 =>
      Ld (t74.add 1) Sl.val fun t76 =>
      Ite (decide ((0 : Int) < (t76.n : Int)))
        (Ld (t74.add 1) Sl.val fun t83 =>
        Idx t83 i6_2 1 fun t85 =>
        Ld t85 Value.pointer fun t86 =>
        G.ntakeC t86 key1_2 fun t88x0 t88x1 =>
        StN value4_2 G.nv t88x0 <|
        G.nmendC (some t74) i6_2 <|
        ntake_s1 G Q value4_2 t88x1)
        (ntake_s1 G Q value4_2 false)))
def ntake (G : BtD κ) (n0 : (Option Addr)) (key1 : κ) (Q : (Array Value) → Bool → K) : K :=
  New G.tV G.vz.toArray fun value4 =>
  G.nsearchC n0 key1 fun t11x0 t11x1 =>
  Ite t11x1
    (Nn n0 fun t18 =>
    Ld (t18.add 1) Sl.val fun t20 =>
    ntake_s2 G Q (some t18) key1 value4 t11x0 true (decide ((t20.n : Int) = 0)))
    (ntake_s2 G Q n0 key1 value4 t11x0 false false)
def tdel_s2 (G : BtD κ) (Q : (Array Value) → Bool → K)  (value4_2 : Addr) (ok5_2 : Bool) : K :=
  LdN value4_2 G.nv fun t55 =>
  StN value4_2 G.nv t55 <|
  LdN value4_2 G.nv fun r0 =>
  Q r0 ok5_2
def tdel_s1 (G : BtD κ) (Q : (Array Value) → Bool → K)  (t0_1 : Addr) (value4_1 : Addr) (ok5_1 : Bool) : K :=
  Ite ok5_1
    (Ld (t0_1.add 1) (Value.int .i64) fun t51 =>
    Ar (IntKind.wrap .i64 (t51 - 1)) fun t52 =>
    St (t0_1.add 1) (.int .i64 t52) <|
    tdel_s2 G Q value4_1 ok5_1)
    (tdel_s2 G Q value4_1 ok5_1)
def tdel_s3 (G : BtD κ) (Q : (Array Value) → Bool → K)  (t0_3 : Addr) (value4_3 : Addr) (ok5_3 : Bool) (t34_3 : Bool) : K :=
  Ite t34_3
    (Ld t0_3 Value.pointer fun t39 =>
    Nn t39 fun t40 =>
    Ld (t40.add 1) Sl.val fun t42 =>
    Idx t42 0 1 fun t43 =>
    Ld t43 Value.pointer fun t44 =>
    St t0_3 (.pointer t44) <|
    tdel_s1 G Q t0_3 value4_3 ok5_3)
    (tdel_s1 G Q t0_3 value4_3 ok5_3)
def tdel (G : BtD κ) (t0 : (Option Addr)) (key1 : κ) (Q : (Array Value) → Bool → K) : K :=
  New G.tV G.vz.toArray fun value4 =>
  Nn t0 fun t8 =>
  Ld t8 Value.pointer fun t10 =>
  G.ntakeC t10 key1 fun t12x0 t12x1 =>
  StN value4 G.nv t12x0 <|
  Ld t8 Value.pointer fun t18 =>
  Nn t18 fun t19 =>
  Ld t19 Sl.val fun t21 =>
  Ite (decide ((t21.n : Int) = 0))
    (Ld t8 Value.pointer fun t28 =>
    Nn t28 fun t29 =>
    Ld (t29.add 1) Sl.val fun t31 =>
    tdel_s3 G Q t8 value4 t12x1 (decide ((t31.n : Int) = 1)))
    (tdel_s3 G Q t8 value4 t12x1 false)
end
/-- What is asked of Delete's functions. -/
structure BtDOk {κ : Type} (G : BtD κ) (c : κ → κ → Int) : Prop extends BtOk G.toBtT c where
  delI : ∃ Z, ∀ s i j Q w, delK G.P G.tSI Z (G.nv + 1) s i j Q w → G.delIC s i j Q w
  delK : ∃ Z, ∀ s i j Q w, delK G.P G.tSK Z 1 s i j Q w → G.delKC s i j Q w
  take : ∀ n k Q w, ntake G n k Q w → G.ntakeC n k Q w
  last : ∀ n Q w, nlast G n Q w → G.nlastC n Q w
  mend : ∀ n i Q w, nmend G n i Q w → G.nmendC n i Q w
end Bt
end Go.Sep
/- A B-tree: what mend does. Holds for every program. -/
namespace Go.Sep
open Go Go.RowKit
set_option linter.unusedSimpArgs false
set_option linter.unusedVariables false
namespace Bt
section
variable {κ : Type} {B : World} {Γ Γ0 Δ : List HProp}
/-- An element that is read in every state that bears this. -/
theorem s_ldElS {α : Type} {f : α → List Value} {esz E : Nat} {s : Sl} {L : List α} {i : Nat} {x : α} {k : Array Value → K} (hf : ∀ x, (f x).length = esz) (hx : L[i]? = some x) (h : HG B Γ (k (f x).toArray)) [o : OwnS s Γ0 (SlC E esz s (L.flatMap f)) Δ] : HG B Γ (LdNS (Holds B Γ0) (elA s i esz) esz k) := fun w hw => by
  refine ⟨(f x).toArray, by simp [hf], fun w' hw' => ?_, h w hw⟩
  obtain ⟨cs, hcs, hrd, hk⟩ := s_ldEl (s := s) (i := i) (k := fun cs _ => cs = (f x).toArray) (E := E) (Γ := Γ0) (B := B) hf hx (fun _ _ => rfl) w' hw'
  rw [← hk]; exact hrd
theorem s_ldES1 {α : Type} {c : α → Value} {E : Nat} {s : Sl} {L : List α} {i : Nat} {x : α} {k : α → K} (hx : L[i]? = some x) (h : HG B Γ (k x)) [o : OwnS s Γ0 (SlC E 1 s (L.map c)) Δ] : HG B Γ (LdS (Holds B Γ0) (elA s i 1) c k) := fun w hw => by
  refine ⟨x, fun w' hw' => ?_, h w hw⟩
  obtain ⟨h0, h1, h2, h3, h4⟩ := own_rd hw' (p := o)
  rw [← add0 (elA s i 1)]
  exact el_cell (vs := L.map c) (off := 0) h0 h3 (by simp [hx])
/-- An element is another one. -/
theorem s_stEl {α : Type} {f : α → List Value} {esz E : Nat} {s : Sl} {A C : List α} {x y : α} {k : K} (hf : ∀ x, (f x).length = esz) (hfl : (f y).all flatV = true) (h : HG B (SlC E esz s ((A ++ y :: C).flatMap f) :: Δ) k) [o : OwnS s Γ (SlC E esz s ((A ++ x :: C).flatMap f)) Δ] : HG B Γ (StN (elA s A.length esz) esz (f y).toArray k) := by
  rw [← add0 (elA s A.length esz)]
  refine s_stEN (s := s) (us := f y) ?_ (hf y) ?_ hfl
  · have e : layAt ((A ++ x :: C).flatMap f) (A.length * esz + 0) (f y) = (A ++ y :: C).flatMap f := by
      have e1 : (A ++ x :: C).flatMap f = A.flatMap f ++ (f x ++ C.flatMap f) := by simp
      have e2 : (A ++ y :: C).flatMap f = A.flatMap f ++ (f y ++ C.flatMap f) := by simp
      rw [e1, e2, layAt_mid (by simp [flatMap_len f esz hf]) (by rw [hf, hf])]
    rw [e]; exact h
  · have e1 : ((A ++ x :: C).flatMap f).length = (A.length + (C.length + 1)) * esz := by rw [flatMap_len f esz hf]; simp
    rw [e1, Nat.add_mul, Nat.add_mul]; omega
variable {G : BtT κ} {c : κ → κ → Int}
theorem wv_nil (its : List G.It) : wv its ([] : List (Kid G)) = its := by cases its <;> rfl
theorem wv_app {d : Nat} {i1 i2 : List G.It} {k1 k2 : List (Kid G)} {x : G.It} (h1 : Fit d i1 k1) (h2 : Fit d i2 k2) : wv (i1 ++ x :: i2) (k1 ++ k2) = wv i1 k1 ++ x :: wv i2 k2 := by
  cases d with
  | zero =>
    have e1 : k1 = [] := h1
    have e2 : k2 = [] := h2
    subst e1; subst e2
    simp only [List.append_nil, wv_nil]
  | succ d =>
    obtain ⟨q1, ps1, rfl, rfl⟩ := zip_ps h1
    obtain ⟨q2, ps2, rfl, rfl⟩ := zip_ps h2
    have e : wv (ps1.map Prod.fst ++ x :: ps2.map Prod.fst) (q1 :: ps1.map Prod.snd ++ q2 :: ps2.map Prod.snd) = psL q1 (ps1 ++ (x, q2) :: ps2) := by
      rw [← wv_ps]; simp
    rw [e, wv_ps, wv_ps]
    simp [psL]
theorem fit_app {d : Nat} {i1 i2 : List G.It} {k1 k2 : List (Kid G)} {x : G.It} (h1 : Fit d i1 k1) (h2 : Fit d i2 k2) : Fit d (i1 ++ x :: i2) (k1 ++ k2) := by
  cases d with
  | zero =>
    have e1 : k1 = [] := h1
    have e2 : k2 = [] := h2
    subst e1; subst e2; rfl
  | succ d =>
    simp only [Fit, List.length_append, List.length_cons] at h1 h2 ⊢
    omega
theorem fit_split {d : Nat} {i1 i2 : List G.It} {ks : List (Kid G)} {x : G.It} (h : Fit d (i1 ++ x :: i2) ks) : ∃ k1 k2, ks = k1 ++ k2 ∧ Fit d i1 k1 ∧ Fit d i2 k2 := by
  cases d with
  | zero => exact ⟨[], [], h, rfl, rfl⟩
  | succ d =>
    simp only [Fit, List.length_append, List.length_cons] at h
    exact ⟨ks.take (i1.length + 1), ks.drop (i1.length + 1), (List.take_append_drop _ _).symm, by simp [Fit]; omega, by simp [Fit]; omega⟩
theorem kids_join {d : Nat} {A C : List (Kid G)} : ∀ w, Holds B (kidsD G d A :: kidsD G d C :: Γ) w ↔ Holds B (kidsD G d (A ++ C) :: Γ) w := fun w => by
  cases d with
  | zero =>
    show Holds B (Sep.stars [] :: Sep.stars [] :: Γ) w ↔ Holds B (Sep.stars [] :: Γ) w
    exact Holds.flat (Δ := [])
  | succ d =>
    show Holds B (kidsR G d A :: kidsR G d C :: Γ) w ↔ Holds B (kidsR G d (A ++ C) :: Γ) w
    constructor
    · intro h
      have h1 := Holds.flat.1 h
      have h2 := Holds.flat.1 (h1.perm (List.perm_middle (a := kidsR G d C) (l₁ := A.map fun q => NodeR G d 2 q.1 q.2) (l₂ := Γ)))
      refine Holds.flat.2 (h2.perm ?_)
      rw [List.map_append, List.append_assoc]
      rw [← List.append_assoc, ← List.append_assoc]
      exact List.perm_append_comm.append_right Γ
    · intro h
      have := s_kids_split (k := fun w => Holds B (kidsR G d A :: kidsR G d C :: Γ) w) (fun w h => h) w h
      exact this
theorem s_join {d : Nat} {A C : List (Kid G)} {k : K} (h : HG B (kidsD G d (A ++ C) :: Γ) k) : HG B (kidsD G d A :: kidsD G d C :: Γ) k := fun w hw => h w ((kids_join w).1 hw)
theorem s_part {d : Nat} {A C : List (Kid G)} {k : K} (h : HG B (kidsD G d A :: kidsD G d C :: Γ) k) : HG B (kidsD G d (A ++ C) :: Γ) k := fun w hw => h w ((kids_join w).2 hw)
end
end Bt
end Go.Sep
/- A B-tree: a kid is filled up from its left, its right, or joined. Holds for every program. -/
namespace Go.Sep
open Go Go.RowKit
set_option linter.unusedSimpArgs false
set_option linter.unusedVariables false
namespace Bt
section
variable {κ : Type} {G : BtD κ} {c : κ → κ → Int} {B : World} {Γ Δ : List HProp}
theorem its_n {s : Sl} {its : List G.It} (h : (its.flatMap G.f).length = s.n * (G.nv + 1)) : s.n = its.length := by
  rw [flatMap_len G.f _ G.f_len] at h
  exact (Nat.eq_of_mul_eq_mul_right (by omega) h).symm
theorem kps_n {s : Sl} {kp : List (Option Addr)} (h : (kp.map Value.pointer).length = s.n * 1) : s.n = kp.length := by rw [kp_len] at h; omega
theorem flat_f (ok : BtOk G.toBtT c) (x : G.It) : (G.f x).all flatV = true := List.all_eq_true.2 (f_flat ok x)
theorem ins_first {its : List G.It} {x : G.It} : (its.flatMap G.f).take (0 * (G.nv + 1)) ++ G.f x ++ (its.flatMap G.f).drop (0 * (G.nv + 1)) = (x :: its).flatMap G.f := by simp
theorem ins_firstK {kp : List (Option Addr)} {x : Option Addr} : (kp.map Value.pointer).take (0 * 1) ++ [Value.pointer x] ++ (kp.map Value.pointer).drop (0 * 1) = (x :: kp).map Value.pointer := by simp
theorem s_shrinkI {s : Sl} {its : List G.It} {m : Nat} {k : K} (hm : m ≤ s.n) (hc : s.n ≤ s.c) (h : HG B (itsR G.toBtT ⟨s.a, m, s.c⟩ (its.take m) :: Δ) k) [p : OwnS s Γ (itsR G.toBtT s its) Δ] : HG B Γ k := by
  refine s_shrink (s := s) (m := m) (c' := s.c) hm (Nat.le_trans hm hc) (Nat.le_refl _) ?_
  rw [flatMap_take G.f_len]
  exact h
theorem s_shrinkK {s : Sl} {kp : List (Option Addr)} {m : Nat} {k : K} (hm : m ≤ s.n) (hc : s.n ≤ s.c) (h : HG B (kpsR G.toBtT ⟨s.a, m, s.c⟩ (kp.take m) :: Δ) k) [p : OwnS s Γ (kpsR G.toBtT s kp) Δ] : HG B Γ k := by
  refine s_shrink (s := s) (m := m) (c' := s.c) hm (Nat.le_trans hm hc) (Nat.le_refl _) ?_
  rw [show (kp.map Value.pointer).take (m * 1) = (kp.take m).map Value.pointer by simp]
  exact h
theorem s_turnL (ok : BtDOk G c) {d n : Nat} {s kd sp kp sq kq : Sl} {A C : List (Kid G.toBtT)} {p q : Kid G.toBtT} {IA IC ip iq : List G.It} {x y : G.It} {cp cq : List (Kid G.toBtT)} {i : Int} {Q : K}
    (hi : i = ((A.length + 1 : Nat) : Int)) (hA : IA.length = A.length) (hl : IA.length + IC.length ≤ 5) (hC : C.length = IC.length) (hp : 2 ≤ ip.length ∧ ip.length ≤ 5) (hq : iq.length ≤ 1) (hfp : Fit d (ip ++ [y]) cp) (hfq : Fit d iq cq)
    (h : ∀ P' Q', P' ++ y :: Q' = wv (ip ++ [y]) cp ++ x :: wv iq cq → ∀ s' kd', HG B (nodeB G.toBtT n s' kd' :: itsR G.toBtT s' (IA ++ y :: IC) :: kpsR G.toBtT kd' ((A ++ p :: q :: C).map ptr) :: NodeR G.toBtT d 2 p.1 P' :: NodeR G.toBtT d 2 q.1 Q' :: Γ) Q) :
    HG B (nodeB G.toBtT n s kd :: itsR G.toBtT s (IA ++ x :: IC) :: kpsR G.toBtT kd ((A ++ p :: q :: C).map ptr) :: rawL G.toBtT d p.1 sp kp (ip ++ [y]) cp (rawL G.toBtT d q.1 sq kq iq cq Γ)) (nmend_s1 G Q ⟨n, 0, none⟩ i ⟨q.1, 0, none⟩ true) := by
  subst hi
  have okT := ok.toBtOk
  obtain ⟨cp', kz, rfl, hf1, hfz⟩ := fit_split (i1 := ip) (i2 := []) hfp
  refine s_cap s fun a1 a2 a3 a4 => ?_
  refine s_cap kd fun b1 b2 b3 b4 => ?_
  refine s_cap sp fun c1 c2 c3 c4 => ?_
  refine s_cap kp fun d1 d2 d3 d4 => ?_
  refine s_cap sq fun e1 e2 e3 e4 => ?_
  refine s_cap kq fun f1 f2 f3 f4 => ?_
  have hsn := its_n a1
  have hkn := kps_n b1
  have hspn := its_n c1
  have hkpn := kps_n d1
  have hsqn := its_n e1
  have hkqn := kps_n f1
  simp only [List.length_append, List.length_cons, List.length_nil, List.length_map] at hsn hkn hspn hkpn hsqn hkqn
  unfold nmend_s1
  refine s_t ?_
  refine s_ld (b := n) (x := kd) ?_
  refine s_ai ?_
  refine s_idx (s := kd) (i := A.length) ?_
  refine s_ldE0 (s := kd) (x := ptr p) (by simp) ?_
  refine s_nn ?_
  refine s_ld (b := p.1) (x := sp) ?_
  refine s_ai ?_
  refine s_dr ?_
  refine s_ws ?_
  refine s_ai ?_
  refine s_ldS (b := q.1) (x := sq) ?_
  refine s_ldS (b := n) (x := s) ?_
  refine s_idx (s := s) (i := A.length) ?_
  refine s_ldElS (s := s) (x := x) G.f_len (by rw [← hA]; simp) ?_
  refine s_bld1 ?_ (by simp [okT.vz.1]) (G.f_len _)
  refine s_new fun t => ?_
  refine s_sv ?_
  obtain ⟨R, rot, hins⟩ := okT.insI
  refine fun w hw => hins _ _ _ _ _ ?_
  refine hg hw ?_
  clear hw w
  refine s_ins (s := sq) (i := 0) (t := t) (by omega) (by omega) (G.f_len _) (by omega) (fl_flat okT _) (f_flat okT _) (fun sq' hsq' => ?_) okT.TI okT.ZI
  rw [ins_first]
  refine s_st (b := q.1) ?_
  refine s_dr ?_
  refine s_ai ?_
  refine s_ld (b := n) (x := s) ?_
  refine s_ld (b := p.1) (x := sp) ?_
  refine s_idx (s := sp) (i := ip.length) ?_
  refine s_ldEl (s := sp) (x := y) G.f_len (by simp) ?_
  refine s_idx (s := s) (i := IA.length) ?_
  refine s_stEl (s := s) (A := IA) (x := x) (y := y) G.f_len (flat_f okT y) ?_
  refine s_ld (b := p.1) (x := sp) ?_
  refine s_slc (lo := 0) (hi := ip.length) (mx := sp.c) ?_
  rw [cut0 c3]
  refine s_st (b := p.1) ?_
  refine s_shrinkI (s := sp) (m := ip.length) (by omega) c2 ?_
  rw [List.take_left]
  refine s_ld (b := p.1) (x := kp) ?_
  have fin : ∀ sp2 kp2 sq2 kq2, HG B (rawL G.toBtT d p.1 sp2 kp2 ip cp' (rawL G.toBtT d q.1 sq2 kq2 (x :: iq) (kz ++ cq) (nodeB G.toBtT n s kd :: itsR G.toBtT s (IA ++ y :: IC) :: kpsR G.toBtT kd ((A ++ p :: q :: C).map ptr) :: Γ))) Q := fun sp2 kp2 sq2 kq2 => by
    refine s_unraw (m := 2) hf1 hp.2 (fun _ => .inr fun h => by rw [h] at hp; simp at hp) ?_
    refine s_end (Δ := rawL G.toBtT d q.1 sq2 kq2 (x :: iq) (kz ++ cq) (NodeR G.toBtT d 2 p.1 (wv ip cp') :: nodeB G.toBtT n s kd :: itsR G.toBtT s (IA ++ y :: IC) :: kpsR G.toBtT kd ((A ++ p :: q :: C).map ptr) :: Γ)) ?_
    refine s_unraw (m := 2) (fit_app (i1 := []) hfz hfq) (by simp; omega) (fun _ => .inr (by simp)) ?_
    refine s_end (h (wv ip cp') (wv (x :: iq) (kz ++ cq)) ?_ s kd)
    rw [wv_app hf1 hfz, show x :: iq = [] ++ x :: iq from rfl, wv_app hfz hfq]
    simp
  cases d with
  | zero =>
    have e1 : cp' = [] := hf1
    have e2 : kz = [] := hfz
    have e3 : cq = [] := hfq
    subst e1; subst e2; subst e3
    refine s_f ?_ (by simp at hkpn; simp [hkpn])
    simp only [List.append_nil] at fin ⊢
    exact s_end (fin ⟨sp.a, ip.length, sp.c⟩ kp sq' kq)
  | succ d =>
    obtain ⟨z, rfl⟩ : ∃ z, kz = [z] := List.length_eq_one_iff.1 hfz
    have hcl : cp'.length = ip.length + 1 := hf1
    have hcql : cq.length = iq.length + 1 := hfq
    simp only [List.length_cons, List.length_nil] at hkpn
    refine s_t ?_ (by simp; omega)
    refine s_dr ?_
    refine s_ws ?_
    refine s_ai ?_
    refine s_ldS (b := q.1) (x := kq) ?_
    refine s_ldS (b := p.1) (x := kp) ?_
    refine s_idx (s := kp) (i := ip.length + 1) ?_
    refine s_ldES1 (s := kp) (c := Value.pointer) (L := (cp' ++ [z]).map ptr) (x := ptr z) (by rw [← hcl]; simp) ?_
    refine s_new fun t2 => ?_
    refine s_sv ?_
    obtain ⟨R2, rot2, hins2⟩ := okT.insK
    refine fun w hw => hins2 _ _ _ _ _ ?_
    refine hg hw ?_
    clear hw w
    refine s_ins (s := kq) (i := 0) (t := t2) (us := [Value.pointer (ptr z)]) (by omega) (by omega) rfl (by omega) (kp_flat _) (by simp [flatV]) (fun kq' hkq' => ?_) okT.TK okT.ZK
    rw [ins_firstK, show ptr z :: cq.map ptr = ([z] ++ cq).map ptr from rfl]
    refine s_st (b := q.1) ?_
    refine s_ld (b := p.1) (x := kp) ?_
    refine s_ai ?_
    refine s_slc (lo := 0) (hi := ip.length + 1) (mx := kp.c) ?_
    rw [cut0 d3]
    refine s_st (b := p.1) ?_
    refine s_shrinkK (s := kp) (m := ip.length + 1) (by omega) d2 ?_
    rw [show ((cp' ++ [z]).map ptr).take (ip.length + 1) = cp'.map ptr by rw [List.map_append]; exact List.take_left' (by simp [hcl])]
    refine s_pick (kidsD G.toBtT (d + 1) (cp' ++ [z])) ?_
    refine s_part ?_
    refine s_end (Δ := kidsD G.toBtT (d + 1) [z] :: kidsD G.toBtT (d + 1) cq :: kidsD G.toBtT (d + 1) cp' :: nodeB G.toBtT p.1 ⟨sp.a, ip.length, sp.c⟩ ⟨kp.a, ip.length + 1, kp.c⟩ :: itsR G.toBtT ⟨sp.a, ip.length, sp.c⟩ ip :: kpsR G.toBtT ⟨kp.a, ip.length + 1, kp.c⟩ (cp'.map ptr) :: nodeB G.toBtT q.1 sq' kq' :: itsR G.toBtT sq' (x :: iq) :: kpsR G.toBtT kq' (([z] ++ cq).map ptr) :: nodeB G.toBtT n s kd :: itsR G.toBtT s (IA ++ y :: IC) :: kpsR G.toBtT kd ((A ++ p :: q :: C).map ptr) :: Γ) ?_
    refine s_join ?_
    exact s_end (fin ⟨sp.a, ip.length, sp.c⟩ ⟨kp.a, ip.length + 1, kp.c⟩ sq' kq')
end
end Bt
end Go.Sep
/- Maps: what a map of one's own does, as a list of keys and values. -/
namespace Go.Sep
open Go Go.RowKit Go.MapKept
set_option linter.unusedSimpArgs false
set_option linter.unusedVariables false
set_option linter.unusedSectionVars false

section
variable {α β : Type} [DecidableEq α]
def mget (k : α) : List (α × β) → Option β
  | [] => none
  | p :: m => if k = p.1 then some p.2 else mget k m
def mset (k : α) (v : β) : List (α × β) → List (α × β)
  | [] => [(k, v)]
  | p :: m => if k = p.1 then (k, v) :: m else p :: mset k v m
def mdel (k : α) : List (α × β) → List (α × β)
  | [] => []
  | p :: m => if k = p.1 then m else p :: mdel k m

theorem mfind (k : α) : ∀ m : List (α × β), (mget k m = none ∧ (∀ v, mset k v m = m ++ [(k, v)]) ∧ mdel k m = m ∧ ∀ p ∈ m, p.1 ≠ k) ∨
    ∃ j x, j < m.length ∧ m[j]? = some (k, x) ∧ (∀ i, i < j → ∀ p, m[i]? = some p → p.1 ≠ k) ∧ mget k m = some x ∧ (∀ v, mset k v m = m.set j (k, v)) ∧ mdel k m = m.eraseIdx j
  | [] => .inl ⟨rfl, fun _ => rfl, rfl, by simp⟩
  | p :: m => by
    by_cases hk : k = p.1
    · refine .inr ⟨0, p.2, by simp, by rw [hk]; rfl, fun i hi => by omega, by simp [mget, hk], fun v => by simp [mset, hk], by simp [mdel, hk]⟩
    · rcases mfind k m with ⟨h1, h2, h3, h4⟩ | ⟨j, x, hj, h0, hb, h1, h2, h3⟩
      · refine .inl ⟨by simp [mget, hk, h1], fun v => by simp [mset, hk, h2], by simp [mdel, hk, h3], fun q hq => ?_⟩
        rcases List.mem_cons.1 hq with rfl | hq
        · exact fun e => hk e.symm
        · exact h4 q hq
      · refine .inr ⟨j + 1, x, by simpa using hj, by simpa using h0, fun i hi q hq => ?_, by simp [mget, hk, h1], fun v => by simp [mset, hk, h2], by simp [mdel, hk, h3]⟩
        cases i with
        | zero => simp at hq; subst hq; exact fun e => hk e.symm
        | succ i => exact hb i (by omega) q (by simpa using hq)
end

/-- A way to write keys. -/
structure KeyE {α : Type} (d : TypeDesc) (enc : α → Value) : Prop where
  key : ∀ a, IsKey d (enc a)
  inj : ∀ a b, enc a = enc b → a = b
  bits : ∀ a, Instr.sameBits 10000 (enc a) (enc a) = true
theorem keyE_int (k : IntKind) : KeyE (.int k) (Value.int k) := ⟨fun _ => rfl, fun a b h => by injection h, fun a => by simp [Instr.sameBits]⟩
theorem keyE_string : KeyE .string Value.string := ⟨fun _ => trivial, fun a b h => by injection h, fun a => by
  show (a == a) = true
  rw [bytes_beq]⟩

section
variable {α β : Type} [DecidableEq α] {P : Program} {B w : World} {Γ : List HProp} {enc : α → Value} {cV : β → Value}

def mrel (enc : α → Value) (cV : β → Value) (es : Array MapEntry) (m : List (α × β)) : Prop := es.toList.map (fun e => (e.key, e.val)) = m.map fun p => (enc p.1, cV p.2)
/-- The entries' stamps are unlike, and below the clock. -/
def stamps (es : Array MapEntry) (c : Nat) : Prop := (es.toList.map (·.born)).Nodup ∧ ∀ e ∈ es.toList, e.born < c
theorem stamps_nil (c : Nat) : stamps #[] c := ⟨by simp, by simp⟩
theorem stamps_push {es : Array MapEntry} {c : Nat} (h : stamps es c) (k v : Value) : stamps (es.push { key := k, val := v, born := c }) (c + 1) := by
  refine ⟨?_, fun e he => ?_⟩
  · simp only [Array.toList_push, List.map_append, List.map_cons, List.map_nil]
    rw [List.nodup_append]
    refine ⟨h.1, by simp, fun x hx y hy => ?_⟩
    simp only [List.mem_singleton] at hy
    subst hy
    obtain ⟨e, he, rfl⟩ := List.mem_map.1 hx
    have := h.2 e he
    omega
  · simp only [Array.toList_push] at he
    rcases List.mem_append.1 he with he | he
    · have := h.2 e he; omega
    · simp only [List.mem_singleton] at he; subst he; exact Nat.lt_succ_self _
theorem stamps_modify {es : Array MapEntry} {c : Nat} (h : stamps es c) (j : Nat) (k v : Value) : stamps (es.modify j fun e => { e with key := k, val := v }) c := by
  have e1 : (es.modify j fun e => { e with key := k, val := v }).toList.map (·.born) = es.toList.map (·.born) := by
    apply List.ext_getElem?
    intro i
    simp only [List.getElem?_map, Array.getElem?_toList, Array.getElem?_modify]
    split
    · cases es[i]? <;> rfl
    · rfl
  refine ⟨by rw [e1]; exact h.1, fun e he => ?_⟩
  have : e.born ∈ es.toList.map (·.born) := by rw [← e1]; exact List.mem_map_of_mem he
  obtain ⟨e', he', hb⟩ := List.mem_map.1 this
  rw [← hb]; exact h.2 e' he'
theorem stamps_erase {es : Array MapEntry} {c : Nat} (h : stamps es c) (j : Nat) : stamps (es.eraseIdxIfInBounds j) c := by
  have hs : List.Sublist (es.eraseIdxIfInBounds j).toList es.toList := by
    unfold Array.eraseIdxIfInBounds
    split
    · rw [Array.toList_eraseIdx]; exact List.eraseIdx_sublist _ _
    · exact List.Sublist.refl _
  exact ⟨h.1.sublist (hs.map _), fun e he => h.2 e (hs.subset he)⟩
def MapR (enc : α → Value) (cV : β → Value) (b : Nat) (m : List (α × β)) : HProp := ex fun es : Array MapEntry => ex fun c : Nat => fun g => (mrel enc cV es m ∧ stamps es c) ∧ blk b (.map es c) g

theorem MapR.opens {b : Nat} {m : List (α × β)} (h : Holds B (MapR enc cV b m :: Γ) w) : ∃ es c, (mrel enc cV es m ∧ stamps es c) ∧ Holds B (blk b (.map es c) :: Γ) w := by
  obtain ⟨es, h⟩ := Holds.ex.1 h
  obtain ⟨c, h⟩ := Holds.ex.1 h
  exact ⟨es, c, h.fact fun g hg => hg.1, h.imp fun g hg => hg.2⟩
theorem MapR.shuts {b : Nat} {m : List (α × β)} {es : Array MapEntry} {c : Nat} (hr : mrel enc cV es m ∧ stamps es c) (h : Holds B (blk b (.map es c) :: Γ) w) : Holds B (MapR enc cV b m :: Γ) w :=
  Holds.ex.2 ⟨es, Holds.ex.2 ⟨c, h.imp fun g hg => ⟨hr, hg⟩⟩⟩

theorem mrel_at {es : Array MapEntry} {m : List (α × β)} (hr : mrel enc cV es m) (i : Nat) : (es.toList[i]?).map (fun e => (e.key, e.val)) = (m[i]?).map fun p => (enc p.1, cV p.2) := by
  have := congrArg (·[i]?) hr
  simpa using this
theorem mrel_keys {d : TypeDesc} (hE : KeyE d enc) {es : Array MapEntry} {m : List (α × β)} (hr : mrel enc cV es m) : ∀ x ∈ es.toList, IsKey d x.key := by
  intro x hx
  have : (x.key, x.val) ∈ m.map fun p => (enc p.1, cV p.2) := by rw [← hr]; exact List.mem_map_of_mem hx
  obtain ⟨p, _, hp⟩ := List.mem_map.1 this
  have : enc p.1 = x.key := congrArg Prod.fst hp
  rw [← this]; exact hE.key _

/-- Where a key is found. -/
theorem mfound {d : TypeDesc} (hE : KeyE d enc) {es : Array MapEntry} {m : List (α × β)} (hr : mrel enc cV es m) (k : α) :
    (Instr.findNow d (enc k) es.toList 0 = some none ∧ mget k m = none ∧ (∀ v, mset k v m = m ++ [(k, v)]) ∧ mdel k m = m) ∨
    ∃ j x, Instr.findNow d (enc k) es.toList 0 = some (some (j, cV x)) ∧ j < m.length ∧ m[j]? = some (k, x) ∧ mget k m = some x ∧ (∀ v, mset k v m = m.set j (k, v)) ∧ mdel k m = m.eraseIdx j := by
  have hlen : es.toList.length = m.length := by have := congrArg List.length hr; simpa using this
  rcases mfind k m with ⟨h1, h2, h3, h4⟩ | ⟨j, x, hj, h0, hb, h1, h2, h3⟩
  · refine .inl ⟨?_, h1, h2, h3⟩
    rcases findNow_spec (hE.key k) es.toList 0 (mrel_keys hE hr) with ⟨g1, _⟩ | ⟨i, e, g1, g2, g3⟩
    · exact g1
    · have := mrel_at hr i
      rw [g2] at this
      cases hm : m[i]? with
      | none => rw [hm] at this; simp at this
      | some p =>
        rw [hm] at this
        simp only [Option.map_some, Option.some.injEq, Prod.mk.injEq] at this
        exact absurd (hE.inj _ _ (this.1.symm.trans g3)) (h4 p (List.mem_of_getElem? hm))
  · have key : ∀ (l : List MapEntry) (m : List (α × β)) (j i : Nat), l.map (fun e => (e.key, e.val)) = m.map (fun p => (enc p.1, cV p.2)) → m[j]? = some (k, x) → (∀ i, i < j → ∀ p, m[i]? = some p → p.1 ≠ k) →
        Instr.findNow d (enc k) l i = some (some (i + j, cV x)) := by
      intro l
      induction l with
      | nil => intro m j i hr hm _; cases m <;> simp at hr hm
      | cons e l ih =>
        intro m j i hr hm hb
        cases m with
        | nil => simp at hr
        | cons p m =>
          simp only [List.map_cons, List.cons.injEq, Prod.mk.injEq] at hr
          obtain ⟨⟨e1, e2⟩, hr⟩ := hr
          obtain ⟨r, hs, hiff⟩ := sameNow_of_keys (hE.key k) (hE.key p.1)
          unfold Instr.findNow
          rw [e1, hs]
          cases j with
          | zero =>
            simp only [List.getElem?_cons_zero, Option.some.injEq] at hm
            subst hm
            have : r = true := hiff.2 rfl
            subst this
            simp only [e2, Nat.add_zero]
          | succ j =>
            have hne : p.1 ≠ k := hb 0 (by omega) p rfl
            have : r = false := by
              cases r with
              | false => rfl
              | true => exact absurd (hE.inj _ _ (hiff.1 rfl)) (fun e => hne e.symm)
            subst this
            simp only
            rw [ih m j (i + 1) hr (by simpa using hm) (fun i' hi' q hq => hb (i' + 1) (by omega) q (by simpa using hq))]
            congr 3; omega
    refine .inr ⟨j, x, ?_, hj, h0, h1, h2, h3⟩
    have := key es.toList m j 0 hr h0 hb
    rwa [Nat.zero_add] at this

/-- A map type, its key's kind and its element. -/
def mapIs (P : Program) (T : TypeId) (d : TypeDesc) (E : TypeId) : Prop := ∃ kt, P.underlying T = some (.map kt E) ∧ P.underlying kt = some d

theorem r_mkMap {T : TypeId} {d : TypeDesc} {E : TypeId} {k : Option Nat → K} (h : Holds B Γ w) (hk : ∀ b w, Holds B (MapR enc cV b [] :: Γ) w → k (some b) w) :
    Do P (Instr.makeMap T none) Value.map k w := by
  refine ⟨some w.heap.size, { w with heap := w.heap.push (.map #[] 0) }, rfl, hk _ _ (MapR.shuts (es := #[]) (c := 0) ⟨rfl, stamps_nil 0⟩ (h.alloc _))⟩

theorem run_look {T E : TypeId} {d : TypeDesc} {b : Nat} {m : List (α × β)} {z : β} {a : α} (hT : mapIs P T d E) (hE : KeyE d enc) (hz : zeroT P E (cV z)) {es : Array MapEntry} {c : Nat} (hb : w.heap[b]? = some (.map es c)) (hr : mrel enc cV es m) (ok : Bool) :
    (Instr.lookup T (.map (some b)) (enc a) ok).run P w = .ok (if ok then .tuple #[cV ((mget a m).getD z), .bool (mget a m).isSome] else cV ((mget a m).getD z)) w := by
  obtain ⟨kt, hT, hd⟩ := hT
  unfold Instr.lookup
  simp only [Sem.run_bind, run_underlying hT, Result.andThen, MapKept.run_getObj_map hb, run_checkKey hd (hE.key a), Sem.run_pure]
  rcases mfound hE hr a with ⟨h1, h2, _⟩ | ⟨j, x, h1, _, _, h2, _⟩
  · simp only [run_findKey hd h1, Result.andThen, Sem.run_bind, zeroT_spec hz, Sem.run_pure, h2]
    cases ok <;> rfl
  · simp only [run_findKey hd h1, Result.andThen, Sem.run_bind, Sem.run_pure, h2]
    cases ok <;> rfl

theorem r_look2 {T E : TypeId} {d : TypeDesc} {b : Nat} {m : List (α × β)} {z : β} {a : α} {k : β → Bool → K} (hT : mapIs P T d E) (hE : KeyE d enc) (hz : zeroT P E (cV z)) (h : Holds B (MapR enc cV b m :: Γ) w)
    (hk : k ((mget a m).getD z) (mget a m).isSome w) : Rd2 P (Instr.lookup T (.map (some b)) (enc a) true) (fun x y => .tuple #[cV x, .bool y]) k w := by
  obtain ⟨es, c, ⟨hr, hst⟩, h⟩ := MapR.opens h
  exact ⟨_, _, run_look hT hE hz h.block hr true, hk⟩
theorem r_look1 {T E : TypeId} {d : TypeDesc} {b : Nat} {m : List (α × β)} {z : β} {a : α} {k : β → K} (hT : mapIs P T d E) (hE : KeyE d enc) (hz : zeroT P E (cV z)) (h : Holds B (MapR enc cV b m :: Γ) w)
    (hk : k ((mget a m).getD z) w) : Rd P (Instr.lookup T (.map (some b)) (enc a) false) cV k w := by
  obtain ⟨es, c, ⟨hr, hst⟩, h⟩ := MapR.opens h
  exact ⟨_, run_look hT hE hz h.block hr false, hk⟩

theorem Holds.setMap {b : Nat} {es es' : Array MapEntry} {c c' : Nat} (h : Holds B (blk b (.map es c) :: Γ) w) : (setObj b (.map es' c')).run P w = .ok () { w with heap := w.heap.setIfInBounds b (.map es' c') } ∧
    Holds B (blk b (.map es' c') :: Γ) { w with heap := w.heap.setIfInBounds b (.map es' c') } :=
  ⟨run_setObj_map _ h.block, h.setBlock rfl⟩

theorem r_look2g {γ : Type} {cG : γ → Value} {g : β → γ} {T E : TypeId} {d : TypeDesc} {b : Nat} {m : List (α × β)} {z : β} {a : α} {k : γ → Bool → K} (hc : ∀ x, cV x = cG (g x)) (hT : mapIs P T d E) (hE : KeyE d enc) (hz : zeroT P E (cV z)) (h : Holds B (MapR enc cV b m :: Γ) w)
    (hk : k (g ((mget a m).getD z)) (mget a m).isSome w) : Rd2 P (Instr.lookup T (.map (some b)) (enc a) true) (fun x y => .tuple #[cG x, .bool y]) k w := by
  obtain ⟨es, c, ⟨hr, hst⟩, h⟩ := MapR.opens h
  have := run_look (a := a) hT hE hz h.block hr true
  exact ⟨g ((mget a m).getD z), _, by rw [hc] at this; exact this, hk⟩

theorem r_upd {T E : TypeId} {d : TypeDesc} {b : Nat} {m : List (α × β)} {a : α} {v : β} {k : K} (hT : mapIs P T d E) (hE : KeyE d enc) (h : Holds B (MapR enc cV b m :: Γ) w)
    (hk : ∀ w', Holds B (MapR enc cV b (mset a v m) :: Γ) w' → k w') : DoU P (Instr.mapUpdate T (.map (some b)) (enc a) (cV v)) k w := by
  obtain ⟨kt, hT, hd⟩ := hT
  obtain ⟨es, c, ⟨hr, hst⟩, h⟩ := MapR.opens h
  have hb := h.block
  have hlen : es.size = m.length := by have := congrArg List.length hr; simpa using this
  unfold Instr.mapUpdate DoU
  simp only [Sem.run_bind, run_underlying hT, Result.andThen, MapKept.run_getObj_map hb, run_checkKey hd (hE.key a)]
  rcases mfound hE hr a with ⟨h1, _, h2, _⟩ | ⟨j, x, h1, hj, h0, _, h2, _⟩
  · simp only [run_findKey hd h1, Result.andThen]
    obtain ⟨e1, h3⟩ := h.setMap (P := P) (es' := es.push { key := enc a, val := cV v, born := c }) (c' := c + 1)
    refine ⟨_, _, e1, hk _ (MapR.shuts ⟨?_, stamps_push hst _ _⟩ h3)⟩
    rw [h2]
    simp only [mrel, Array.toList_push, List.map_append, List.map_cons, List.map_nil]
    rw [show es.toList.map (fun e => (e.key, e.val)) = _ from hr]
  · have hes : ∃ e, es.toList[j]? = some e ∧ e.key = enc a := by
      have := mrel_at hr j
      rw [h0] at this
      cases he : es.toList[j]? with
      | none => rw [he] at this; simp at this
      | some e =>
        rw [he] at this
        simp only [Option.map_some, Option.some.injEq, Prod.mk.injEq] at this
        exact ⟨e, rfl, this.1⟩
    obtain ⟨e, he, hek⟩ := hes
    have he2 : es[j]? = some e := by rw [← he, Array.getElem?_toList]
    simp only [run_findKey hd h1, Result.andThen, Sem.run_bind, he2, Option.map_some, Option.getD_some, hek, Instr.keyThatStays, hE.bits, if_true, Sem.run_pure]
    obtain ⟨e1, h3⟩ := h.setMap (P := P) (es' := es.modify j fun e => { e with key := enc a, val := cV v }) (c' := c)
    refine ⟨_, _, e1, hk _ (MapR.shuts ⟨?_, stamps_modify hst _ _ _⟩ h3)⟩
    rw [h2]
    simp only [mrel]
    apply List.ext_getElem?
    intro i
    have hi := mrel_at hr i
    simp only [List.getElem?_map, Array.getElem?_toList, Array.getElem?_modify] at hi ⊢
    by_cases hij : j = i
    · subst hij
      rw [List.getElem?_set_self hj, he2]
      simp
    · rw [List.getElem?_set_ne hij, if_neg hij]
      exact hi

theorem r_mdelete {T KT E t : TypeId} {d : TypeDesc} {b : Nat} {m : List (α × β)} {a : α} {k : Value → K} (hT : mapIs P T d E) (hE : KeyE d enc) (h : Holds B (MapR enc cV b m :: Γ) w)
    (hk : ∀ w', Holds B (MapR enc cV b (mdel a m) :: Γ) w' → k (.tuple #[]) w') : Do P (Builtin.delete_ #[T, KT] t #[.map (some b), enc a]) id k w := by
  obtain ⟨kt, hT, hd⟩ := hT
  obtain ⟨es, c, ⟨hr, hst⟩, h⟩ := MapR.opens h
  have hb := h.block
  have hlen : es.size = m.length := by have := congrArg List.length hr; simpa using this
  have e0 : #[T, KT][0]? = some T := rfl
  have e1 : #[Value.map (some b), enc a][0]? = some (.map (some b)) := rfl
  have e2 : #[Value.map (some b), enc a][1]? = some (enc a) := rfl
  unfold Builtin.delete_ Do
  simp only [e0, e1, e2, Sem.run_bind, run_underlying hT, Result.andThen, MapKept.run_getObj_map hb, run_checkKey hd (hE.key a)]
  rcases mfound hE hr a with ⟨h1, _, _, h2⟩ | ⟨j, x, h1, hj, h0, _, _, h2⟩
  · simp only [run_findKey hd h1, Result.andThen, Sem.run_bind]
    obtain ⟨e3, h3⟩ := h.setMap (P := P) (es' := es) (c' := c)
    refine ⟨.tuple #[], _, ?_, hk _ (MapR.shuts ⟨?_, hst⟩ h3)⟩
    · simp only [Sem.run_bind, e3, Result.andThen, Sem.run_pure]; rfl
    rw [h2]; exact hr
  · simp only [run_findKey hd h1, Result.andThen, Sem.run_bind]
    obtain ⟨e3, h3⟩ := h.setMap (P := P) (es' := es.eraseIdxIfInBounds j) (c' := c)
    refine ⟨.tuple #[], _, ?_, hk _ (MapR.shuts ⟨?_, stamps_erase hst _⟩ h3)⟩
    · simp only [Sem.run_bind, e3, Result.andThen, Sem.run_pure]; rfl
    rw [h2]
    have hjs : j < es.size := by omega
    simp only [mrel, Array.eraseIdxIfInBounds, dif_pos hjs, Array.toList_eraseIdx]
    have mape : ∀ {α β : Type} (f : α → β) (l : List α) (i : Nat), (l.eraseIdx i).map f = (l.map f).eraseIdx i := by
      intro α β f l
      induction l with
      | nil => intro i; simp
      | cons x l ih => intro i; cases i <;> simp [ih]
    rw [mape, mape, show es.toList.map (fun e => (e.key, e.val)) = _ from hr]

theorem r_mclear {T t : TypeId} {d : TypeDesc} {E : TypeId} {b : Nat} {m : List (α × β)} {k : Value → K} (hT : mapIs P T d E) (h : Holds B (MapR enc cV b m :: Γ) w)
    (hk : ∀ w', Holds B (MapR enc cV b [] :: Γ) w' → k (.tuple #[]) w') : Do P (Builtin.clear_ #[T] t #[.map (some b)]) id k w := by
  obtain ⟨kt, hT, hd⟩ := hT
  obtain ⟨es, c, ⟨hr, hst⟩, h⟩ := MapR.opens h
  have hb := h.block
  have e0 : #[T][0]? = some T := rfl
  have e1 : #[Value.map (some b)][0]? = some (.map (some b)) := rfl
  unfold Builtin.clear_ Do
  simp only [e0, e1, Sem.run_bind, run_underlying hT, Result.andThen, MapKept.run_getObj_map hb]
  obtain ⟨e3, h3⟩ := h.setMap (P := P) (es' := #[]) (c' := c)
  exact ⟨.tuple #[], _, by simp only [Sem.run_bind, e3, Result.andThen, Sem.run_pure]; rfl, hk _ (MapR.shuts (es := #[]) (m := []) ⟨rfl, stamps_nil _⟩ h3)⟩
end
section
variable {α β γ : Type} [DecidableEq α]
theorem mget_map (g : β → γ) (k : α) : ∀ m : List (α × β), mget k (m.map fun p => (p.1, g p.2)) = (mget k m).map g
  | [] => rfl
  | p :: m => by
    simp only [List.map_cons, mget]
    split
    · rfl
    · exact mget_map g k m
theorem mdel_map (g : β → γ) (k : α) : ∀ m : List (α × β), mdel k (m.map fun p => (p.1, g p.2)) = (mdel k m).map fun p => (p.1, g p.2)
  | [] => rfl
  | p :: m => by
    simp only [List.map_cons, mdel]
    split
    · rfl
    · rw [List.map_cons, mdel_map g k m]
theorem mset_map (g : β → γ) (k : α) (v : β) : ∀ m : List (α × β), mset k (g v) (m.map fun p => (p.1, g p.2)) = (mset k v m).map fun p => (p.1, g p.2)
  | [] => rfl
  | p :: m => by
    simp only [List.map_cons, mset]
    split
    · rfl
    · rw [List.map_cons, mset_map g k v m]
theorem mset_none {k : α} {v : β} {m : List (α × β)} (h : mget k m = none) : mset k v m = m ++ [(k, v)] := by
  rcases mfind k m with ⟨_, h2, _⟩ | ⟨_, _, _, _, _, h1, _⟩
  · exact h2 v
  · rw [h] at h1; cases h1
theorem mdel_len {k : α} {m : List (α × β)} {x : β} (h : mget k m = some x) : (mdel k m).length + 1 = m.length := by
  rcases mfind k m with ⟨h1, _⟩ | ⟨j, _, hj, _, _, _, _, h2⟩
  · rw [h] at h1; cases h1
  · rw [h2, List.length_eraseIdx, if_pos hj]; omega
end
end Go.Sep
/- Maps of one's own, and lists of what is owned. Holds for every program. -/
namespace Go.Sep
open Go Go.RowKit
set_option linter.unusedSimpArgs false
set_option linter.unusedVariables false
section
variable {α β : Type} [DecidableEq α] {P : Program} {B w : World} {Γ Δ : List HProp} {enc : α → Value} {cV : β → Value} {k : K}
instance (priority := high) own_map {α β : Type} [DecidableEq α] {enc : α → Value} {cV : β → Value} {b : Nat} {m : List (α × β)} {Γ : List HProp} : Own b (MapR enc cV b m :: Γ) (MapR enc cV b m) Γ := ⟨.refl _⟩
theorem s_mkMap {T : TypeId} {k : Option Nat → K} (h : ∀ b, HG B (MapR enc cV b [] :: Γ) (k (some b))) : HG B Γ (Do P (Instr.makeMap T none) Value.map k) := fun w hw => by
  refine ⟨some w.heap.size, { w with heap := w.heap.push (.map #[] 0) }, rfl, h _ _ (MapR.shuts (es := #[]) (c := 0) ⟨rfl, stamps_nil 0⟩ (hw.alloc _))⟩
theorem s_look2 {γ : Type} {cG : γ → Value} {g : β → γ} {T E : TypeId} {d : TypeDesc} {b : Nat} {m : List (α × β)} {z : β} {a : α} {k : γ → Bool → K} (hc : ∀ x, cV x = cG (g x)) (hT : mapIs P T d E) (hE : KeyE d enc) (hz : zeroT P E (cV z)) (h : HG B Γ (k (g ((mget a m).getD z)) (mget a m).isSome)) [p : Own b Γ (MapR enc cV b m) Δ] :
    HG B Γ (Rd2 P (Instr.lookup T (.map (some b)) (enc a) true) (fun x y => .tuple #[cG x, .bool y]) k) := fun w hw => r_look2g hc hT hE hz (hw.perm p.perm) (h w hw)
theorem s_look1 {γ : Type} {cG : γ → Value} {g : β → γ} {T E : TypeId} {d : TypeDesc} {b : Nat} {m : List (α × β)} {z : β} {a : α} {k : γ → K} (hc : ∀ x, cV x = cG (g x)) (hT : mapIs P T d E) (hE : KeyE d enc) (hz : zeroT P E (cV z)) (h : HG B Γ (k (g ((mget a m).getD z)))) [p : Own b Γ (MapR enc cV b m) Δ] :
    HG B Γ (Rd P (Instr.lookup T (.map (some b)) (enc a) false) cG k) := fun w hw => by
  obtain ⟨x, hx, hk⟩ := r_look1 (P := P) (T := T) (a := a) (k := fun y w => y = (mget a m).getD z ∧ k (g y) w) hT hE hz (hw.perm p.perm) ⟨rfl, h w hw⟩
  obtain ⟨rfl, hk⟩ := hk
  exact ⟨_, by rw [hx, hc], hk⟩
theorem s_upd {γ : Type} {cG : γ → Value} {T E : TypeId} {d : TypeDesc} {b : Nat} {m : List (α × β)} {a : α} {v : β} {x : Value} (hx : x = cV v) (hT : mapIs P T d E) (hE : KeyE d enc) (h : HG B (MapR enc cV b (mset a v m) :: Δ) k) [p : Own b Γ (MapR enc cV b m) Δ] :
    HG B Γ (DoU P (Instr.mapUpdate T (.map (some b)) (enc a) x) k) := fun w hw => by subst hx; exact r_upd hT hE (hw.perm p.perm) fun w' h' => h w' h'
theorem s_mdelete {T KT E t : TypeId} {d : TypeDesc} {b : Nat} {m : List (α × β)} {a : α} {k : Value → K} (hT : mapIs P T d E) (hE : KeyE d enc) (h : HG B (MapR enc cV b (mdel a m) :: Δ) (k (.tuple #[]))) [p : Own b Γ (MapR enc cV b m) Δ] :
    HG B Γ (Do P (Builtin.delete_ #[T, KT] t #[.map (some b), enc a]) id k) := fun w hw => r_mdelete hT hE (hw.perm p.perm) fun w' h' => h w' h'
theorem s_bldF {zero : Array Value} {pl : Nat → Option (Nat × Nat)} {vs : List (Nat × Value)} {cs : List Value} {k : Array Value → K} (h : HG B Γ (k cs.toArray)) (hc : Instr.fill pl zero vs = some cs.toArray := by rfl) : HG B Γ (Bld zero pl vs k) := fun w hw => ⟨_, hc, h w hw⟩
/-- What is owned of each entry, when one is set. -/
theorem s_mset {F : α × β → HProp} {m : List (α × β)} {a : α} {v : β} (h : HG B (Sep.stars ((mset a v m).map F) :: Γ) k) : HG B (F (a, v) :: Sep.stars (m.map F) :: Γ) k := by
  rcases mfind a m with ⟨_, h2, _, _⟩ | ⟨j, x, hj, h0, _, _, h2, _⟩
  · rw [h2 v] at h
    have e : m = m ++ [] := by simp
    rw [e]
    exact s_unmid (A := m) (C := []) (x := (a, v)) h
  · rw [h2 v] at h
    have hj' := List.getElem?_eq_some_iff.1 h0
    have e1 : m = m.take j ++ (a, x) :: m.drop (j + 1) := by
      obtain ⟨h3, h4⟩ := hj'
      rw [← h4, ← List.drop_eq_getElem_cons h3, List.take_append_drop]
    have e2 : m.set j (a, v) = m.take j ++ (a, v) :: m.drop (j + 1) := by
      rw [List.set_eq_take_append_cons_drop, if_pos hj]
    rw [e2] at h
    rw [e1]
    refine s_swap ?_
    refine s_mid ?_
    refine s_end (Δ := F (a, v) :: Sep.stars ((m.take j ++ m.drop (j + 1)).map F) :: Γ) ?_
    exact s_unmid h
theorem mget_mset (m : List (α × β)) (a a' : α) (v : β) : mget a' (mset a v m) = if a' = a then some v else mget a' m := by
  induction m with
  | nil => simp [mset, mget]
  | cons p m ih =>
    unfold mset
    split
    · rename_i h
      subst h
      by_cases h2 : a' = p.1 <;> simp [mget, h2]
    · rename_i h
      by_cases h2 : a' = p.1
      · simp [mget, h2]
        intro h3; exact absurd h3.symm h
      · simp [mget, h2, ih]
theorem mset_keys (m : List (α × β)) (a : α) (v : β) : (mset a v m).map Prod.fst = if a ∈ m.map Prod.fst then m.map Prod.fst else m.map Prod.fst ++ [a] := by
  induction m with
  | nil => simp [mset]
  | cons p m ih =>
    unfold mset
    split
    · rename_i h; simp [h]
    · rename_i h
      simp only [List.map_cons, ih, List.mem_cons, h, false_or]
      split <;> simp
theorem mget_some {m : List (α × β)} {a : α} {v : β} (h : mget a m = some v) : (a, v) ∈ m := by
  induction m with
  | nil => cases h
  | cons p m ih =>
    unfold mget at h
    split at h
    · rename_i h1; injection h with h; subst h1; subst h; exact List.mem_cons_self
    · exact List.mem_cons_of_mem _ (ih h)
end
end Go.Sep
/- Steps that ask for no word of mine: what a word reads, and what it leaves, is found by classes. Holds for every program. -/
namespace Go.Sep
open Go Go.RowKit
set_option linter.unusedSimpArgs false
set_option linter.unusedVariables false

/-- From k over Γ one step leads to j over Δ. -/
class Nx (B : World) (Γ : List HProp) (k : K) (Δ : outParam (List HProp)) (j : outParam K) : Prop where h : HG B Δ j → HG B Γ k
class NthV (l : List Value) (n : Nat) (v : outParam Value) : Prop where h : nth l n = some v
class Cv {α : Type} (c : α → Value) (v : Value) (x : outParam α) : Prop where h : v = c x
class SetV (l : List Value) (n : Nat) (v : Value) (l' : outParam (List Value)) : Prop where h : l.set n v = l' ∧ n < l.length
class TakeV (l : List Value) (m n : Nat) (l' : outParam (List Value)) : Prop where h : (l.drop m).take n = l' ∧ l'.length = n
class FlatV (v : Value) : Prop where h : flatV v = true
class FlatL (l : List Value) : Prop where h : l.all flatV = true
class LenV (l : List Value) (n : outParam Nat) : Prop where h : l.length = n
class BoolV (b : Bool) (v : outParam Bool) : Prop where h : b = v
instance nthV0 {v : Value} {l : List Value} : NthV (v :: l) 0 v := ⟨rfl⟩
instance nthV1 {v u : Value} {l : List Value} {n : Nat} [h : NthV l n v] : NthV (u :: l) (n + 1) v := ⟨h.h⟩
instance cvBool {b : Bool} : Cv Value.bool (.bool b) b := ⟨rfl⟩
instance cvInt {k : IntKind} {n : Int} : Cv (Value.int k) (.int k n) n := ⟨rfl⟩
instance cvStr {b : ByteArray} : Cv Value.string (.string b) b := ⟨rfl⟩
instance cvPtr {p : Option Addr} : Cv Value.pointer (.pointer p) p := ⟨rfl⟩
instance cvMap {p : Option Nat} : Cv Value.map (.map p) p := ⟨rfl⟩
instance (priority := high) cvSl {s : Sl} : Cv Sl.val s.val s := ⟨rfl⟩
instance cvSl2 {a : Option Addr} {n c : Nat} : Cv Sl.val (.slice a n c) ⟨a, n, c⟩ := ⟨rfl⟩
instance cvId {v : Value} : Cv id v v := ⟨rfl⟩
instance cvAgg {v : Array Value} : Cv Value.agg (.agg v) v := ⟨rfl⟩
instance setV0 {v u : Value} {l : List Value} : SetV (u :: l) 0 v (v :: l) := ⟨⟨rfl, Nat.zero_lt_succ _⟩⟩
instance setV1 {v u : Value} {l l' : List Value} {n : Nat} [h : SetV l n v l'] : SetV (u :: l) (n + 1) v (u :: l') := ⟨⟨by rw [List.set_cons_succ, h.h.1], Nat.succ_lt_succ h.h.2⟩⟩
instance takeV0 {l : List Value} : TakeV l 0 0 [] := ⟨⟨rfl, rfl⟩⟩
instance takeV1 {u : Value} {l l' : List Value} {n : Nat} [h : TakeV l 0 n l'] : TakeV (u :: l) 0 (n + 1) (u :: l') := ⟨⟨by have := h.h.1; rw [List.drop_zero] at this ⊢; rw [List.take_succ_cons, this], by rw [List.length_cons, h.h.2]⟩⟩
instance takeV2 {u : Value} {l l' : List Value} {m n : Nat} [h : TakeV l m n l'] : TakeV (u :: l) (m + 1) n l' := ⟨h.h⟩
instance flatVB {b : Bool} : FlatV (.bool b) := ⟨rfl⟩
instance flatVI {k : IntKind} {n : Int} : FlatV (.int k n) := ⟨rfl⟩
instance flatVS {b : ByteArray} : FlatV (.string b) := ⟨rfl⟩
instance flatVP {p : Option Addr} : FlatV (.pointer p) := ⟨rfl⟩
instance flatVM {p : Option Nat} : FlatV (.map p) := ⟨rfl⟩
instance flatVSl {a : Option Addr} {n c : Nat} : FlatV (.slice a n c) := ⟨rfl⟩
instance flatL0 : FlatL [] := ⟨rfl⟩
instance flatL1 {v : Value} {l : List Value} [h : FlatV v] [g : FlatL l] : FlatL (v :: l) := ⟨by rw [List.all_cons, h.h, g.h]; rfl⟩
instance lenV0 : LenV [] 0 := ⟨rfl⟩
instance lenV1 {v : Value} {l : List Value} {n : Nat} [h : LenV l n] : LenV (v :: l) (n + 1) := ⟨by rw [List.length_cons, h.h]⟩
instance boolVT : BoolV true true := ⟨rfl⟩
instance boolVF : BoolV false false := ⟨rfl⟩
instance boolVN1 {b : Bool} [h : BoolV b true] : BoolV (!b) false := ⟨by rw [h.h]; rfl⟩
instance boolVN0 {b : Bool} [h : BoolV b false] : BoolV (!b) true := ⟨by rw [h.h]; rfl⟩
instance boolVS {α : Type} {x : α} : BoolV (some x).isNone false := ⟨rfl⟩
instance boolV0 {α : Type} : BoolV (none : Option α).isNone true := ⟨rfl⟩
instance (priority := high) adr_add0 {b n : Nat} : AdrIs ((⟨b, 0, none⟩ : Addr).add n) b n := ⟨by rw [add_mk, Nat.zero_add]⟩

section
variable {B : World} {Γ Δ Γ0 : List HProp} {k j : K}
theorem s_wsD {k : (World → Prop) → K} (Γ0 : List HProp) (h : HG B Γ (k (Holds B Γ0))) [d : Drops Γ Γ0] : HG B Γ (WithS k) := fun w hw => ⟨Holds B Γ0, hw.drops, h w hw⟩
theorem s_nx (h : HG B Δ j) [n : Nx B Γ k Δ j] : HG B Γ k := n.h h
instance nx_nn {a : Addr} {k : Addr → K} : Nx B Γ (Nn (some a) k) Γ (k a) := ⟨s_nn⟩
instance nx_dr : Nx B Γ (Dr k) Γ k := ⟨s_dr⟩
instance nx_ws {k : (World → Prop) → K} : Nx B Γ (WithS k) Γ (k (Holds B Γ)) := ⟨s_ws⟩
instance nx_sv [d : Drops Γ Δ] : Nx B Γ (Sv (Holds B Δ) k) Γ k := ⟨fun h => s_sv h⟩
instance nx_ld {α : Type} {a : Addr} {b off : Nat} {l : List Value} {T : TypeId} {fz : Nat × Nat} {c : α → Value} {v : Value} {x : α} {k : α → K} [ad : AdrIs a b off] [p : Own b Γ (blk b (.cells l.toArray T fz)) Δ] [n : NthV l off v] [e : Cv c v x] : Nx B Γ (Ld a c k) Γ (k x) := ⟨fun h => s_ld h (by rw [n.h, e.h])⟩
instance nx_ldS {α : Type} {a : Addr} {b off : Nat} {l : List Value} {T : TypeId} {fz : Nat × Nat} {c : α → Value} {v : Value} {x : α} {k : α → K} [ad : AdrIs a b off] [p : Own b Γ0 (blk b (.cells l.toArray T fz)) Δ] [n : NthV l off v] [e : Cv c v x] : Nx B Γ (LdS (Holds B Γ0) a c k) Γ (k x) := ⟨fun h => s_ldS h (by rw [n.h, e.h])⟩
instance nx_ldN {a : Addr} {b off n : Nat} {l l' : List Value} {T : TypeId} {fz : Nat × Nat} {k : Array Value → K} [ad : AdrIs a b off] [p : Own b Γ (blk b (.cells l.toArray T fz)) Δ] [t : TakeV l off n l'] : Nx B Γ (LdN a n k) Γ (k l'.toArray) := ⟨fun h => s_ldN h t.h.1 t.h.2⟩
instance nx_ldNS {a : Addr} {b off n : Nat} {l l' : List Value} {T : TypeId} {fz : Nat × Nat} {k : Array Value → K} [ad : AdrIs a b off] [p : Own b Γ0 (blk b (.cells l.toArray T fz)) Δ] [t : TakeV l off n l'] : Nx B Γ (LdNS (Holds B Γ0) a n k) Γ (k l'.toArray) := ⟨fun h => s_ldNS h t.h.1 t.h.2⟩
instance nx_st {a : Addr} {b off : Nat} {l l' : List Value} {T : TypeId} {v : Value} [ad : AdrIs a b off] [p : Own b Γ (blk b (.cells l.toArray T (0, 0))) Δ] [s : SetV l off v l'] [f : FlatV v] : Nx B Γ (St a v k) (blk b (.cells l'.toArray T (0, 0)) :: Δ) k := ⟨fun h => s_st h (Nat.ble_eq_true_of_le s.h.2) s.h.1 f.h⟩
instance nx_stN {a : Addr} {b n : Nat} {l l' : List Value} {T : TypeId} [ad : AdrIs a b 0] [p : Own b Γ (blk b (.cells l.toArray T (0, 0))) Δ] [h1 : LenV l n] [h2 : LenV l' n] [f : FlatL l'] : Nx B Γ (StN a n l'.toArray k) (blk b (.cells l'.toArray T (0, 0)) :: Δ) k := ⟨fun h => s_stN h h1.h h2.h f.h⟩
instance nx_fld {α : Type} {l : List Value} {off : Nat} {c : α → Value} {v : Value} {x : α} {k : α → K} [n : NthV l off v] [e : Cv c v x] : Nx B Γ (Fld l.toArray off c k) Γ (k x) := ⟨fun h => s_fld h (by rw [n.h, e.h])⟩
instance nx_bld1 {zero cs : List Value} {n : Nat} {k : Array Value → K} [h1 : LenV zero n] [h2 : LenV cs n] : Nx B Γ (Bld zero.toArray (fun i => some (i * n, n)) [(0, .agg cs.toArray)] k) Γ (k cs.toArray) := ⟨fun h => s_bld1 h h1.h h2.h⟩
instance nx_t {b : Bool} {x y : K} [h : BoolV b true] : Nx B Γ (Ite b x y) Γ x := ⟨fun g => s_t g h.h⟩
instance nx_f {b : Bool} {x y : K} [h : BoolV b false] : Nx B Γ (Ite b x y) Γ y := ⟨fun g => s_f g h.h⟩
end
/-! ### structs from parts -/
class CellsV (v : Value) (us : outParam (List Value)) : Prop where h : v.cells = us.toArray
class OverV (z : List Value) (off : Nat) (us : List Value) (z' : outParam (List Value)) : Prop where h : off + us.length ≤ z.length ∧ z' = z.take off ++ us ++ z.drop (off + us.length)
class PlaceV (pl : List (Nat × Nat)) (i : Nat) (off n : outParam Nat) : Prop where h : pl[i]? = some (off, n)
class FillV (pl : List (Nat × Nat)) (z : List Value) (ps : List (Nat × Value)) (cs : outParam (List Value)) : Prop where h : Instr.fill (pl[·]?) z.toArray ps = some cs.toArray
instance cellsVA {l : List Value} : CellsV (.agg l.toArray) l := ⟨rfl⟩
instance cellsVB {b : Bool} : CellsV (.bool b) [.bool b] := ⟨rfl⟩
instance cellsVI {k : IntKind} {n : Int} : CellsV (.int k n) [.int k n] := ⟨rfl⟩
instance cellsVS {b : ByteArray} : CellsV (.string b) [.string b] := ⟨rfl⟩
instance cellsVP {p : Option Addr} : CellsV (.pointer p) [.pointer p] := ⟨rfl⟩
instance cellsVM {p : Option Nat} : CellsV (.map p) [.map p] := ⟨rfl⟩
instance cellsVSl {a : Option Addr} {n c : Nat} : CellsV (.slice a n c) [.slice a n c] := ⟨rfl⟩
instance overV0 {z : List Value} : OverV z 0 [] z := ⟨⟨by simp, by simp⟩⟩
instance overV1 {v u : Value} {z us z' : List Value} [h : OverV z 0 us z'] : OverV (v :: z) 0 (u :: us) (u :: z') := ⟨by
  obtain ⟨h1, h2⟩ := h.h
  simp only [Nat.zero_add, List.take_zero, List.nil_append] at h1 h2
  refine ⟨by simp; omega, ?_⟩
  simp only [List.length_cons, Nat.zero_add, List.take_zero, List.nil_append, List.drop_succ_cons, List.cons_append]
  rw [h2]⟩
instance overV2 {v : Value} {z us z' : List Value} {off : Nat} [h : OverV z off us z'] : OverV (v :: z) (off + 1) us (v :: z') := ⟨by
  obtain ⟨h1, h2⟩ := h.h
  refine ⟨by simp; omega, ?_⟩
  rw [h2, show off + 1 + us.length = (off + us.length) + 1 by omega]
  simp⟩
instance placeV0 {o n : Nat} {pl : List (Nat × Nat)} : PlaceV ((o, n) :: pl) 0 o n := ⟨rfl⟩
instance placeV1 {x : Nat × Nat} {o n i : Nat} {pl : List (Nat × Nat)} [h : PlaceV pl i o n] : PlaceV (x :: pl) (i + 1) o n := ⟨h.h⟩
instance fillV0 {pl : List (Nat × Nat)} {z : List Value} : FillV pl z [] z := ⟨rfl⟩
theorem fill_part {pl : Nat → Option (Nat × Nat)} {z us z' : List Value} {i off : Nat} {v : Value} {ps : List (Nat × Value)} (hp : pl i = some (off, us.length)) (hc : v.cells = us.toArray) (h : off + us.length ≤ z.length ∧ z' = z.take off ++ us ++ z.drop (off + us.length)) :
    Instr.fill pl z.toArray ((i, v) :: ps) = Instr.fill pl z'.toArray ps := by
  obtain ⟨h1, rfl⟩ := h
  rw [Instr.fill, hp, hc]
  simp only [List.size_toArray]
  rw [if_neg (by simp; omega)]
  congr 1
  have hl : (z.take off).length = off := by rw [List.length_take]; omega
  have key : ∀ (us m pre C : List Value), pre.length = off → m.length = us.length → ∀ (o : Nat) (pre2 : List Value), pre2.length = off + o → (us.zipIdx o).foldl (fun (cs : Array Value) (p : Value × Nat) => cs.setIfInBounds (off + p.2) p.1) (pre2 ++ m ++ C).toArray = (pre2 ++ us ++ C).toArray := by
    intro us
    induction us with
    | nil => intro m pre C _ hm o pre2 _; rw [List.length_eq_zero_iff.1 hm]; rfl
    | cons u us ih =>
      intro m pre C hp hm o pre2 hp2
      cases m with
      | nil => simp at hm
      | cons x m =>
        simp only [List.zipIdx_cons, List.foldl_cons]
        have e : (pre2 ++ x :: m ++ C).toArray.setIfInBounds (off + o) u = ((pre2 ++ [u]) ++ m ++ C).toArray := by
          apply Array.ext'
          rw [← hp2]
          simp
        rw [e, ih m pre C hp (by simpa using hm) (o + 1) (pre2 ++ [u]) (by simp; omega)]
        simp
  have e : z = z.take off ++ (z.drop off).take us.length ++ z.drop (off + us.length) := by
    rw [← List.drop_drop, List.append_assoc, List.take_append_drop, List.take_append_drop]
  have h3 := key us ((z.drop off).take us.length) (z.take off) (z.drop (off + us.length)) hl (by rw [List.length_take, List.length_drop]; omega) 0 (z.take off) (by omega)
  rw [← e] at h3
  rw [← Array.foldl_toList, Array.toList_zipIdx]
  exact h3
instance fillV1 {pl : List (Nat × Nat)} {z z' us cs : List Value} {i off n : Nat} {v : Value} {ps : List (Nat × Value)} [p : PlaceV pl i off n] [c : CellsV v us] [l : LenV us n] [o : OverV z off us z'] [f : FillV pl z' ps cs] : FillV pl z ((i, v) :: ps) cs :=
  ⟨by rw [fill_part (by rw [l.h]; exact p.h) c.h o.h]; exact f.h⟩
instance nx_bld {pl : List (Nat × Nat)} {B : World} {Γ : List HProp} {z cs : List Value} {ps : List (Nat × Value)} {k : Array Value → K} [f : FillV pl z ps cs] : Nx B Γ (Bld z.toArray (pl[·]?) ps k) Γ (k cs.toArray) := ⟨fun h w hw => ⟨_, f.h, h w hw⟩⟩
end Go.Sep
/- A B-tree: a kid is filled up from its right, or joined. Holds for every program. -/
namespace Go.Sep
open Go Go.RowKit
set_option linter.unusedSimpArgs false
set_option linter.unusedVariables false
namespace Bt
section
variable {κ : Type} {G : BtD κ} {c : κ → κ → Int} {B : World} {Γ Δ : List HProp}
theorem kp_at {L : List (Kid G.toBtT)} {i : Nat} {q : Kid G.toBtT} (h : L[i]? = some q) : ((L.map ptr).map Value.pointer)[i * 1]? = some (Value.pointer (ptr q)) := by simp [h]
theorem at_mid2 {α : Type} {A C : List α} {x y : α} : (A ++ x :: y :: C)[A.length + 1]? = some y := by
  rw [List.getElem?_append_right (by omega), show A.length + 1 - A.length = 1 by omega]; rfl
theorem del_first {x : G.It} {its : List G.It} : ((x :: its).flatMap G.f).take (0 * (G.nv + 1)) ++ ((x :: its).flatMap G.f).drop (1 * (G.nv + 1)) = its.flatMap G.f := by
  rw [flatMap_drop G.f_len]; simp
theorem del_firstK {p : Kid G.toBtT} {kp : List (Kid G.toBtT)} : (((p :: kp).map ptr).map Value.pointer).take (0 * 1) ++ (((p :: kp).map ptr).map Value.pointer).drop (1 * 1) = (kp.map ptr).map Value.pointer := by simp
theorem del_mid {A C : List G.It} {x : G.It} : ((A ++ x :: C).flatMap G.f).take (A.length * (G.nv + 1)) ++ ((A ++ x :: C).flatMap G.f).drop ((A.length + 1) * (G.nv + 1)) = (A ++ C).flatMap G.f := by
  rw [flatMap_take G.f_len, flatMap_drop G.f_len, List.take_left, show A ++ x :: C = (A ++ [x]) ++ C by simp, List.drop_left' (by simp)]; simp
theorem del_midK {A C : List (Kid G.toBtT)} {p q : Kid G.toBtT} : (((A ++ p :: q :: C).map ptr).map Value.pointer).take ((A.length + 1) * 1) ++ (((A ++ p :: q :: C).map ptr).map Value.pointer).drop ((A.length + 2) * 1) = ((A ++ p :: C).map ptr).map Value.pointer := by
  rw [Nat.mul_one, Nat.mul_one, ← List.map_take, ← List.map_take, ← List.map_drop, ← List.map_drop]
  rw [show A ++ p :: q :: C = (A ++ [p]) ++ q :: C by simp, List.take_left' (by simp), show (A ++ [p]) ++ q :: C = (A ++ [p, q]) ++ C by simp, List.drop_left' (by simp)]
  simp

theorem s_turnR (ok : BtDOk G c) {d n : Nat} {s kd sr kr sq kq : Sl} {A C : List (Kid G.toBtT)} {q r : Kid G.toBtT} {IA IC ir iq : List G.It} {x y : G.It} {cr cq : List (Kid G.toBtT)} {i : Int} {Q : K}
    (hi : i = (A.length : Int)) (hA : IA.length = A.length) (hl : IA.length + IC.length ≤ 5) (hC : C.length = IC.length) (hr : 1 ≤ ir.length ∧ ir.length ≤ 5) (hq : iq.length ≤ 1) (hfr : Fit d (y :: ir) cr) (hfq : Fit d iq cq)
    (h : ∀ Q' R', Q' ++ y :: R' = wv iq cq ++ x :: wv (y :: ir) cr → ∀ s' kd', HG B (nodeB G.toBtT n s' kd' :: itsR G.toBtT s' (IA ++ y :: IC) :: kpsR G.toBtT kd' ((A ++ q :: r :: C).map ptr) :: NodeR G.toBtT d 2 q.1 Q' :: NodeR G.toBtT d 2 r.1 R' :: Γ) Q) :
    HG B (nodeB G.toBtT n s kd :: itsR G.toBtT s (IA ++ x :: IC) :: kpsR G.toBtT kd ((A ++ q :: r :: C).map ptr) :: rawL G.toBtT d q.1 sq kq iq cq (rawL G.toBtT d r.1 sr kr (y :: ir) cr Γ)) (nmend_s2 G Q ⟨n, 0, none⟩ i ⟨q.1, 0, none⟩ true) := by
  subst hi
  have okT := ok.toBtOk
  obtain ⟨cz, cr', rfl, hfz, hf2⟩ := fit_split (i1 := []) (x := y) (i2 := ir) hfr
  refine s_cap s fun a1 a2 a3 a4 => ?_
  refine s_cap kd fun b1 b2 b3 b4 => ?_
  refine s_cap sr fun c1 c2 c3 c4 => ?_
  refine s_cap kr fun d1 d2 d3 d4 => ?_
  refine s_cap sq fun e1 e2 e3 e4 => ?_
  refine s_cap kq fun f1 f2 f3 f4 => ?_
  have hsn := its_n a1
  have hkn := kps_n b1
  have hsrn := its_n c1
  have hkrn := kps_n d1
  have hsqn := its_n e1
  have hkqn := kps_n f1
  simp only [List.length_append, List.length_cons, List.length_nil, List.length_map] at hsn hkn hsrn hkrn hsqn hkqn
  unfold nmend_s2
  repeat first | refine s_nx ?_ | refine s_ai ?_
  refine s_idx (s := kd) (i := A.length + 1) ?_
  refine s_ldE0 (s := kd) (x := ptr r) (kp_at at_mid2) ?_
  repeat first | refine s_nx ?_ | refine s_ai ?_
  refine s_idx (s := s) (i := A.length) ?_
  refine s_ldElS (s := s) (x := x) G.f_len (by rw [← hA]; simp) ?_
  refine s_bld1 ?_ (by simp [okT.vz.1]) (G.f_len _)
  refine s_new fun t => ?_
  repeat refine s_nx ?_
  refine s_append (s := sq) (us := G.f x) (blk_rd (G.f_len x)) (f_flat okT x) (by simp only; omega) (hT := okT.TI) fun sq' hsq' => ?_
  rw [show iq.flatMap G.f ++ G.f x = (iq ++ [x]).flatMap G.f by simp]
  repeat refine s_nx ?_
  refine s_nn ?_
  repeat refine s_nx ?_
  refine s_idx (s := sr) (i := 0) ?_
  refine s_ldEl (s := sr) (x := y) G.f_len rfl ?_
  refine s_idx (s := s) (i := IA.length) ?_
  refine s_stEl (s := s) (A := IA) (x := x) (y := y) G.f_len (flat_f okT y) ?_
  repeat refine s_nx ?_
  obtain ⟨Z, hdel⟩ := ok.delI
  refine fun w hw => hdel _ _ _ _ _ ?_
  refine hg hw ?_
  clear hw w
  refine s_del (s := sr) (i := 0) (j := 1) (by omega) (by omega) (by omega) (fl_flat okT _) (fun sr' hsr' => ?_) okT.TI
  rw [del_first]
  repeat refine s_nx ?_
  have fin : ∀ sr2 kr2 sq2 kq2, HG B (rawL G.toBtT d q.1 sq2 kq2 (iq ++ [x]) (cq ++ cz) (rawL G.toBtT d r.1 sr2 kr2 ir cr' (nodeB G.toBtT n s kd :: itsR G.toBtT s (IA ++ y :: IC) :: kpsR G.toBtT kd ((A ++ q :: r :: C).map ptr) :: Γ))) Q := fun sr2 kr2 sq2 kq2 => by
    refine s_unraw (m := 2) (fit_app (i2 := []) hfq hfz) (by simp; omega) (fun _ => .inr (by simp)) ?_
    refine s_pick (kidsD G.toBtT d cr') ?_
    refine s_ownS kr2 ?_
    refine s_ownS sr2 ?_
    refine s_own r.1 ?_
    refine s_unraw (m := 2) hf2 hr.2 (fun _ => .inr fun h => by rw [h] at hr; simp at hr) ?_
    refine s_end (h (wv (iq ++ [x]) (cq ++ cz)) (wv ir cr') ?_ s kd)
    rw [wv_app (i2 := []) hfq hfz, show y :: ir = [] ++ y :: ir from rfl, wv_app hfz hf2]
    simp
  cases d with
  | zero =>
    have e1 : cr' = [] := hf2
    have e2 : cz = [] := hfz
    have e3 : cq = [] := hfq
    subst e1; subst e2; subst e3
    refine s_f ?_ (by simp at hkrn; simp [hkrn])
    simp only [List.append_nil] at fin ⊢
    exact s_end (fin sr' kr sq' kq)
  | succ d =>
    obtain ⟨z, rfl⟩ : ∃ z, cz = [z] := List.length_eq_one_iff.1 hfz
    have hcl : cr'.length = ir.length + 1 := hf2
    have hcql : cq.length = iq.length + 1 := hfq
    simp only [List.length_cons, List.length_nil] at hkrn
    refine s_t ?_ (by simp; omega)
    repeat refine s_nx ?_
    refine s_idx (s := kr) (i := 0) ?_
    refine s_ldES1 (s := kr) (c := Value.pointer) (L := ([z] ++ cr').map ptr) (x := ptr z) (by simp) ?_
    refine s_new fun t2 => ?_
    repeat refine s_nx ?_
    refine s_append (s := kq) (us := [Value.pointer (ptr z)]) (blk_rd rfl) (by simp [flatV]) (by simp only; omega) (hT := okT.TK) fun kq' hkq' => ?_
    rw [show (cq.map ptr).map Value.pointer ++ [Value.pointer (ptr z)] = ((cq ++ [z]).map ptr).map Value.pointer by simp]
    repeat refine s_nx ?_
    obtain ⟨Z2, hdel2⟩ := ok.delK
    refine fun w hw => hdel2 _ _ _ _ _ ?_
    refine hg hw ?_
    clear hw w
    refine s_del (s := kr) (i := 0) (j := 1) (by omega) (by omega) (by omega) (kp_flat _) (fun kr' hkr' => ?_) okT.TK
    rw [show (([z] ++ cr').map ptr) = ((z :: cr').map ptr) from rfl, del_firstK]
    repeat refine s_nx ?_
    refine s_pick (kidsD G.toBtT (d + 1) ([z] ++ cr')) ?_
    refine s_part ?_
    refine s_pick (kidsD G.toBtT (d + 1) [z]) ?_
    refine s_pick (kidsD G.toBtT (d + 1) cq) ?_
    refine s_join ?_
    exact s_end (fin sr' kr' sq' kq')

theorem s_merge (ok : BtDOk G c) {d n : Nat} {s kd sp kp sq kq : Sl} {A C : List (Kid G.toBtT)} {p q : Kid G.toBtT} {IA IC ip iq : List G.It} {x : G.It} {cp cq : List (Kid G.toBtT)} {i : Int} {k4 : Addr} {Q : K}
    (hi : (if (1 : Int) > i then 1 else i) = ((A.length + 1 : Nat) : Int)) (hA : IA.length = A.length) (hl : IA.length + IC.length ≤ 5) (hC : C.length = IC.length) (hp : ip.length + iq.length ≤ 4) (hfp : Fit d ip cp) (hfq : Fit d iq cq)
    (h : ∀ s' kd', HG B (nodeB G.toBtT n s' kd' :: itsR G.toBtT s' (IA ++ IC) :: kpsR G.toBtT kd' ((A ++ p :: C).map ptr) :: NodeR G.toBtT d 2 p.1 (wv ip cp ++ x :: wv iq cq) :: Γ) Q) :
    HG B (nodeB G.toBtT n s kd :: itsR G.toBtT s (IA ++ x :: IC) :: kpsR G.toBtT kd ((A ++ p :: q :: C).map ptr) :: rawL G.toBtT d p.1 sp kp ip cp (rawL G.toBtT d q.1 sq kq iq cq Γ)) (nmend_s2 G Q ⟨n, 0, none⟩ i k4 false) := by
  have okT := ok.toBtOk
  refine s_cap s fun a1 a2 a3 a4 => ?_
  refine s_cap kd fun b1 b2 b3 b4 => ?_
  refine s_cap sp fun c1 c2 c3 c4 => ?_
  refine s_cap kp fun d1 d2 d3 d4 => ?_
  refine s_cap sq fun e1 e2 e3 e4 => ?_
  refine s_cap kq fun f1 f2 f3 f4 => ?_
  have hsn := its_n a1
  have hkn := kps_n b1
  have hspn := its_n c1
  have hkpn := kps_n d1
  have hsqn := its_n e1
  have hkqn := kps_n f1
  simp only [List.length_append, List.length_cons, List.length_nil, List.length_map] at hsn hkn hspn hkpn hsqn hkqn
  have hks : cp.length ≤ 6 ∧ cq.length ≤ 6 := by
    cases d with
    | zero =>
      have e1 : cp = [] := hfp
      have e2 : cq = [] := hfq
      subst e1; subst e2; exact ⟨by simp, by simp⟩
    | succ d =>
      have e1 : cp.length = ip.length + 1 := hfp
      have e2 : cq.length = iq.length + 1 := hfq
      omega
  unfold nmend_s2
  repeat refine s_nx ?_
  refine s_ar hi ?_
  repeat first | refine s_nx ?_ | refine s_ai ?_
  refine s_idx (s := kd) (i := A.length) ?_
  refine s_ldE0 (s := kd) (x := ptr p) (kp_at at_mid) ?_
  repeat refine s_nx ?_
  refine s_idx (s := kd) (i := A.length + 1) ?_
  refine s_ldE0 (s := kd) (x := ptr q) (kp_at at_mid2) ?_
  refine s_dr ?_
  refine s_wsD [nodeB G.toBtT n s kd, itsR G.toBtT s (IA ++ x :: IC), nodeB G.toBtT p.1 sp kp, nodeB G.toBtT q.1 sq kq] ?_
  refine s_nn ?_
  refine s_ai ?_
  refine s_nn ?_
  repeat refine s_nx ?_
  refine s_idx (s := s) (i := A.length) ?_
  refine s_ldElS (s := s) (x := x) G.f_len (by rw [← hA]; simp) ?_
  repeat refine s_nx ?_
  refine s_bld1 ?_ (by simp [okT.vz.1]) (G.f_len _)
  refine s_new fun t => ?_
  repeat refine s_nx ?_
  refine s_append (s := sp) (us := G.f x) (blk_rd (G.f_len x)) (f_flat okT x) (by simp only; omega) (hT := okT.TI) fun sp1 hsp1 => ?_
  rw [show ip.flatMap G.f ++ G.f x = (ip ++ [x]).flatMap G.f by simp]
  repeat refine s_nx ?_
  refine s_append (s := sp1) (us := iq.flatMap G.f) (fun w hw => (own_rd (s := sq) hw).1) (fl_flat okT _) (by simp only at hsp1 ⊢; omega) (hT := okT.TI) fun sp2 hsp2 => ?_
  rw [show (ip ++ [x]).flatMap G.f ++ iq.flatMap G.f = (ip ++ x :: iq).flatMap G.f by simp]
  repeat refine s_nx ?_
  refine s_append (s := kp) (us := (cq.map ptr).map Value.pointer) (fun w hw => (own_rd (s := kq) hw).1) (kp_flat _) (by omega) (hT := okT.TK) fun kp' hkp' => ?_
  rw [← List.map_append, ← List.map_append]
  repeat first | refine s_nx ?_ | refine s_ai ?_
  obtain ⟨Z, hdel⟩ := ok.delI
  refine fun w hw => hdel _ _ _ _ _ ?_
  refine hg hw ?_
  clear hw w
  rw [show ((A.length + 1 : Nat) : Int) - 1 = ((A.length : Nat) : Int) by omega]
  refine s_del (s := s) (i := A.length) (j := A.length + 1) (by omega) (by omega) (by omega) (fl_flat okT _) (fun s' hs' => ?_) okT.TI
  rw [← hA, del_mid, hA]
  repeat first | refine s_nx ?_ | refine s_ai ?_
  obtain ⟨Z2, hdel2⟩ := ok.delK
  refine fun w hw => hdel2 _ _ _ _ _ ?_
  refine hg hw ?_
  clear hw w
  rw [show ((A.length + 1 : Nat) : Int) + 1 = ((A.length + 2 : Nat) : Int) by omega]
  refine s_del (s := kd) (i := A.length + 1) (j := A.length + 2) (by omega) (by omega) (by omega) (kp_flat _) (fun kd' hkd' => ?_) okT.TK
  rw [del_midK]
  repeat refine s_nx ?_
  refine s_pick (kidsD G.toBtT d cq) ?_
  refine s_pick (kidsD G.toBtT d cp) ?_
  refine s_join ?_
  refine s_pick (kidsD G.toBtT d (cp ++ cq)) ?_
  refine s_ownS kp' ?_
  refine s_ownS sp2 ?_
  refine s_own p.1 ?_
  refine s_unraw (m := 2) (fit_app hfp hfq) (by simp; omega) (fun _ => .inr (by simp)) ?_
  rw [wv_app hfp hfq]
  exact s_end (h s' kd')
end
end Bt
end Go.Sep
/- A B-tree: mend. Holds for every program. -/
namespace Go.Sep
open Go Go.RowKit
set_option linter.unusedSimpArgs false
set_option linter.unusedVariables false
namespace Bt
section
variable {κ : Type} {G : BtD κ} {c : κ → κ → Int} {B : World} {Γ Δ : List HProp}
theorem wv_two : ∀ {IA IC : List G.It} {A C : List (Kid G.toBtT)}, IA.length = A.length → C.length = IC.length → ∃ U V : List G.It, (∀ p : Kid G.toBtT, wv (IA ++ IC) (A ++ p :: C) = U ++ p.2 ++ V) ∧ ∀ (p : Kid G.toBtT) (x : G.It) (q : Kid G.toBtT), wv (IA ++ x :: IC) (A ++ p :: q :: C) = U ++ p.2 ++ x :: (q.2 ++ V)
  | [], [], [], C, _, hC => ⟨[], [], fun p => by simp [wv], fun p x q => by simp [wv]⟩
  | [], z :: IC, [], C, _, hC => ⟨[], z :: wv IC C, fun p => by simp [wv], fun p x q => by simp [wv]⟩
  | a :: IA, IC, r :: A, C, hA, hC => by
    obtain ⟨U, V, h1, h2⟩ := wv_two (IA := IA) (IC := IC) (A := A) (C := C) (by simpa using hA) hC
    exact ⟨r.2 ++ a :: U, V, fun p => by simp [wv, h1], fun p x q => by simp [wv, h2]⟩
  | [], _, _ :: _, _, hA, _ => by simp at hA
  | _ :: _, _, [], _, hA, _ => by simp at hA
theorem split_at {α : Type} {L : List α} {a c : Nat} (h : L.length = a + 1 + c) : ∃ A x C, L = A ++ x :: C ∧ A.length = a ∧ C.length = c :=
  ⟨L.take a, L[a], L.drop (a + 1), by rw [← List.drop_eq_getElem_cons, List.take_append_drop], by simp; omega, by simp; omega⟩
theorem s_asm1 {d n : Nat} {s kd : Sl} {its : List G.It} {ks : List (Kid G.toBtT)} {k : K} (hf : ks.length = its.length + 1) (hl : its.length ≤ 5) (h : HG B (NodeR G.toBtT (d + 1) 0 n (wv its ks) :: Γ) k) :
    HG B (nodeB G.toBtT n s kd :: itsR G.toBtT s its :: kpsR G.toBtT kd (ks.map ptr) :: kidsR G.toBtT d ks :: Γ) k := s_unraw (d := d + 1) (m := 0) hf hl (fun h => by omega) h
theorem s_asmK {d n : Nat} {s kd : Sl} {its : List G.It} {A C : List (Kid G.toBtT)} {p : Kid G.toBtT} {P' : List G.It} {k : K} (hf : (A ++ p :: C).length = its.length + 1) (hl : its.length ≤ 5) (h : HG B (NodeR G.toBtT (d + 1) 0 n (wv its (A ++ (p.1, P') :: C)) :: Γ) k) :
    HG B (nodeB G.toBtT n s kd :: itsR G.toBtT s its :: kpsR G.toBtT kd ((A ++ p :: C).map ptr) :: NodeR G.toBtT d 2 p.1 P' :: kidsR G.toBtT d (A ++ C) :: Γ) k := by
  rw [show (A ++ p :: C).map ptr = (A ++ (p.1, P') :: C).map ptr by simp [ptr]]
  refine s_pick (kidsR G.toBtT d (A ++ C)) ?_
  refine s_pick (NodeR G.toBtT d 2 p.1 P') ?_
  refine s_unkid (q := (p.1, P')) ?_
  refine s_pick (kidsR G.toBtT d (A ++ (p.1, P') :: C)) ?_
  refine s_ownS kd ?_
  refine s_ownS s ?_
  refine s_own n ?_
  exact s_asm1 (by simpa using hf) hl h
theorem s_asm2 {d n : Nat} {s kd : Sl} {its : List G.It} {A C : List (Kid G.toBtT)} {p q : Kid G.toBtT} {P' Q' : List G.It} {k : K} (hf : (A ++ p :: q :: C).length = its.length + 1) (hl : its.length ≤ 5) (h : HG B (NodeR G.toBtT (d + 1) 0 n (wv its (A ++ (p.1, P') :: (q.1, Q') :: C)) :: Γ) k) :
    HG B (nodeB G.toBtT n s kd :: itsR G.toBtT s its :: kpsR G.toBtT kd ((A ++ p :: q :: C).map ptr) :: NodeR G.toBtT d 2 p.1 P' :: NodeR G.toBtT d 2 q.1 Q' :: kidsR G.toBtT d (A ++ C) :: Γ) k := by
  rw [show (A ++ p :: q :: C).map ptr = (A ++ p :: (q.1, Q') :: C).map ptr by simp [ptr]]
  refine s_pick (kidsR G.toBtT d (A ++ C)) ?_
  refine s_pick (NodeR G.toBtT d 2 q.1 Q') ?_
  refine s_unkid (q := (q.1, Q')) ?_
  refine s_pick (kidsR G.toBtT d (A ++ (q.1, Q') :: C)) ?_
  refine s_pick (NodeR G.toBtT d 2 p.1 P') ?_
  refine s_ownS kd ?_
  refine s_ownS s ?_
  refine s_own n ?_
  exact s_asmK (by simpa using hf) hl h

theorem mend_spec (ok : BtDOk G c) {d n : Nat} {s kd : Sl} {its : List G.It} {A C : List (Kid G.toBtT)} {q : Kid G.toBtT} {Q : K} (hl : its.length ≤ 5) (hne : its ≠ []) (hf : (A ++ q :: C).length = its.length + 1)
    (h : HG B (NodeR G.toBtT (d + 1) 0 n (wv its (A ++ q :: C)) :: Γ) Q) :
    HG B (nodeB G.toBtT n s kd :: itsR G.toBtT s its :: kpsR G.toBtT kd ((A ++ q :: C).map ptr) :: NodeR G.toBtT d 0 q.1 q.2 :: kidsR G.toBtT d (A ++ C) :: Γ) (G.nmendC (some ⟨n, 0, none⟩) (A.length : Int) Q) := by
  refine fun w hw => ok.mend _ _ _ _ ?_
  refine hg hw ?_
  clear hw w
  have okT := ok.toBtOk
  have hnl : 1 ≤ its.length := List.length_pos_iff.2 hne
  refine s_cap s fun a1 a2 a3 a4 => ?_
  refine s_cap kd fun b1 b2 b3 b4 => ?_
  have hsn := its_n a1
  have hkn := kps_n b1
  have hf' : A.length + (C.length + 1) = its.length + 1 := by simpa using hf
  simp only [List.length_append, List.length_cons, List.length_map] at hkn
  unfold nmend
  repeat refine s_nx ?_
  refine s_idx (s := kd) (i := A.length) ?_
  refine s_ldE0 (s := kd) (x := ptr q) (kp_at at_mid) ?_
  refine s_nn ?_
  refine s_own q.1 ?_
  refine s_raw fun sq kq iq cq hfq hlq _ hqL => ?_
  refine s_cap sq fun e1 e2 e3 e4 => ?_
  have hsqn := its_n e1
  repeat refine s_nx ?_
  refine s_ite (fun hb => ?_) fun hb => ?_
  · have hb' : 2 ≤ iq.length := by simp only [decide_eq_true_eq] at hb; omega
    refine s_unraw (m := 2) hfq hlq (fun _ => .inr fun h => by rw [h] at hb'; simp at hb') ?_
    rw [← hqL]
    refine s_pick (kidsR G.toBtT d (A ++ C)) ?_
    refine s_pick (NodeR G.toBtT d 2 q.1 q.2) ?_
    refine s_ownS kd ?_
    refine s_ownS s ?_
    refine s_own n ?_
    exact s_asmK hf hl h
  have hq1 : iq.length ≤ 1 := by simp only [decide_eq_false_iff_not] at hb; omega
  rcases List.eq_nil_or_concat A with rfl | ⟨A, p, rfl⟩
  · -- no kid on the left
    obtain ⟨r, C, rfl⟩ : ∃ r C', C = r :: C' := by
      cases C with
      | nil => simp only [List.length_nil] at hf'; omega
      | cons r C => exact ⟨r, C, rfl⟩
    simp only [List.length_cons, List.length_nil, List.nil_append] at hf' hkn hf h ⊢
    obtain ⟨IA, x, IC, rfl, hIA, hIC⟩ := split_at (L := its) (a := 0) (c := C.length) (by omega)
    obtain rfl : IA = [] := List.length_eq_zero_iff.1 hIA
    obtain ⟨U, V, hU1, hU2⟩ := wv_two (IA := []) (IC := IC) (A := []) (C := C) rfl hIC.symm
    simp only [List.nil_append] at hU1 hU2 hl hf' h ⊢
    rw [hU2] at h
    simp only [List.length_cons] at hl hf'
    refine s_f ?_
    unfold nmend_s1
    repeat first | refine s_nx ?_ | refine s_ai ?_
    refine s_t ?_ (by simp; omega)
    repeat first | refine s_nx ?_ | refine s_ai ?_
    refine s_idx (s := kd) (i := 1) ?_
    refine s_ldE0 (s := kd) (x := ptr r) (kp_at (at_mid2 (A := []))) ?_
    refine s_nn ?_
    refine s_pick (kidsR G.toBtT d (r :: C)) ?_
    refine s_kid (A := []) ?_
    refine s_raw fun sr kr ir cr hfr hlr hrne hrL => ?_
    refine s_cap sr fun c1 c2 c3 c4 => ?_
    have hsrn := its_n c1
    repeat refine s_nx ?_
    by_cases hb3 : 2 < ir.length
    · rw [show decide ((2 : Int) < (sr.n : Int)) = true by simp; omega]
      obtain ⟨y, ir, rfl⟩ : ∃ y ir', ir = y :: ir' := by
        cases ir with
        | nil => simp at hb3
        | cons y ir => exact ⟨y, ir, rfl⟩
      simp only [List.length_cons] at hb3 hlr
      refine s_pick (kidsD G.toBtT d cr) ?_
      refine s_ownS kr ?_
      refine s_ownS sr ?_
      refine s_own r.1 ?_
      refine s_pick (kidsD G.toBtT d cq) ?_
      refine s_ownS kq ?_
      refine s_ownS sq ?_
      refine s_own q.1 ?_
      refine s_ownS kd ?_
      refine s_ownS s ?_
      refine s_own n ?_
      refine s_turnR ok (A := []) (IA := []) rfl rfl (by simp only [List.length_nil]; omega) hIC.symm (by omega) hq1 hfr hfq fun Q' R' e s' kd' => ?_
      refine s_pick (kidsR G.toBtT d ([] ++ C)) ?_
      refine s_pick (NodeR G.toBtT d 2 r.1 R') ?_
      refine s_pick (NodeR G.toBtT d 2 q.1 Q') ?_
      refine s_ownS kd' ?_
      refine s_ownS s' ?_
      refine s_own n ?_
      refine s_asm2 (A := []) (by simp; omega) (by simp; omega) ?_
      simp only [List.nil_append]
      rw [hU2, show U ++ (q.1, Q').2 ++ y :: ((r.1, R').2 ++ V) = U ++ (Q' ++ y :: R') ++ V by simp, e, ← hqL, ← hrL]
      simpa using h
    · rw [show decide ((2 : Int) < (sr.n : Int)) = false by simp; omega]
      refine s_pick (kidsD G.toBtT d cr) ?_
      refine s_ownS kr ?_
      refine s_ownS sr ?_
      refine s_own r.1 ?_
      refine s_pick (kidsD G.toBtT d cq) ?_
      refine s_ownS kq ?_
      refine s_ownS sq ?_
      refine s_own q.1 ?_
      refine s_ownS kd ?_
      refine s_ownS s ?_
      refine s_own n ?_
      refine s_merge ok (A := []) (IA := []) (by simp) rfl (by simp only [List.length_nil]; omega) hIC.symm (by omega) hfq hfr fun s' kd' => ?_
      refine s_pick (kidsR G.toBtT d ([] ++ C)) ?_
      refine s_pick (NodeR G.toBtT d 2 q.1 (wv iq cq ++ x :: wv ir cr)) ?_
      refine s_ownS kd' ?_
      refine s_ownS s' ?_
      refine s_own n ?_
      refine s_asmK (A := []) (by simp; omega) (by simp; omega) ?_
      simp only [List.nil_append]
      have h2 := hU1 (q.1, wv iq cq ++ x :: wv ir cr)
      rw [h2, ← hqL, ← hrL]
      simpa using h
  · -- a kid on the left
    simp only [List.concat_eq_append, List.append_assoc, List.singleton_append] at hf' hkn hf h ⊢
    have hAl : (A ++ [p]).length = A.length + 1 := by simp
    rw [hAl] at hf' hkn ⊢
    obtain ⟨IA, x, IC, rfl, hIA, hIC⟩ := split_at (L := its) (a := A.length) (c := C.length) (by omega)
    obtain ⟨U, V, hU1, hU2⟩ := wv_two (IA := IA) (IC := IC) (A := A) (C := C) hIA hIC.symm
    have hil : (IA ++ x :: IC).length = IA.length + (IC.length + 1) := by simp
    rw [hU2] at h
    rw [hil] at hl
    refine s_t ?_
    repeat first | refine s_nx ?_ | refine s_ai ?_
    refine s_idx (s := kd) (i := A.length) ?_
    refine s_ldE0 (s := kd) (x := ptr p) (kp_at at_mid) ?_
    refine s_nn ?_
    refine s_pick (kidsR G.toBtT d (A ++ p :: C)) ?_
    refine s_kid ?_
    refine s_raw fun sp kp ip cp hfp hlp hpne hpL => ?_
    refine s_cap sp fun c1 c2 c3 c4 => ?_
    have hspn := its_n c1
    repeat refine s_nx ?_
    by_cases hb3 : 2 < ip.length
    · rw [show decide ((2 : Int) < (sp.n : Int)) = true by simp; omega]
      rcases List.eq_nil_or_concat ip with rfl | ⟨ip, y, rfl⟩
      · simp at hb3
      simp only [List.concat_eq_append] at hb3 hlp hfp hpL ⊢
      have hipl : (ip ++ [y]).length = ip.length + 1 := by simp
      rw [hipl] at hb3 hlp
      refine s_pick (kidsD G.toBtT d cq) ?_
      refine s_ownS kq ?_
      refine s_ownS sq ?_
      refine s_own q.1 ?_
      refine s_pick (kidsD G.toBtT d cp) ?_
      refine s_ownS kp ?_
      refine s_ownS sp ?_
      refine s_own p.1 ?_
      refine s_ownS kd ?_
      refine s_ownS s ?_
      refine s_own n ?_
      refine s_turnL ok (A := A) (by omega) hIA (by omega) hIC.symm (by omega) hq1 hfp hfq fun P' Q' e s' kd' => ?_
      refine s_pick (kidsR G.toBtT d (A ++ C)) ?_
      refine s_pick (NodeR G.toBtT d 2 q.1 Q') ?_
      refine s_pick (NodeR G.toBtT d 2 p.1 P') ?_
      refine s_ownS kd' ?_
      refine s_ownS s' ?_
      refine s_own n ?_
      refine s_asm2 (by simp; omega) (by simp; omega) ?_
      rw [hU2, show U ++ (p.1, P').2 ++ y :: ((q.1, Q').2 ++ V) = U ++ (P' ++ y :: Q') ++ V by simp, e, ← hqL, ← hpL]
      simpa using h
    rw [show decide ((2 : Int) < (sp.n : Int)) = false by simp; omega]
    unfold nmend_s1
    repeat first | refine s_nx ?_ | refine s_ai ?_
    cases C with
    | nil =>
      refine s_f ?_ (by simp only [List.length_nil] at hkn; simp; omega)
      refine s_pick (kidsD G.toBtT d cq) ?_
      refine s_ownS kq ?_
      refine s_ownS sq ?_
      refine s_own q.1 ?_
      refine s_pick (kidsD G.toBtT d cp) ?_
      refine s_ownS kp ?_
      refine s_ownS sp ?_
      refine s_own p.1 ?_
      refine s_ownS kd ?_
      refine s_ownS s ?_
      refine s_own n ?_
      refine s_merge ok (by simp only [gt_iff_lt]; split <;> omega) hIA (by omega) hIC.symm (by omega) hfp hfq fun s' kd' => ?_
      refine s_pick (kidsR G.toBtT d (A ++ [])) ?_
      refine s_pick (NodeR G.toBtT d 2 p.1 (wv ip cp ++ x :: wv iq cq)) ?_
      refine s_ownS kd' ?_
      refine s_ownS s' ?_
      refine s_own n ?_
      refine s_asmK (by simp only [List.length_append, List.length_cons]; omega) (by simp only [List.length_append]; omega) ?_
      rw [hU1, ← hqL, ← hpL]
      simpa using h
    | cons r C =>
      simp only [List.length_cons] at hf' hkn hIC
      obtain ⟨x2, IC, rfl⟩ : ∃ x2 IC', IC = x2 :: IC' := by
        cases IC with
        | nil => simp at hIC
        | cons x2 IC => exact ⟨x2, IC, rfl⟩
      simp only [List.length_cons] at hIC hl
      refine s_t ?_ (by simp; omega)
      repeat first | refine s_nx ?_ | refine s_ai ?_
      refine s_idx (s := kd) (i := A.length + 2) ?_
      refine s_ldE0 (s := kd) (x := ptr r) (kp_at (by rw [show A ++ p :: q :: r :: C = (A ++ [p]) ++ q :: r :: C by simp, show A.length + 2 = (A ++ [p]).length + 1 by simp]; exact at_mid2)) ?_
      refine s_nn ?_
      refine s_pick (kidsR G.toBtT d (A ++ r :: C)) ?_
      refine s_kid ?_
      refine s_raw fun sr kr ir cr hfr hlr hrne hrL => ?_
      refine s_cap sr fun g1 g2 g3 g4 => ?_
      have hsrn := its_n g1
      repeat refine s_nx ?_
      by_cases hb4 : 2 < ir.length
      · rw [show decide ((2 : Int) < (sr.n : Int)) = true by simp; omega]
        obtain ⟨y, ir, rfl⟩ : ∃ y ir', ir = y :: ir' := by
          cases ir with
          | nil => simp at hb4
          | cons y ir => exact ⟨y, ir, rfl⟩
        simp only [List.length_cons] at hb4 hlr
        refine s_pick (kidsD G.toBtT d cp) ?_
        refine s_ownS kp ?_
        refine s_ownS sp ?_
        refine s_own p.1 ?_
        refine s_unraw (m := 2) hfp hlp (fun _ => .inr (hpne rfl)) ?_
        rw [← hpL]
        rw [show A ++ p :: q :: r :: C = (A ++ [p]) ++ q :: r :: C by simp, show IA ++ x :: x2 :: IC = (IA ++ [x]) ++ x2 :: IC by simp]
        refine s_pick (kidsD G.toBtT d cr) ?_
        refine s_ownS kr ?_
        refine s_ownS sr ?_
        refine s_own r.1 ?_
        refine s_pick (kidsD G.toBtT d cq) ?_
        refine s_ownS kq ?_
        refine s_ownS sq ?_
        refine s_own q.1 ?_
        refine s_ownS kd ?_
        refine s_ownS s ?_
        refine s_own n ?_
        refine s_turnR ok (A := A ++ [p]) (IA := IA ++ [x]) (by rw [hAl]) (by simp [hIA]) (by simp; omega) (by omega) (by omega) hq1 hfr hfq fun Q' R' e s' kd' => ?_
        refine s_pick (kidsR G.toBtT d (A ++ C)) ?_
        refine s_pick (NodeR G.toBtT d 2 p.1 p.2) ?_
        refine s_unkid ?_
        rw [show A ++ p :: C = (A ++ [p]) ++ C by simp]
        refine s_pick (kidsR G.toBtT d ((A ++ [p]) ++ C)) ?_
        refine s_pick (NodeR G.toBtT d 2 r.1 R') ?_
        refine s_pick (NodeR G.toBtT d 2 q.1 Q') ?_
        refine s_ownS kd' ?_
        refine s_ownS s' ?_
        refine s_own n ?_
        refine s_asm2 (by simp; omega) (by simp; omega) ?_
        obtain ⟨U', V', hV1, hV2⟩ := wv_two (IA := IA ++ [x]) (IC := IC) (A := A ++ [p]) (C := C) (by simp [hIA]) (by omega)
        have h3 := hV2 q x2 r
        have h4 := hU2 p x q
        rw [show (IA ++ [x]) ++ x2 :: IC = IA ++ x :: x2 :: IC by simp, show (A ++ [p]) ++ q :: r :: C = A ++ p :: q :: r :: C by simp, h4] at h3
        rw [hV2, show U' ++ (q.1, Q').2 ++ y :: ((r.1, R').2 ++ V') = U' ++ (Q' ++ y :: R') ++ V' by simp, e, ← hqL, ← hrL]
        rw [h3] at h
        simpa using h
      · rw [show decide ((2 : Int) < (sr.n : Int)) = false by simp; omega]
        refine s_pick (kidsD G.toBtT d cr) ?_
        refine s_ownS kr ?_
        refine s_ownS sr ?_
        refine s_own r.1 ?_
        refine s_unraw (m := 2) hfr hlr (fun _ => .inr (hrne rfl)) ?_
        rw [← hrL]
        refine s_pick (kidsR G.toBtT d (A ++ C)) ?_
        refine s_pick (NodeR G.toBtT d 2 r.1 r.2) ?_
        refine s_unkid ?_
        refine s_pick (kidsD G.toBtT d cq) ?_
        refine s_ownS kq ?_
        refine s_ownS sq ?_
        refine s_own q.1 ?_
        refine s_pick (kidsD G.toBtT d cp) ?_
        refine s_ownS kp ?_
        refine s_ownS sp ?_
        refine s_own p.1 ?_
        refine s_ownS kd ?_
        refine s_ownS s ?_
        refine s_own n ?_
        refine s_merge ok (by simp only [gt_iff_lt]; split <;> omega) hIA (by simp; omega) (by simp; omega) (by omega) hfp hfq fun s' kd' => ?_
        refine s_pick (kidsR G.toBtT d (A ++ r :: C)) ?_
        refine s_pick (NodeR G.toBtT d 2 p.1 (wv ip cp ++ x :: wv iq cq)) ?_
        refine s_ownS kd' ?_
        refine s_ownS s' ?_
        refine s_own n ?_
        refine s_asmK (by simp only [List.length_append, List.length_cons]; omega) (by simp only [List.length_append, List.length_cons]; omega) ?_
        rw [hU1, ← hqL, ← hpL]
        simpa using h
end
end Bt
end Go.Sep
/- A B-tree: last, take and Delete. Holds for every program. -/
namespace Go.Sep
open Go Go.RowKit
set_option linter.unusedSimpArgs false
set_option linter.unusedVariables false
namespace Bt
section
variable {κ : Type} {G : BtD κ} {c : κ → κ → Int} {B : World} {Γ Δ : List HProp}
theorem wv_end : ∀ {its : List G.It} {A : List (Kid G.toBtT)}, its.length = A.length → ∃ U : List G.It, ∀ p : Kid G.toBtT, wv its (A ++ [p]) = U ++ p.2
  | [], [], _ => ⟨[], fun p => by simp [wv]⟩
  | a :: its, r :: A, h => by
    obtain ⟨U, h1⟩ := wv_end (its := its) (A := A) (by simpa using h)
    exact ⟨r.2 ++ a :: U, fun p => by simp [wv, h1]⟩
  | [], _ :: _, h => by simp at h
  | _ :: _, [], h => by simp at h
theorem nlast_spec (ok : BtDOk G c) : ∀ (d : Nat) {b : Nat} {L : List G.It} {Γ : List HProp} {Q : Array Value → K},
    (∀ L0 x, L = L0 ++ [x] → HG B (NodeR G.toBtT d 0 b L0 :: Γ) (Q (G.f x).toArray)) → HG B (NodeR G.toBtT d 2 b L :: Γ) (G.nlastC (some ⟨b, 0, none⟩) Q) := by
  have okT := ok.toBtOk
  intro d
  induction d with
  | zero =>
    intro b L Γ Q h
    refine fun w hw => ok.last _ _ _ ?_
    refine hg hw ?_
    clear hw w
    refine s_node0 fun s kd hne hl => ?_
    rcases List.eq_nil_or_concat L with rfl | ⟨L0, x, rfl⟩
    · exact absurd rfl (hne rfl)
    simp only [List.concat_eq_append] at h hl ⊢
    have hll : (L0 ++ [x]).length = L0.length + 1 := by simp
    rw [hll] at hl
    refine s_cap s fun a1 a2 a3 a4 => ?_
    refine s_cap kd fun b1 b2 b3 b4 => ?_
    have hsn := its_n a1
    have hkn := kps_n b1
    rw [hll] at hsn
    simp only [List.length_nil] at hkn
    unfold nlast
    refine s_new fun t2 => ?_
    repeat first | refine s_nx ?_ | refine s_ai ?_
    refine s_f ?_ (by simp; omega)
    repeat first | refine s_nx ?_ | refine s_ai ?_
    refine s_idx (s := s) (i := L0.length) ?_
    refine s_ldElS (s := s) (x := x) G.f_len (by simp) ?_
    refine s_new fun x5 => ?_
    repeat refine s_nx ?_
    refine s_stN (b := x5) ?_ (by simp [okT.vz.1]) (G.f_len x) (flat_f okT x)
    repeat first | refine s_nx ?_ | refine s_ai ?_
    refine s_slc (lo := 0) (hi := L0.length) (mx := s.c) ?_
    rw [cut0 a3]
    repeat refine s_nx ?_
    refine s_shrinkI (s := s) (m := L0.length) (by omega) a2 ?_
    rw [List.take_left]
    refine s_ldN (b := x5) (l' := G.f x) ?_ (List.take_of_length_le (by simp [G.f_len])) (G.f_len _)
    refine s_stN (b := t2) ?_ (by simp [okT.vz.1]) (G.f_len x) (flat_f okT x)
    refine s_ldN (b := t2) (l' := G.f x) ?_ (List.take_of_length_le (by simp [G.f_len])) (G.f_len _)
    refine s_ownS kd ?_
    refine s_ownS ⟨s.a, L0.length, s.c⟩ ?_
    refine s_own b ?_
    refine s_mk0 (m := 0) (by simp) (by omega) ?_
    exact s_end (h L0 x rfl)
  | succ d ih =>
    intro b L Γ Q h
    refine fun w hw => ok.last _ _ _ ?_
    refine hg hw ?_
    clear hw w
    refine s_raw fun s kd its ks hf hl hne hL => ?_
    subst hL
    have hf' : ks.length = its.length + 1 := hf
    rcases List.eq_nil_or_concat ks with rfl | ⟨A, q, rfl⟩
    · simp at hf'
    simp only [List.concat_eq_append] at h hf hf' ⊢
    have hkl : (A ++ [q]).length = A.length + 1 := by simp
    rw [hkl] at hf'
    refine s_pick (kidsD G.toBtT (d + 1) (A ++ [q])) ?_
    refine s_conv (A' := kidsR G.toBtT d (A ++ [q])) (fun _ h => h) ?_
    refine s_kid (A := A) (C := []) ?_
    refine s_cap s fun a1 a2 a3 a4 => ?_
    refine s_cap kd fun b1 b2 b3 b4 => ?_
    have hsn := its_n a1
    have hkn := kps_n b1
    rw [List.length_map, hkl] at hkn
    unfold nlast
    refine s_new fun t2 => ?_
    repeat first | refine s_nx ?_ | refine s_ai ?_
    rw [show ((kd.n : Nat) : Int) - 1 = ((A.length : Nat) : Int) by omega]
    refine s_t ?_ (by simp)
    repeat refine s_nx ?_
    refine s_idx (s := kd) (i := A.length) ?_
    refine s_ldE0 (s := kd) (x := ptr q) (kp_at at_mid) ?_
    refine s_pick (NodeR G.toBtT d 2 q.1 q.2) ?_
    refine ih (b := q.1) (L := q.2) fun L0 x e => ?_
    refine s_new fun x4 => ?_
    refine s_stN (b := x4) ?_ (by simp [okT.vz.1]) (G.f_len x) (flat_f okT x)
    rw [show (A ++ [q]).map ptr = (A ++ [(q.1, L0)]).map ptr by simp [ptr]]
    refine s_pick (kidsR G.toBtT d (A ++ [])) ?_
    refine s_pick (NodeR G.toBtT d 0 q.1 L0) ?_
    refine s_ownS kd ?_
    refine s_ownS s ?_
    refine s_own b ?_
    refine mend_spec ok (q := (q.1, L0)) (C := []) hl (hne rfl) (by simp; omega) ?_
    refine s_ldN (b := x4) (l' := G.f x) ?_ (List.take_of_length_le (by simp [G.f_len])) (G.f_len _)
    refine s_stN (b := t2) ?_ (by simp [okT.vz.1]) (G.f_len x) (flat_f okT x)
    refine s_ldN (b := t2) (l' := G.f x) ?_ (List.take_of_length_le (by simp [G.f_len])) (G.f_len _)
    refine s_end (h (wv its (A ++ [(q.1, L0)])) x ?_)
    obtain ⟨U, hU⟩ := wv_end (its := its) (A := A) (by omega)
    rw [hU, hU, e, List.append_assoc]

/-! ### take -/
def DelR (c : κ → κ → Int) {ν : Type} (z : ν) (L : List (κ × ν)) (k : κ) (L' : List (κ × ν)) (old : ν) (had : Bool) : Prop :=
  (∃ A C, L = A ++ (k, old) :: C ∧ L' = A ++ C ∧ had = true) ∨ ((∃ A C, L = A ++ C ∧ (∀ x ∈ A, c x.1 k < 0) ∧ (∀ x ∈ C, c k x.1 < 0)) ∧ L' = L ∧ old = z ∧ had = false)
theorem DelR.mid {ν : Type} {z old : ν} {A C L L' : List (κ × ν)} {k : κ} {had : Bool} (hA : ∀ x ∈ A, c x.1 k < 0) (hC : ∀ x ∈ C, c k x.1 < 0) (h : DelR c z L k L' old had) : DelR c z (A ++ L ++ C) k (A ++ L' ++ C) old had := by
  rcases h with ⟨A', C', rfl, rfl, rfl⟩ | ⟨⟨A', C', rfl, h1, h2⟩, rfl, rfl, rfl⟩
  · exact .inl ⟨A ++ A', C' ++ C, by simp, by simp, rfl⟩
  · refine .inr ⟨⟨A ++ A', C' ++ C, by simp, fun x hx => ?_, fun x hx => ?_⟩, rfl, rfl, rfl⟩
    · rcases List.mem_append.1 hx with hx | hx
      · exact hA x hx
      · exact h1 x hx
    · rcases List.mem_append.1 hx with hx | hx
      · exact h2 x hx
      · exact hC x hx
theorem DelR.srt {ν : Type} {z old : ν} {L L' : List (κ × ν)} {k : κ} {had : Bool} (h : DelR c z L k L' old had) (hs : Srt c L) : Srt c L' := by
  rcases h with ⟨A', C', rfl, rfl, rfl⟩ | ⟨_, rfl, rfl, rfl⟩
  · exact hs.sub ((List.Sublist.refl A').append (List.sublist_cons_self _ _))
  · exact hs
theorem DelR.len {ν : Type} {z old : ν} {L L' : List (κ × ν)} {k : κ} {had : Bool} (h : DelR c z L k L' old had) : L.length = L'.length + (if had then 1 else 0) := by
  rcases h with ⟨A', C', rfl, rfl, rfl⟩ | ⟨_, rfl, rfl, rfl⟩
  · simp; omega
  · simp
theorem ntake_spec (ok : BtDOk G c) : ∀ (d : Nat) {m b : Nat} {M : List G.It} {k : κ} {Γ : List HProp} {Q : Array Value → Bool → K}, 1 ≤ m → Srt c M →
    (∀ M' old had, DelR c (G.z0 ok.vz) M k M' old had → HG B (NodeR G.toBtT d 0 b M' :: Γ) (Q old.1.toArray had)) →
    HG B (NodeR G.toBtT d m b M :: Γ) (G.ntakeC (some ⟨b, 0, none⟩) k Q) := by
  have okT := ok.toBtOk
  intro d
  induction d with
  | zero =>
    intro m b M k Γ Q hm hs h
    refine fun w hw => ok.take _ _ _ _ ?_
    refine hg hw ?_
    clear hw w
    refine s_node0 fun s kd _ hl => ?_
    refine s_cap s fun a1 a2 a3 a4 => ?_
    refine s_cap kd fun b1 b2 b3 b4 => ?_
    have hsn := its_n a1
    have hkn := kps_n b1
    simp only [List.length_nil] at hkn
    unfold ntake
    refine s_new fun v4 => ?_
    refine s_search okT (s := s) (kd := kd) hs (by omega) (fun A v0 C e => ?_) fun A C e hA hC => ?_
    · subst e
      have hlen : (A ++ (k, v0) :: C).length = A.length + (C.length + 1) := List.length_append
      repeat refine s_nx ?_
      rw [show decide ((kd.n : Int) = 0) = true by simp; omega]
      unfold ntake_s2
      repeat refine s_nx ?_
      refine s_idx (s := s) (i := A.length) ?_
      refine s_ldEN (s := s) (l' := v0.1) drop_val v0.2.1 ?_
      refine s_stN (b := v4) ?_ okT.vz.1 v0.2.1 v0.2.2
      repeat first | refine s_nx ?_ | refine s_ai ?_
      obtain ⟨Z, hdel⟩ := ok.delI
      refine fun w hw => hdel _ _ _ _ _ ?_
      refine hg hw ?_
      clear hw w
      rw [show ((A.length : Nat) : Int) + 1 = ((A.length + 1 : Nat) : Int) by omega]
      refine s_del (s := s) (i := A.length) (j := A.length + 1) (by omega) (by omega) (by omega) (fl_flat okT _) (fun s' hs' => ?_) okT.TI
      rw [del_mid]
      repeat refine s_nx ?_
      refine s_ret3 (v := v0) ?_
      refine s_ownS kd ?_
      refine s_ownS s' ?_
      refine s_own b ?_
      refine s_mk0 (m := 0) (by simp) (by simp; omega) ?_
      exact s_end (h _ _ _ (.inl ⟨A, C, rfl, rfl, rfl⟩))
    · subst e
      repeat refine s_nx ?_
      unfold ntake_s2
      repeat refine s_nx ?_
      refine s_f ?_ (by simp; omega)
      unfold ntake_s1
      refine s_ret3 (v := G.z0 okT.vz) ?_
      refine s_ownS kd ?_
      refine s_ownS s ?_
      refine s_own b ?_
      refine s_mk0 (m := 0) (by simp) hl ?_
      exact s_end (h _ _ _ (.inr ⟨⟨A, C, rfl, hA, hC⟩, rfl, rfl, rfl⟩))
  | succ d ih =>
    intro m b M k Γ Q hm hs h
    refine fun w hw => ok.take _ _ _ _ ?_
    refine hg hw ?_
    clear hw w
    refine s_nodeS fun s kd q0 ps hne hl hM => ?_
    subst hM
    have hne := hne hm
    refine s_cap s fun a1 a2 a3 a4 => ?_
    refine s_cap kd fun b1 b2 b3 b4 => ?_
    have hsn := its_n a1
    have hkn := kps_n b1
    simp only [List.length_map, List.length_cons] at hsn hkn
    unfold ntake
    refine s_new fun v4 => ?_
    refine s_search okT (s := s) (kd := kd) (hs.sub (its_sub q0 ps)) (by simp; omega) (fun A v0 C e => ?_) fun A C e hA hC => ?_
    · obtain ⟨l, q, r, hA, hC, hK, hL, hlen⟩ := zip_of (q0 := q0) e
      rw [e, hK]
      rw [hL] at hs h
      obtain ⟨⟨xx, q1⟩, r, rfl, hxx, hC'⟩ := List.map_eq_cons_iff.1 hC.symm
      simp only at hxx
      subst hxx
      subst hA
      subst hC'
      simp only [List.length_cons] at hlen
      have hll : (l.map Prod.snd).length = l.length := by simp
      have hlf : (l.map Prod.fst).length = l.length := by simp
      repeat refine s_nx ?_
      rw [show decide ((kd.n : Int) = 0) = false by simp; omega]
      unfold ntake_s2
      repeat refine s_nx ?_
      refine s_idx (s := s) (i := (l.map Prod.snd).length) ?_
      refine s_ldEN (s := s) (l' := v0.1) drop_val v0.2.1 ?_
      refine s_stN (b := v4) ?_ okT.vz.1 v0.2.1 v0.2.2
      refine s_dr ?_
      refine s_wsD [nodeB G.toBtT b s kd, itsR G.toBtT s (l.map Prod.snd ++ (k, v0) :: r.map Prod.fst), kpsR G.toBtT kd ((l.map Prod.fst ++ q :: (((k, v0), q1) :: r).map Prod.snd).map ptr)] ?_
      repeat refine s_nx ?_
      refine s_idx (s := kd) (i := (l.map Prod.fst).length) ?_ (by omega)
      refine s_ldES1 (s := kd) (c := Value.pointer) (L := (l.map Prod.fst ++ q :: (((k, v0), q1) :: r).map Prod.snd).map ptr) (x := ptr q) (by simp) ?_
      refine s_pick (kidsR G.toBtT d (l.map Prod.fst ++ q :: (((k, v0), q1) :: r).map Prod.snd)) ?_
      refine s_kid ?_
      refine nlast_spec ok d (b := q.1) (L := q.2) fun L0 x e2 => ?_
      repeat refine s_nx ?_
      refine s_idx (s := s) (i := (l.map Prod.snd).length) ?_
      refine s_stEl (s := s) (A := l.map Prod.snd) (x := (k, v0)) (y := x) G.f_len (flat_f okT x) ?_
      rw [show (l.map Prod.fst ++ q :: (((k, v0), q1) :: r).map Prod.snd).map ptr = (l.map Prod.fst ++ (q.1, L0) :: (((k, v0), q1) :: r).map Prod.snd).map ptr by simp [ptr]]
      rw [show ((l.map Prod.snd).length : Int) = ((l.map Prod.fst).length : Int) by rw [hll, hlf]]
      refine s_pick (kidsR G.toBtT d (l.map Prod.fst ++ (((k, v0), q1) :: r).map Prod.snd)) ?_
      refine s_pick (NodeR G.toBtT d 0 q.1 L0) ?_
      refine s_ownS kd ?_
      refine s_ownS s ?_
      refine s_own b ?_
      refine mend_spec ok (q := (q.1, L0)) (by simp; omega) (by simp) (by simp; omega) ?_
      refine s_ret3 (v := v0) ?_
      refine s_end (h (wv (l.map Prod.snd ++ x :: r.map Prod.fst) (l.map Prod.fst ++ (q.1, L0) :: (((k, v0), q1) :: r).map Prod.snd)) v0 true (.inl ⟨preL l ++ q.2, q1.2 ++ postL r, ?_, ?_, rfl⟩))
      · simp [postL]
      · obtain ⟨q0', ps', e3, e4, e5, e6⟩ := zback l (q.1, L0) ((x, q1) :: r)
        rw [show l.map Prod.snd ++ x :: r.map Prod.fst = ps'.map Prod.fst from e4.symm, show l.map Prod.fst ++ (q.1, L0) :: (((k, v0), q1) :: r).map Prod.snd = q0' :: ps'.map Prod.snd from e5.symm, wv_ps, e6, e2]
        simp [postL]
    · obtain ⟨l, q, r, rfl, rfl, hK, hL, hlen⟩ := zip_of (q0 := q0) e
      rw [e, hK]
      rw [hL] at hs h
      have hll : (l.map Prod.snd).length = l.length := by simp
      have hlf : (l.map Prod.fst).length = l.length := by simp
      have hs1 := List.pairwise_append.1 hs
      have hs2 := List.pairwise_append.1 hs1.1
      have hpre := pre_lt okT l hs2.1 hA
      have hpost := post_gt okT r hs1.2.1 hC
      repeat refine s_nx ?_
      unfold ntake_s2
      repeat refine s_nx ?_
      refine s_t ?_ (by simp; omega)
      repeat refine s_nx ?_
      refine s_idx (s := kd) (i := (l.map Prod.fst).length) ?_ (by omega)
      refine s_ldE0 (s := kd) (x := ptr q) (kp_at at_mid) ?_
      refine s_pick (kidsR G.toBtT d (l.map Prod.fst ++ q :: r.map Prod.snd)) ?_
      refine s_kid ?_
      refine ih (m := 2) (b := q.1) (M := q.2) (by omega) hs2.2.1 fun M' old had hp => ?_
      refine s_stN (b := v4) ?_ okT.vz.1 old.2.1 old.2.2
      rw [show (l.map Prod.fst ++ q :: r.map Prod.snd).map ptr = (l.map Prod.fst ++ (q.1, M') :: r.map Prod.snd).map ptr by simp [ptr]]
      rw [show ((l.map Prod.snd).length : Int) = ((l.map Prod.fst).length : Int) by rw [hll, hlf]]
      refine s_pick (kidsR G.toBtT d (l.map Prod.fst ++ r.map Prod.snd)) ?_
      refine s_pick (NodeR G.toBtT d 0 q.1 M') ?_
      refine s_ownS kd ?_
      refine s_ownS s ?_
      refine s_own b ?_
      refine mend_spec ok (q := (q.1, M')) (by simp; omega) (fun h0 => hne ?_) (by simp; omega) ?_
      · have := congrArg List.length h0
        simp only [List.length_append, List.length_map, List.length_nil] at this
        exact List.length_eq_zero_iff.1 (by omega)
      unfold ntake_s1
      refine s_ret3 (v := old) ?_
      obtain ⟨q0', ps', e3, e4, e5, e6⟩ := zback l (q.1, M') r
      rw [← e4, ← e5, wv_ps, e6]
      exact s_end (h _ _ _ (hp.mid hpre hpost))

theorem s_tdel1 (ok : BtDOk G c) {t v4 d b : Nat} {L L' : List G.It} {k : κ} {old : Cel G.nv} {had : Bool} {Q : Array Value → Bool → K} (hs : Srt c L) (hL : L.length < 1000000000) (hp : DelR c (G.z0 ok.vz) L k L' old had) (h : HG B (TreeR G.toBtT c t L' :: Γ) (Q old.1.toArray had)) :
    HG B (valB G.toBtT v4 old :: blk t (.cells [.pointer (some ⟨b, 0, none⟩), .int .i64 L.length].toArray G.tT (0, 0)) :: NodeR G.toBtT d 1 b L' :: Γ) (tdel_s1 G Q ⟨t, 0, none⟩ ⟨v4, 0, none⟩ had) := by
  have hlen := hp.len
  unfold tdel_s1
  refine s_ite (fun hb => ?_) fun hb => ?_
  · rw [hb, if_pos rfl] at hlen
    repeat first | refine s_nx ?_ | refine s_ai ?_
    unfold tdel_s2
    rw [show ((L.length : Nat) : Int) - 1 = ((L'.length : Nat) : Int) by omega]
    refine s_ret3 (v := old) ?_
    refine s_own b ?_
    refine s_own t ?_
    exact s_mkTree (hp.srt hs) (s_end h)
  · rw [hb, if_neg (by simp)] at hlen
    unfold tdel_s2
    rw [show ((L.length : Nat) : Int) = ((L'.length : Nat) : Int) by omega]
    refine s_ret3 (v := old) ?_
    refine s_own b ?_
    refine s_own t ?_
    exact s_mkTree (hp.srt hs) (s_end h)
/-- Delete. -/
theorem tdel_spec (ok : BtDOk G c) {t : Nat} {L : List G.It} {k : κ} {Q : Array Value → Bool → K} (hL : L.length < 1000000000) (h : ∀ L' old had, DelR c (G.z0 ok.vz) L k L' old had → HG B (TreeR G.toBtT c t L' :: Γ) (Q old.1.toArray had)) :
    HG B (TreeR G.toBtT c t L :: Γ) (tdel G (some ⟨t, 0, none⟩) k Q) := by
  have okT := ok.toBtOk
  refine s_tree fun d b hs => ?_
  unfold tdel
  refine s_new fun v4 => ?_
  repeat refine s_nx ?_
  refine s_pick (NodeR G.toBtT d 1 b L) ?_
  refine ntake_spec ok d (m := 1) (Nat.le_refl _) hs fun M' old had hp => ?_
  have h := h M' old had hp
  refine s_stN (b := v4) ?_ okT.vz.1 old.2.1 old.2.2
  repeat refine s_nx ?_
  refine s_own b ?_
  refine s_raw fun s kd its ks hf hl _ hM => ?_
  refine s_cap s fun a1 a2 a3 a4 => ?_
  refine s_cap kd fun b1 b2 b3 b4 => ?_
  have hsn := its_n a1
  have hkn := kps_n b1
  rw [List.length_map] at hkn
  repeat refine s_nx ?_
  have back : ((d = 0 ∧ 1 = 1) ∨ its ≠ []) → HG B (rawL G.toBtT d b s kd its ks (valB G.toBtT v4 old :: blk t (.cells [.pointer (some ⟨b, 0, none⟩), .int .i64 L.length].toArray G.tT (0, 0)) :: Γ)) (tdel_s3 G Q ⟨t, 0, none⟩ ⟨v4, 0, none⟩ had false) := fun hb => by
    refine s_unraw (m := 1) hf hl (fun _ => hb) ?_
    rw [← hM]
    unfold tdel_s3
    repeat refine s_nx ?_
    refine s_own b ?_
    refine s_own t ?_
    refine s_pick (valB G.toBtT v4 old) ?_
    exact s_tdel1 ok hs hL hp h
  refine s_ite (fun hb => ?_) fun hb => ?_
  · have hn : its = [] := List.length_eq_zero_iff.1 (by simp only [decide_eq_true_eq] at hb; omega)
    subst hn
    repeat refine s_nx ?_
    cases d with
    | zero =>
      have hk : ks = [] := hf
      subst hk
      rw [show decide ((kd.n : Int) = 1) = false by simp only [List.length_nil] at hkn; simp; omega]
      exact s_end (back (.inl ⟨rfl, rfl⟩))
    | succ d =>
      obtain ⟨q, rfl⟩ : ∃ q, ks = [q] := List.length_eq_one_iff.1 hf
      simp only [List.length_cons, List.length_nil] at hkn
      rw [show decide ((kd.n : Int) = 1) = true by simp; omega]
      unfold tdel_s3
      repeat refine s_nx ?_
      refine s_idx (s := kd) (i := 0) ?_
      refine s_ldE0 (s := kd) (x := ptr q) (by simp) ?_
      refine s_st (b := t) (v := .pointer (some ⟨q.1, 0, none⟩)) ?_
      refine s_pick (kidsD G.toBtT (d + 1) [q]) ?_
      refine s_conv (A' := kidsR G.toBtT d [q]) (fun _ h => h) ?_
      refine s_kid (A := []) (C := []) (q := q) ?_
      refine s_conv (NodeR.weak (m' := 1) (by simp) (by simp)) ?_
      have e : q.2 = M' := hM.symm
      rw [e]
      refine s_pick (NodeR G.toBtT d 1 q.1 M') ?_
      refine s_own t ?_
      refine s_pick (valB G.toBtT v4 old) ?_
      refine s_tdel1 ok hs hL hp ?_
      exact s_end h
  · have hn : its ≠ [] := fun h0 => by
      rw [h0, List.length_nil] at hsn
      simp only [decide_eq_false_iff_not] at hb; omega
    exact s_end (back (.inr hn))
end
end Bt
end Go.Sep
/- The store: values that come and go. -/
namespace Go.Proofs.YtinpgiafjjibnaaGreat
open Go Go.Sep Go.Sep.Bt
set_option linter.unusedSimpArgs false
set_option linter.unusedVariables false
set_option maxRecDepth 100000

noncomputable def btSD : BtD ByteArray where
  toBtT := btS
  delIC := slices_Delete_s_btree_item_string_api_Record_btree_item_string_api_Record.call
  delKC := slices_Delete_s_btree_node_string_api_Record_btree_node_string_api_Record.call
  ntakeC := btree_node_string_api_Record_take.call
  nlastC := btree_node_string_api_Record_last.call
  nmendC := btree_node_string_api_Record_mend.call
theorem btSD_ok : BtDOk btSD cmpS where
  toBtOk := btS_ok
  delI := ⟨_, fun s i j Q w h => slices_Delete_s_btree_item_string_api_Record_btree_item_string_api_Record_ok _ _ _ _ _ h⟩
  delK := ⟨_, fun s i j Q w h => slices_Delete_s_btree_node_string_api_Record_btree_node_string_api_Record_ok _ _ _ _ _ h⟩
  take := fun n k Q w h => btree_node_string_api_Record_take_ok _ _ _ _ h
  last := fun n Q w h => btree_node_string_api_Record_last_ok _ _ _ h
  mend := fun n i Q w h => btree_node_string_api_Record_mend_ok _ _ _ _ h

def delM (M : Recs) (k : ByteArray) : Recs := M.filter fun x => !decide (x.1 = k)
def setM (M : Recs) (k : ByteArray) (r : Rec) : Recs := if r.has = false ∧ r.cnt = 0 then delM M k else putM M k r
theorem getM_del (M : Recs) (k k' : ByteArray) : getM (delM M k) k' = if k' = k then none else getM M k' := by
  unfold getM delM
  rw [List.find?_filter]
  split
  · rename_i h
    subst h
    rw [List.find?_eq_none.2 (fun x _ => by simp)]; rfl
  · rename_i h
    congr 2
    funext x
    by_cases h2 : x.1 = k
    · simp [h2, Ne.symm h]
    · by_cases h3 : x.1 = k' <;> simp [h2, h3, h]
theorem sGet_set (n : Nat) (M : Recs) (k k' : ByteArray) (r : Rec) : sGet n (setM M k r) k' = if k' = k then (if r.has = false ∧ r.cnt = 0 then ⟨false, [], homeOf k.toList n, 0⟩ else r) else sGet n M k' := by
  unfold setM
  split
  · unfold sGet
    rw [getM_del]
    split
    · rename_i h; rw [h]; rfl
    · rfl
  · rw [sGet_put]
theorem delM_none {M : Recs} {k : ByteArray} (h : ∀ x ∈ M, x.1 ≠ k) : delM M k = M := List.filter_eq_self.2 fun x hx => by simpa using h x hx
theorem delM_mid {A C : Recs} {k : ByteArray} {r : Rec} (hA : ∀ x ∈ A, x.1 ≠ k) (hC : ∀ x ∈ C, x.1 ≠ k) : delM (A ++ (k, r) :: C) k = A ++ C := by
  unfold delM
  rw [List.filter_append, List.filter_cons_of_neg (by simp)]
  exact congr (congrArg _ (delM_none hA)) (delM_none hC)
theorem setM_len (M : Recs) (k : ByteArray) (r : Rec) : (setM M k r).length ≤ M.length + 1 := by
  unfold setM
  split
  · have := List.length_filter_le (fun x => !decide (x.1 = k)) M
    unfold delM; omega
  · exact putM_len _ _ _
section
variable {B : World} {Γ Δ : List HProp}
theorem btDel_spec {t : Nat} {L : List btS.It} {k : ByteArray} {Q : Array Value → Bool → K} (hL : L.length < 1000000000) (h : ∀ L' old had, DelR cmpS (btS.z0 btS_ok.vz) L k L' old had → HG B (TreeR btS cmpS t L' :: Γ) (Q old.1.toArray had)) :
    HG B (TreeR btS cmpS t L :: Γ) (btree_Tree_string_api_Record_Delete.call (some ⟨t, 0, none⟩) k Q) := fun w hw =>
  btree_Tree_string_api_Record_Delete_ok _ _ _ _ (show tdel btSD (some ⟨t, 0, none⟩) k Q w from hg hw (tdel_spec btSD_ok hL h))
theorem gt_of_srt {X Y : List RecX} {k : ByteArray} {r : Rec × Sl} (h : Srt cmpS ((X ++ (k, r) :: Y).map recI)) : ∀ x ∈ Y, cmpS k x.1 < 0 := fun x hx => by
  rw [List.map_append, List.map_cons] at h
  exact (List.pairwise_cons.1 (List.pairwise_append.1 h).2.1).1 (recI x) (List.mem_map.2 ⟨x, hx, rfl⟩)
/-- A key goes. -/
theorem storeDel_hg {st t n : Nat} {X : List RecX} {k : ByteArray} {q : Array Value → Bool → K} (hok : ∀ x ∈ X.map recM, x.2.ok) (h1 : 1 ≤ n) (h3 : n ≤ 3) (hL : X.length < 1000000000)
    (h : ∀ a b, HG B (StoreR st n (delM (X.map recM) k) :: Γ) (q a b)) :
    HG B (blk st (.cells [.int .i64 n, .pointer (some ⟨t, 0, none⟩)].toArray ty_store_Store (0, 0)) :: TreeR btS cmpS t (X.map recI) :: Sep.stars (X.map recB) :: Γ) (btree_Tree_string_api_Record_Delete.call (some ⟨t, 0, none⟩) k q) := by
  refine s_own t ?_
  refine tree_srt fun hs => ?_
  refine btDel_spec (by simpa using hL) fun L' old had hp => ?_
  rcases hp with ⟨A, C, e, rfl, rfl⟩ | ⟨⟨A, C, e, hA, hC⟩, rfl, rfl, rfl⟩
  · obtain ⟨XA, r0, XC, rfl, rfl, rfl, rfl⟩ := split_rec e
    have e2 : delM ((XA ++ (k, r0) :: XC).map recM) k = (XA ++ XC).map recM := by
      rw [List.map_append, List.map_cons, List.map_append]
      refine delM_mid (fun x hx => ?_) fun x hx => ?_
      · obtain ⟨y, hy, rfl⟩ := List.mem_map.1 hx
        exact ne_of_lt (lt_of_srt hs y hy)
      · obtain ⟨y, hy, rfl⟩ := List.mem_map.1 hx
        exact Ne.symm (ne_of_lt (gt_of_srt hs y hy))
    rw [e2] at h
    refine s_pick (Sep.stars ((XA ++ (k, r0) :: XC).map recB)) ?_
    refine s_mid ?_
    rw [show XA.map recI ++ XC.map recI = (XA ++ XC).map recI by simp]
    refine s_pick (Sep.stars ((XA ++ XC).map recB)) ?_
    refine s_own t ?_
    refine s_own st ?_
    refine s_mkStore (fun x hx => hok x ?_) h1 h3 (s_end (h _ _))
    rw [List.map_append] at hx ⊢
    rcases List.mem_append.1 hx with hx | hx
    · exact List.mem_append_left _ hx
    · exact List.mem_append_right _ (List.mem_cons_of_mem _ hx)
  · have e2 : delM (X.map recM) k = X.map recM := delM_none fun x hx => by
      obtain ⟨y, hy, rfl⟩ := List.mem_map.1 hx
      have hy2 : recI y ∈ A ++ C := by rw [← e]; exact List.mem_map.2 ⟨y, hy, rfl⟩
      rcases List.mem_append.1 hy2 with h4 | h4
      · exact ne_of_lt (hA _ h4)
      · exact Ne.symm (ne_of_lt (hC _ h4))
    rw [e2] at h
    refine s_pick (Sep.stars (X.map recB)) ?_
    refine s_own t ?_
    refine s_own st ?_
    exact s_mkStore hok h1 h3 (s_end (h _ _))
theorem storeSetM_spec {st n : Nat} {M : Recs} {k : ByteArray} {r : Rec} {s : Sl} {q : K} (hr : r.ok) (hL : M.length < 1000000000) (h : HG B (StoreR st n (setM M k r) :: Γ) q) : HG B (StoreR st n M :: Bytes ty_uint8 s r.val :: Γ) (store_Store_set.call (some ⟨st, 0, none⟩) k (recA r s) q) := by
  unfold setM at h
  split at h
  · rename_i h0
    refine fun w hw => store_Store_set_ok _ _ _ _ _ ?_
    refine hg hw ?_
    clear hw w
    refine s_store fun t X hM hok h1 h3 => ?_
    subst hM
    unfold store_Store_set
    refine s_new fun r5 => ?_
    repeat refine s_nx ?_
    refine s_t ?_ (by simp [h0.1])
    repeat refine s_nx ?_
    rw [show decide (r.cnt = 0) = true by simpa using h0.2]
    unfold store_Store_set.s1
    repeat refine s_nx ?_
    refine s_pick (Sep.stars (X.map recB)) ?_
    refine s_own t ?_
    refine s_own st ?_
    exact storeDel_hg hok h1 h3 (by simpa using hL) fun _ _ => s_end h
  · rename_i h0
    refine storeSet_spec hr ?_ hL h
    by_cases h1 : r.has = true
    · exact .inl h1
    · exact .inr fun h2 => h0 ⟨by simpa using h1, h2⟩
/-- A key gets a value. -/
theorem storePutV_spec {st n : Nat} {M : Recs} {k : ByteArray} {v : Sl} {xs : List UInt8} {q : K} (hk : k.size < 1000000000000) (hL : M.length < 1000000000) (hr : ∀ w, Holds B Γ w → RdB w v xs) (hx : xs.length ≤ 1000000000)
    (h : HG B (StoreR st n (setM M k { sGet n M k with has := true, val := xs }) :: Γ) q) : HG B (StoreR st n M :: Γ) (store_Store_Put.call (some ⟨st, 0, none⟩) k v q) := by
  refine fun w hw => store_Store_Put_ok _ _ _ _ _ ?_
  refine hg hw ?_
  clear hw w
  unfold store_Store_Put
  refine storeGet_spec hk fun s hok => ?_
  generalize sGet n M k = r at *
  refine s_new fun r6 => ?_
  refine s_stN (b := r6) (l' := recL r s) ?_
  refine bytesClone_hg (fun w hw => hr w hw.drops) hx fun s' _ => ?_
  repeat refine s_nx ?_
  refine s_ownS s' ?_
  refine s_own st ?_
  obtain ⟨o1, o2, o3⟩ := hok
  refine storeSetM_spec (r := { r with has := true, val := xs }) ⟨o1, o2, hx⟩ hL ?_
  exact s_end h
/-- A key's value goes. -/
theorem storeDelete_spec {st n : Nat} {M : Recs} {k : ByteArray} {q : K} (hk : k.size < 1000000000000) (hL : M.length < 1000000000)
    (h : HG B (StoreR st n (setM M k { sGet n M k with has := false, val := [] }) :: Γ) q) : HG B (StoreR st n M :: Γ) (store_Store_Delete.call (some ⟨st, 0, none⟩) k q) := by
  refine fun w hw => store_Store_Delete_ok _ _ _ _ ?_
  refine hg hw ?_
  clear hw w
  unfold store_Store_Delete
  refine storeGet_spec hk fun s hok => ?_
  generalize sGet n M k = r at *
  refine s_new fun r6 => ?_
  refine s_stN (b := r6) (l' := recL r s) ?_
  repeat refine s_nx ?_
  refine fun w hw => ?_
  refine hg (show Holds B (Bytes ty_uint8 ⟨none, 0, 0⟩ [] :: _) w from hw.nilSl ty_uint8 1) ?_
  clear hw w
  refine s_ownS ⟨none, 0, 0⟩ ?_
  refine s_own st ?_
  obtain ⟨o1, o2, o3⟩ := hok
  refine storeSetM_spec (r := { r with has := false, val := [] }) ⟨o1, o2, by simp⟩ hL ?_
  exact s_end h
end
end Go.Proofs.YtinpgiafjjibnaaGreat
/- Transactions as they lie in memory. -/
namespace Go.Proofs.YtinpgiafjjibnaaGreat
open Go Go.Sep
set_option linter.unusedSimpArgs false
set_option linter.unusedVariables false

structure OpM where
  kind : Int
  key : List UInt8
  val : List UInt8
  n : Int
deriving DecidableEq
abbrev OpX := OpM × Sl
abbrev opF (x : OpX) : List Value := [.int .i64 x.1.kind, strV x.1.key, x.2.val, .int .i64 x.1.n]
theorem opF_len (x : OpX) : (opF x).length = 4 := rfl
structure TxX where
  kind : Int
  reads : List (List UInt8)
  writes : List (List UInt8)
  ops : List OpX
  to : Int
  rs : Sl
  ws : Sl
  os : Sl
abbrev txL (t : TxX) : List Value := [.int .i64 t.kind, t.rs.val, t.ws.val, t.os.val, .int .i64 t.to]
/-- A transaction's memory can be read. -/
def txRd (w : World) (t : TxX) : Prop := RdC w t.rs 1 (t.reads.map strV) ∧ RdC w t.ws 1 (t.writes.map strV) ∧ RdC w t.os 4 (t.ops.flatMap opF) ∧ ∀ x ∈ t.ops, RdB w x.2 x.1.val
end Go.Proofs.YtinpgiafjjibnaaGreat
/- The shelf contract of slices.Sort on strings, laid at this program. -/
namespace Go.Proofs.YtinpgiafjjibnaaGreat
open Go.Proofs Go.Shelf
def sortRen : Go.Shelf.Ren := ⟨fun | 6 => 50 | 8 => 67 | 9 => 66 | 19 => 80 | 20 => 81 | 21 => 71 | 22 => 72 | 23 => 73 | 24 => 74 | 25 => 75 | 26 => 76 | 27 => 77 | 28 => 78 | 29 => 79 | 36 => 92 | 31 => 93 | 32 => 94 | 37 => 95 | 38 => 96 | 39 => 97 | 41 => 103 | n => n, fun | 27 => 23 | 29 => 9 | 3 => 3 | 32 => 126 | 26 => 23 | 0 => 0 | 44 => 144 | 46 => 55 | 4 => 4 | 36 => 137 | 35 => 136 | 41 => 128 | 5 => 5 | 9 => 9 | 53 => 156 | 57 => 160 | 63 => 167 | 64 => 168 | n => n, fun | n => n⟩
theorem sortLay : Go.Proofs.SlLaysM.n6 Tryz.prog sortRen := {
  mixed := by kernel_rfl
  f6 := ⟨Tryz.f50.name, by decide, Tryz.func50.trans (congrArg some (by kernel_rfl))⟩
  f8 := Tryz.func67.trans (congrArg some (by kernel_rfl))
  f9 := ⟨Tryz.f66.name, by decide, Tryz.func66.trans (congrArg some (by kernel_rfl))⟩
  f19 := Tryz.func80.trans (congrArg some (by kernel_rfl))
  f20 := Tryz.func81.trans (congrArg some (by kernel_rfl))
  f21 := ⟨Tryz.f71.name, by decide, Tryz.func71.trans (congrArg some (by kernel_rfl))⟩
  f22 := ⟨Tryz.f72.name, by decide, Tryz.func72.trans (congrArg some (by kernel_rfl))⟩
  f23 := ⟨Tryz.f73.name, by decide, Tryz.func73.trans (congrArg some (by kernel_rfl))⟩
  f24 := ⟨Tryz.f74.name, by decide, Tryz.func74.trans (congrArg some (by kernel_rfl))⟩
  f25 := ⟨Tryz.f75.name, by decide, Tryz.func75.trans (congrArg some (by kernel_rfl))⟩
  f26 := ⟨Tryz.f76.name, by decide, Tryz.func76.trans (congrArg some (by kernel_rfl))⟩
  f27 := ⟨Tryz.f77.name, by decide, Tryz.func77.trans (congrArg some (by kernel_rfl))⟩
  f28 := ⟨Tryz.f78.name, by decide, Tryz.func78.trans (congrArg some (by kernel_rfl))⟩
  f29 := ⟨Tryz.f79.name, by decide, Tryz.func79.trans (congrArg some (by kernel_rfl))⟩
  f31 := Tryz.func93.trans (congrArg some (by kernel_rfl))
  f32 := Tryz.func94.trans (congrArg some (by kernel_rfl))
  f36 := ⟨Tryz.f92.name, by decide, Tryz.func92.trans (congrArg some (by kernel_rfl))⟩
  f37 := ⟨Tryz.f95.name, by decide, Tryz.func95.trans (congrArg some (by kernel_rfl))⟩
  f38 := ⟨Tryz.f96.name, by decide, Tryz.func96.trans (congrArg some (by kernel_rfl))⟩
  f39 := ⟨Tryz.f97.name, by decide, Tryz.func97.trans (congrArg some (by kernel_rfl))⟩
  f41 := ⟨Tryz.f103.name, by decide, Tryz.func103.trans (congrArg some (by kernel_rfl))⟩
  t0 := Tryz.underlying0
  a0 := Tryz.isAgg0
  z0 := Tryz.sizeOf0
  v0 := Tryz.zeroValue0
  t3 := Tryz.underlying3
  a3 := Tryz.isAgg3
  z3 := Tryz.sizeOf3
  v3 := Tryz.zeroValue3
  t4 := Tryz.underlying4
  a4 := Tryz.isAgg4
  z4 := Tryz.sizeOf4
  v4 := Tryz.zeroValue4
  t5 := Tryz.underlying5
  a5 := Tryz.isAgg5
  z5 := Tryz.sizeOf5
  v5 := Tryz.zeroValue5
  t9 := Tryz.underlying9
  a9 := Tryz.isAgg9
  z9 := Tryz.sizeOf9
  v9 := Tryz.zeroValue9
  t26 := Tryz.underlying23
  a26 := Tryz.isAgg23
  z26 := Tryz.sizeOf23
  v26 := Tryz.zeroValue23
  t27 := Tryz.underlying23
  a27 := Tryz.isAgg23
  z27 := Tryz.sizeOf23
  v27 := Tryz.zeroValue23
  t29 := Tryz.underlying9
  a29 := Tryz.isAgg9
  z29 := Tryz.sizeOf9
  v29 := Tryz.zeroValue9
  t32 := Tryz.underlying126
  a32 := Tryz.isAgg126
  z32 := Tryz.sizeOf126
  v32 := Tryz.zeroValue126
  t35 := Tryz.underlying136
  a35 := Tryz.isAgg136
  z35 := Tryz.sizeOf136
  v35 := Tryz.zeroValue136
  t36 := Tryz.underlying137
  a36 := Tryz.isAgg137
  z36 := Tryz.sizeOf137
  v36 := Tryz.zeroValue137
  t41 := Tryz.underlying128
  a41 := Tryz.isAgg128
  z41 := Tryz.sizeOf128
  v41 := Tryz.zeroValue128
  t44 := Tryz.underlying144
  a44 := Tryz.isAgg144
  z44 := Tryz.sizeOf144
  v44 := Tryz.zeroValue144
  t46 := Tryz.underlying55
  a46 := Tryz.isAgg55
  z46 := Tryz.sizeOf55
  v46 := Tryz.zeroValue55
  t53 := Tryz.underlying156
  a53 := Tryz.isAgg156
  z53 := Tryz.sizeOf156
  v53 := Tryz.zeroValue156
  t57 := Tryz.underlying160
  a57 := Tryz.isAgg160
  z57 := Tryz.sizeOf160
  v57 := Tryz.zeroValue160
  t63 := Tryz.underlying167
  a63 := Tryz.isAgg167
  z63 := Tryz.sizeOf167
  v63 := Tryz.zeroValue167
  t64 := Tryz.underlying168
  a64 := Tryz.isAgg168
  z64 := Tryz.sizeOf168
  v64 := Tryz.zeroValue168 }
end Go.Proofs.YtinpgiafjjibnaaGreat
/- Plain forms of functions, and that their code comes to them (package lib_slices). -/
namespace Go.Proofs.YtinpgiafjjibnaaGreat
open Go Go.Sep
set_option linter.unusedVariables false
set_option linter.unusedSimpArgs false
set_option maxRecDepth 100000
set_option maxHeartbeats 4000000
attribute [local irreducible] G Gp Cx Tx Ex Sx Dx Ox Ax Lx Rx Fx Bx Bj Al Do Ld LdN St StN New CallF Ar DoU Rd Rd2 Pu Cd Ite Fv CallV CallY Ans0 Ans1 Ans2 Ans3 Ans4 Ans5 Ext Dead Dr WithS Sv LdS LdNS RdS Rd2S Nn Idx IdxA IdxS Fld Bld Slc SlcS Cat All LoopK RangeF RangeJ TakeD
namespace F_IRLibSlices
instance cb_49 : CB Tryz.prog 49 := ⟨by kernel_rfl⟩
instance cb_50 : CB Tryz.prog 50 := ⟨by kernel_rfl⟩
instance cb_65 : CB Tryz.prog 65 := ⟨by kernel_rfl⟩
instance cb_66 : CB Tryz.prog 66 := ⟨by kernel_rfl⟩
instance cb_67 : CB Tryz.prog 67 := ⟨by kernel_rfl⟩
instance ct_23 : CT Tryz.prog 23 := ⟨by kernel_rfl⟩
instance in_126 : INT Tryz.prog 126 .u64 := ⟨by kernel_rfl⟩
instance in_3 : INT Tryz.prog 3 .i64 := ⟨by kernel_rfl⟩
instance mx : MX Tryz.prog := ⟨mixed⟩
instance sl_23 : SLT Tryz.prog 23 9 1 := ⟨by kernel_rfl⟩
instance sz_23 : SZ Tryz.prog 23 1 := ⟨by kernel_rfl⟩
instance zt_9 : ZT Tryz.prog 9 (.string ⟨#[]⟩) := ⟨Tryz.t9, by kernel_rfl, by kernel_rfl⟩
end F_IRLibSlices
def slices_Sorted_string (seq0 : Value) (Q : Sl → K) : K :=
  slices_Collect_string.call seq0 fun t5 =>
  slices_Sort_s_string_string.call t5 <|
  Q t5
theorem slices_Sorted_string_ok (seq0 : Value) (Q : Sl → K) (w : World) (h : slices_Sorted_string seq0 Q w) : slices_Sorted_string.call seq0 Q w := by
  exact g_walk 9 h Tryz.func27
def slices_Collect_string (seq0 : Value) (Q : Sl → K) : K :=
  slices_AppendSeq_s_string_string.call (Sl.mk none 0 0) seq0 fun t4 =>
  Q t4
theorem slices_Collect_string_ok (seq0 : Value) (Q : Sl → K) (w : World) (h : slices_Collect_string seq0 Q w) : slices_Collect_string.call seq0 Q w := by
  exact g_walk 5 h Tryz.func49
def slices_Sort_s_string_string (x0 : Sl) (Q : K) : K :=
  Ar (IntKind.wrap .u64 (x0.n : Int)) fun t8 =>
  math_bits_Len.call t8 fun t9 =>
  slices_pdqsortOrdered_string.call x0 0 (x0.n : Int) t9 <|
  Q
theorem slices_Sort_s_string_string_ok (x0 : Sl) (Q : K) (w : World) (h : slices_Sort_s_string_string x0 Q w) : slices_Sort_s_string_string.call x0 Q w := by
  exact g_walk 11 h Tryz.func50
def slices_AppendSeq_s_string_string (s0 : Sl) (seq1 : Value) (Q : Sl → K) : K :=
  New 23 #[(Sl.val s0)] fun s2 =>
  RangeF Tryz.prog seq1 Value.string (fun KN1 x7 =>
    Ld s2 Sl.val fun t8 =>
    New 9 #[(.string x7)] fun t10 =>
    Do Tryz.prog (Builtin.append_ #[23, 23] 23 #[(Sl.val t8), (Sl.val (Sl.mk (some t10) 1 1))]) Sl.val fun t11 =>
    St s2 (Sl.val t11) <|
    KN1)
  fun D1 =>
  Ld s2 Sl.val fun t12 =>
  TakeD D1 <|
  Q t12
theorem slices_AppendSeq_s_string_string_ok (s0 : Sl) (seq1 : Value) (Q : Sl → K) (w : World) (h : slices_AppendSeq_s_string_string s0 seq1 Q w) : slices_AppendSeq_s_string_string.call s0 seq1 Q w := by
  exact g_walk 13 h Tryz.func65
end Go.Proofs.YtinpgiafjjibnaaGreat
/- slices.Sort of strings, by the shelf's contract; slices.Sorted of a map's keys. -/
namespace Go.Proofs.YtinpgiafjjibnaaGreat
open Go Go.Sep
set_option linter.unusedSimpArgs false
set_option linter.unusedVariables false
set_option maxRecDepth 100000

abbrev sortL (ss : List (List UInt8)) : List (List UInt8) := ss.mergeSort fun x y => decide (x ≤ y)
section
variable {B w : World} {Γ : List HProp}
theorem holds_grow (h : Holds B Γ w) (os : Array Obj) : Holds B Γ (Sort.grow w os) := by
  obtain ⟨l⟩ := os
  induction l generalizing w with
  | nil => simpa [Sort.grow] using h
  | cons o l ih =>
    have h1 := ih (h.alloc o).tail
    have e : Sort.grow { w with heap := w.heap.push o } ⟨l⟩ = Sort.grow w ⟨o :: l⟩ := by
      have e2 : w.heap.push o ++ (⟨l⟩ : Array Obj) = w.heap ++ (⟨o :: l⟩ : Array Obj) := by
        apply Array.ext'
        rw [Array.toList_append, Array.toList_append, Array.toList_push, List.append_assoc]
        rfl
      unfold Sort.grow
      rw [← e2]
    rw [e] at h1
    exact h1
theorem slices_Sort_spec {s : Sl} {ss : List (List UInt8)} {k : K} (hl : ss.length ≤ 1000000) (h : Holds B (SlC ty_string 1 s (ss.map strV) :: Γ) w) (hk : ∀ w, Holds B (SlC ty_string 1 s ((sortL ss).map strV) :: Γ) w → k w) : slices_Sort_s_string_string.call s k w := by
  have hsc := h.slCap
  have hn : ss.length = s.n := by have := hsc.1; simpa using this
  unfold slices_Sort_s_string_string.call CallF
  cases ha : s.a with
  | none =>
    have hs0 : s.n = 0 := by have := hsc.2.2.2 ha; omega
    have hss : ss = [] := List.length_eq_zero_iff.1 (by omega)
    subst hss
    have h1 := AnyM.slices_Sort_string_none sortLay none s.c w
    have e : [Sl.val s].toArray = #[.slice none 0 s.c] := by
      show #[Value.slice s.a s.n s.c] = _
      rw [ha, hs0]
    rw [e]
    refine Calls.mono h1 fun e w' he => ?_
    obtain ⟨rfl, rfl⟩ := he
    exact ⟨rfl, hk _ (by simpa [sortL] using h)⟩
  | some a =>
    obtain ⟨cs, fz, h, hsp, hf, hsz, hr, hlen, hc⟩ := slOpen h ha
    obtain ⟨b, off, sp⟩ := a
    simp only at hsp
    subst hsp
    simp only at h hf hsz hr
    have hb := h.block
    have hH : Sort.Holds Proofs.encStr w b off ss.toArray := fun j hj => by
      simp only [List.size_toArray] at hj
      have h1 := hr j (by simpa using hj)
      constructor
      · refine cell_block hb ?_
        rw [h1, List.getElem?_map, List.getElem?_eq_getElem hj]
        simp [getElem!_pos, hj]
      · exact frozen_block hb (hf _ (by omega) (by omega))
    have h1 := AnyM.slices_Sort_string sortLay b off s.c ss w hH (Array.getElem?_eq_some_iff.1 hb).1 (by omega)
    have e : [Sl.val s].toArray = #[.slice (some ⟨b, off, none⟩) ss.length s.c] := by
      show #[Value.slice s.a s.n s.c] = _
      rw [ha, hn]
    rw [e]
    refine Calls.mono h1 fun e w' he => ?_
    obtain ⟨rfl, n, os, rfl⟩ := he
    refine ⟨rfl, hk _ ?_⟩
    have h2 : Holds B (blk b (.cells cs ty_string fz) :: Γ) (Sort.ahead w n) := h.drew _
    have h3 := h2.setBlock (o' := .cells (Sort.putCells Proofs.encStr off (sortL ss).toArray cs) ty_string fz) rfl
    have e2 : ({ (Sort.ahead w n) with heap := (Sort.ahead w n).heap.setIfInBounds b (.cells (Sort.putCells Proofs.encStr off (sortL ss).toArray cs) ty_string fz) } : World) = Sort.putRow Proofs.encStr (Sort.ahead w n) b off (sortL ss).toArray := by
      have harr : (Sort.ahead w n).heap.setIfInBounds b (.cells (Sort.putCells Proofs.encStr off (sortL ss).toArray cs) ty_string fz) = (Sort.ahead w n).heap.modify b (Sort.onCells (Sort.putCells Proofs.encStr off (sortL ss).toArray)) := by
        apply Array.ext_getElem?
        intro i
        rw [Array.getElem?_modify]
        by_cases hi : b = i
        · subst hi
          rw [if_pos rfl, h2.block, Array.getElem?_setIfInBounds_self_of_lt (Array.getElem?_eq_some_iff.1 h2.block).1]
          rfl
        · rw [if_neg hi, Array.getElem?_setIfInBounds_ne hi]
      unfold Sort.putRow Sort.mapBlock
      rw [← harr]
    rw [e2] at h3
    have h4 := holds_grow h3 os
    have hsl : (sortL ss).length = ss.length := by simp [sortL]
    refine slShut (a := ⟨b, off, none⟩) ha h4 ⟨rfl, hf, ?_, fun i hi => ?_, by rw [List.length_map, hsl]; simpa using hlen, hc⟩
    · have : (Sort.putCells Proofs.encStr off (sortL ss).toArray cs).size = cs.size := by simp [Sort.putCells]
      rw [this]; exact hsz
    · simp only [List.length_map] at hi
      unfold Sort.putCells
      rw [Array.getElem?_mapIdx]
      have hlt : off + i < cs.size := by omega
      rw [Array.getElem?_eq_getElem hlt, Option.map_some, if_pos (by simp; omega), List.getElem?_map, List.getElem?_eq_getElem hi, Option.map_some, Nat.add_sub_cancel_left, getElem!_pos (sortL ss).toArray i (by simpa using hi)]
      simp
end
end Go.Proofs.YtinpgiafjjibnaaGreat
/- A range over a map of one's own: every entry comes once, in whatever order. Holds for every program. -/
namespace Go.Sep
open Go Go.RowKit Go.MapKept
set_option linter.unusedSimpArgs false
set_option linter.unusedVariables false
set_option linter.unusedSectionVars false

section
variable {α β : Type} [DecidableEq α] {P : Program} {B w : World} {Γ : List HProp} {enc : α → Value} {cV : β → Value}

/-- What is still to come, by the stamps that came. -/
def itLeft (es : Array MapEntry) (seen : Array Nat) (m : List (α × β)) : List (α × β) := ((es.toList.zip m).filter fun p => !seen.contains p.1.born).map Prod.snd
structure ItF (enc : α → Value) (cV : β → Value) (es : Array MapEntry) (c : Nat) (seen : Array Nat) (m left : List (α × β)) (cur : Option (α × β)) : Prop where
  rel : mrel enc cV es m
  st : stamps es c
  lf : left = itLeft es seen m
  cnt : seen.size + left.length = m.length
  cur : ∀ p, cur = some p → ∃ (seen' : Array Nat) (e : MapEntry), seen = seen'.push e.born ∧ e ∈ es.toList ∧ e.key = enc p.1 ∧ e.val = cV p.2
/-- A map, and a range over it that is under way. -/
def MapIt (enc : α → Value) (cV : β → Value) (b r : Nat) (m left : List (α × β)) (cur : Option (α × β)) : HProp := ex fun es : Array MapEntry => ex fun c : Nat => ex fun seen : Array Nat =>
  stars [pur (ItF enc cV es c seen m left cur), blk b (.map es c), blk r (.mapIter (some b) c seen c)]

theorem MapIt.opens {b r : Nat} {m left : List (α × β)} {cur : Option (α × β)} (h : Holds B (MapIt enc cV b r m left cur :: Γ) w) : ∃ es c seen, ItF enc cV es c seen m left cur ∧ Holds B (blk b (.map es c) :: blk r (.mapIter (some b) c seen c) :: Γ) w := by
  obtain ⟨es, h⟩ := Holds.ex.1 h
  obtain ⟨c, h⟩ := Holds.ex.1 h
  obtain ⟨seen, h⟩ := Holds.ex.1 h
  obtain ⟨hp, h⟩ := Holds.pur.1 (Holds.flat.1 h)
  exact ⟨es, c, seen, hp, h⟩
theorem MapIt.shuts {b r : Nat} {m left : List (α × β)} {cur : Option (α × β)} {es : Array MapEntry} {c : Nat} {seen : Array Nat} (hp : ItF enc cV es c seen m left cur) (h : Holds B (blk b (.map es c) :: blk r (.mapIter (some b) c seen c) :: Γ) w) : Holds B (MapIt enc cV b r m left cur :: Γ) w :=
  Holds.ex.2 ⟨es, Holds.ex.2 ⟨c, Holds.ex.2 ⟨seen, Holds.flat.2 (Holds.pur.2 ⟨hp, h⟩)⟩⟩⟩
theorem MapIt.ends {b r : Nat} {m left : List (α × β)} {cur : Option (α × β)} (h : Holds B (MapIt enc cV b r m left cur :: Γ) w) : Holds B (MapR enc cV b m :: Γ) w := by
  obtain ⟨es, c, seen, hp, h⟩ := MapIt.opens h
  exact MapR.shuts ⟨hp.rel, hp.st⟩ (h.del 1 rfl)

theorem mrel_len {es : Array MapEntry} {m : List (α × β)} (h : mrel enc cV es m) : es.toList.length = m.length := by have := congrArg List.length h; simpa using this
theorem mrel_zip {es : Array MapEntry} {m : List (α × β)} (h : mrel enc cV es m) : ∀ p ∈ es.toList.zip m, p.1.key = enc p.2.1 ∧ p.1.val = cV p.2.2 := by
  intro p hp
  obtain ⟨i, hi⟩ := List.getElem?_of_mem hp
  rw [List.getElem?_zip_eq_some] at hi
  have := mrel_at h i
  rw [hi.1, hi.2] at this
  simp only [Option.map_some, Option.some.injEq, Prod.mk.injEq] at this
  exact this

theorem r_range {T E : TypeId} {d : TypeDesc} {b : Nat} {m : List (α × β)} {k : Option Addr → K} (hT : mapIs P T d E) (h : Holds B (MapR enc cV b m :: Γ) w) (hk : ∀ r w, Holds B (MapIt enc cV b r m m none :: Γ) w → k (some ⟨r, 0, none⟩) w) :
    Do P (Instr.range T (.map (some b))) Value.pointer k w := by
  obtain ⟨kt, hT, hd⟩ := hT
  obtain ⟨es, c, ⟨hr, hst⟩, h⟩ := MapR.opens h
  have hb := h.block
  refine ⟨some ⟨w.heap.size, 0, none⟩, { w with heap := w.heap.push (.mapIter (some b) c #[] c) }, ?_, hk _ _ (MapIt.shuts (seen := #[]) ⟨hr, hst, ?_, by simp, fun p hp => by cases hp⟩ (h.alloc _).swap)⟩
  · unfold Instr.range
    simp only [Sem.run_bind, run_underlying hT, Result.andThen, MapKept.run_getObj_map hb, Sem.run_pure]
    rfl
  · unfold itLeft
    have e : (es.toList.zip m).filter (fun p => !(#[] : Array Nat).contains p.1.born) = es.toList.zip m := List.filter_eq_self.2 (fun p _ => by simp)
    rw [e, List.map_snd_zip (by rw [mrel_len hr]; exact Nat.le_refl _)]

theorem zip_filter_split {es : List MapEntry} {m : List (α × β)} (seen : Array Nat) (hn : (es.map (·.born)).Nodup) (hl : es.length = m.length) {e : MapEntry} (he : e ∈ es.filter (fun e => !seen.contains e.born)) :
    ∃ l1 p l2, (e, p) ∈ es.zip m ∧ ((es.zip m).filter fun p => !seen.contains p.1.born).map Prod.snd = l1 ++ p :: l2 ∧ ((es.zip m).filter fun p => !(seen.push e.born).contains p.1.born).map Prod.snd = l1 ++ l2 := by
  induction es generalizing m with
  | nil => simp at he
  | cons x es ih =>
    cases m with
    | nil => simp at hl
    | cons q m =>
      simp only [List.map_cons, List.nodup_cons] at hn
      simp only [List.zip_cons_cons]
      by_cases hx : x = e
      · subst hx
        have hxs : (!seen.contains x.born) = true := (List.mem_filter.1 he).2
        refine ⟨[], q, ((es.zip m).filter fun p => !seen.contains p.1.born).map Prod.snd, List.mem_cons_self, ?_, ?_⟩
        · simp only [List.filter_cons]; rw [if_pos hxs]; rfl
        · simp only [List.filter_cons]
          rw [if_neg (by simp)]
          simp only [List.nil_append]
          congr 1
          refine List.filter_congr fun p hp => ?_
          have hpe : p.1.born ≠ x.born := fun heq => hn.1 (by rw [← heq]; exact List.mem_map_of_mem (List.of_mem_zip hp).1)
          simp [Array.contains_push, hpe]
      · have he2 : e ∈ es.filter (fun e => !seen.contains e.born) := by
          have h1 := List.mem_filter.1 he
          rcases List.mem_cons.1 h1.1 with h2 | h2
          · exact absurd h2.symm hx
          · exact List.mem_filter.2 ⟨h2, h1.2⟩
        obtain ⟨l1, p, l2, h1, h2, h3⟩ := ih hn.2 (by simpa using hl) he2
        have hxb : x.born ≠ e.born := fun heq => hn.1 (by rw [heq]; exact List.mem_map_of_mem (List.mem_filter.1 he2).1)
        by_cases hs : (!seen.contains x.born) = true
        · refine ⟨q :: l1, p, l2, List.mem_cons_of_mem _ h1, ?_, ?_⟩
          · simp only [List.filter_cons]
            rw [if_pos hs, List.map_cons, h2]; rfl
          · simp only [List.filter_cons]
            rw [if_pos (by simp [Array.contains_push, hxb] at hs ⊢; exact hs), List.map_cons, h3]; rfl
        · refine ⟨l1, p, l2, List.mem_cons_of_mem _ h1, ?_, ?_⟩
          · simp only [List.filter_cons]
            rw [if_neg hs, h2]
          · simp only [List.filter_cons]
            rw [if_neg (by simp [Array.contains_push, hxb] at hs ⊢; exact hs), h3]

theorem r_next {b r : Nat} {m left : List (α × β)} {cur : Option (α × β)} {k : Value → K} (h : Holds B (MapIt enc cV b r m left cur :: Γ) w)
    (h0 : left = [] → ∀ w, Holds B (MapR enc cV b m :: Γ) w → k (.tuple #[.bool false]) w)
    (h1 : ∀ l1 p l2 w, left = l1 ++ p :: l2 → p ∈ m → Holds B (MapIt enc cV b r m (l1 ++ l2) (some p) :: Γ) w → k (.tuple #[.bool true, enc p.1, cV p.2]) w) :
    Do P (Instr.next (.pointer (some ⟨r, 0, none⟩)) false 0) id k w := by
  have hend := MapIt.ends h
  obtain ⟨es, c, seen, hp, h⟩ := MapIt.opens h
  have hb := h.block
  have hr := h.tail.block
  rcases run_next_at (P := P) w 0 r b c c seen es c hr hb hp.st.2 (Nat.le_refl _) with ⟨hz, hrun⟩ | ⟨e, he, w1, hw1, hrun⟩
  · refine ⟨_, w, hrun, h0 ?_ w hend⟩
    rw [hp.lf]
    unfold itLeft
    have hnone : es.toList.filter (fun e => !seen.contains e.born) = [] := by
      have : (leftOf es seen).toList.length = 0 := by simpa using hz
      unfold leftOf at this
      rw [Array.toList_filter] at this
      exact List.length_eq_zero_iff.1 this
    have : (es.toList.zip m).filter (fun p => !seen.contains p.1.born) = [] := by
      rw [List.filter_eq_nil_iff] at hnone ⊢
      intro p hpz
      exact hnone p.1 (List.of_mem_zip hpz).1
    rw [this]; rfl
  · have he2 : e ∈ es.toList.filter (fun e => !seen.contains e.born) := by
      unfold leftOf at he
      rw [Array.toList_filter] at he
      exact he
    obtain ⟨l1, p, l2, hz, hl, hl2⟩ := zip_filter_split seen hp.st.1 (mrel_len hp.rel) he2
    have hkv := mrel_zip hp.rel _ hz
    simp only at hkv
    refine ⟨_, _, hrun, ?_⟩
    show k (.tuple #[.bool true, e.key, e.val]) _
    rw [hkv.1, hkv.2]
    have hw : ∃ w', w1 = w' ∧ Holds B (blk b (.map es c) :: blk r (.mapIter (some b) c seen c) :: Γ) w' := by
      rcases hw1 with rfl | rfl
      · exact ⟨_, rfl, h⟩
      · exact ⟨_, rfl, h.drew _⟩
    obtain ⟨w', rfl, h⟩ := hw
    refine h1 l1 p l2 _ (by rw [hp.lf]; exact hl) (List.of_mem_zip hz).2 (MapIt.shuts (es := es) (c := c) (seen := seen.push e.born) ⟨hp.rel, hp.st, hl2.symm, ?_, fun q hq => ?_⟩ ?_)
    · have h3 := hp.cnt
      have h4 : left = l1 ++ p :: l2 := by rw [hp.lf]; exact hl
      rw [h4] at h3
      simp only [List.length_append, List.length_cons, Array.size_push] at h3 ⊢
      omega
    · cases hq
      exact ⟨seen, e, rfl, (List.of_mem_zip hz).1, hkv.1, hkv.2⟩
    · exact (h.swap.setBlock (o' := .mapIter (some b) c (seen.push e.born) c) rfl).swap

/-- How many are still to come, as the world tells. -/
def itCount (r n : Nat) (w : World) : Nat := match w.heap[r]? with
  | some (.mapIter _ _ seen _) => n - seen.size
  | _ => 0
theorem it_count {b r : Nat} {m left : List (α × β)} {cur : Option (α × β)} (h : Holds B (MapIt enc cV b r m left cur :: Γ) w) : itCount r m.length w = left.length := by
  obtain ⟨es, c, seen, hp, h⟩ := MapIt.opens h
  have := hp.cnt
  unfold itCount
  rw [h.tail.block]
  simp only
  omega
theorem r_entry {b r : Nat} {m left : List (α × β)} {p : α × β} {k : Value → K} (h : Holds B (MapIt enc cV b r m left (some p) :: Γ) w) (hk : k (.tuple #[enc p.1, cV p.2]) w) :
    Do P (Instr.entry (.pointer (some ⟨r, 0, none⟩))) id k w := by
  obtain ⟨es, c, seen, hp, h⟩ := MapIt.opens h
  obtain ⟨seen', e, hs, he, hk1, hk2⟩ := hp.cur p rfl
  subst hs
  refine ⟨_, w, run_entry_at (P := P) w r b c seen' es c e h.tail.block h.block he hp.st.1, ?_⟩
  show k (.tuple #[e.key, e.val]) w
  rw [hk1, hk2]
  exact hk
theorem run_lookZ {zv : Value} {T E : TypeId} {d : TypeDesc} {b : Nat} {m : List (α × β)} {a : α} (hT : mapIs P T d E) (hE : KeyE d enc) (hz : zeroT P E zv) {es : Array MapEntry} {c : Nat} (hb : w.heap[b]? = some (.map es c)) (hr : mrel enc cV es m) (ok : Bool) :
    (Instr.lookup T (.map (some b)) (enc a) ok).run P w = .ok (if ok then .tuple #[((mget a m).map cV).getD zv, .bool (mget a m).isSome] else ((mget a m).map cV).getD zv) w := by
  obtain ⟨kt, hT, hd⟩ := hT
  unfold Instr.lookup
  simp only [Sem.run_bind, run_underlying hT, Result.andThen, MapKept.run_getObj_map hb, run_checkKey hd (hE.key a), Sem.run_pure]
  rcases mfound hE hr a with ⟨h1, h2, _⟩ | ⟨j, x, h1, _, _, h2, _⟩
  · simp only [run_findKey hd h1, Result.andThen, Sem.run_bind, zeroT_spec hz, Sem.run_pure, h2]
    cases ok <;> rfl
  · simp only [run_findKey hd h1, Result.andThen, Sem.run_bind, Sem.run_pure, h2]
    cases ok <;> rfl
end
end Go.Sep
/- Keys as strings, sorted. -/
namespace Go.Proofs.YtinpgiafjjibnaaGreat
open Go Go.Sep
set_option linter.unusedSimpArgs false
set_option linter.unusedVariables false
set_option maxRecDepth 100000

theorem keyE_str : KeyE .string strV := ⟨fun _ => trivial, fun a b h => by
  have h1 : bs a = bs b := by injection h
  have h2 := congrArg (fun x : ByteArray => x.data.toList) h1
  simpa using h2, fun a => keyE_string.bits (bs a)⟩
theorem sortL_perm {l l' : List (List UInt8)} (h : l.Perm l') : sortL l = sortL l' := by
  have tr : ∀ a b c : List UInt8, decide (a ≤ b) = true → decide (b ≤ c) = true → decide (a ≤ c) = true := fun a b c h1 h2 => by
    simp only [decide_eq_true_eq] at *
    exact List.le_trans h1 h2
  have tot : ∀ a b : List UInt8, (decide (a ≤ b) || decide (b ≤ a)) = true := fun a b => by
    simp only [Bool.or_eq_true, decide_eq_true_eq]
    exact List.le_total a b
  refine List.Perm.eq_of_pairwise (le := fun a b => decide (a ≤ b) = true) (fun a b _ _ h1 h2 => ?_) (List.pairwise_mergeSort tr tot l) (List.pairwise_mergeSort tr tot l') ?_
  · simp only [decide_eq_true_eq] at h1 h2
    exact List.le_antisymm h1 h2
  · exact ((List.mergeSort_perm l _).trans h).trans (List.mergeSort_perm l' _).symm
theorem sortL_len (l : List (List UInt8)) : (sortL l).length = l.length := (List.mergeSort_perm l _).length_eq
theorem sortL_mem {l : List (List UInt8)} {x : List UInt8} : x ∈ sortL l ↔ x ∈ l := (List.mergeSort_perm l _).mem_iff


abbrev SlS (s : Sl) (ss : List (List UInt8)) : HProp := SlC ty_string 1 s (ss.map strV)
end Go.Proofs.YtinpgiafjjibnaaGreat
/- Structs of numbers, strings and truths are compared, and are keys of maps. Holds for every program. -/
namespace Go.Sep
open Go Go.RowKit
set_option linter.unusedSimpArgs false
set_option linter.unusedVariables false
set_option linter.unusedSectionVars false

/-- A cell that can be compared. -/
inductive Ck where
  | int (k : IntKind)
  | str
  | bool
def Ck.fit : Ck → Value → Bool
  | .int k, .int k' _ => k' == k
  | .str, .string _ => true
  | .bool, .bool _ => true
  | _, _ => false
def fits : List Ck → List Value → Bool
  | [], [] => true
  | c :: cs, v :: vs => c.fit v && fits cs vs
  | _, _ => false
def cksF (P : Program) (f : TypeId → Option (List Ck)) : List Field → Nat → Option (List Ck)
  | [], _ => some []
  | x :: fs, off => match f x.type with
    | none => none
    | some ks => if x.name != "_" && Nat.beq x.offset off && sizeT P x.type ks.length then (cksF P f fs (off + ks.length)).map (ks ++ ·) else none
def cksT (P : Program) : Nat → TypeId → Option (List Ck)
  | 0, _ => none
  | d + 1, t => match P.underlying t with
    | some (.int k) => some [.int k]
    | some .string => some [.str]
    | some .bool => some [.bool]
    | some (.struct fs) => if P.stoodInHeld t then none else cksF P (cksT P d) fs.toList 0
    | _ => none
def isStT (P : Program) (t : TypeId) : Bool := match P.underlying t with
  | some (.struct _) => true
  | _ => false
/-- Cells as a value of a type. -/
def cellsV (P : Program) (t : TypeId) (vs : List Value) : Value := if isStT P t then .agg vs.toArray else vs.headD .nilIface

theorem fit_int {k : IntKind} {v : Value} (h : (Ck.int k).fit v = true) : ∃ n, v = .int k n := by
  cases v <;> simp [Ck.fit] at h
  subst h; exact ⟨_, rfl⟩
theorem fit_str {v : Value} (h : Ck.str.fit v = true) : ∃ n, v = .string n := by
  cases v <;> simp [Ck.fit] at h
  exact ⟨_, rfl⟩
theorem fit_bool {v : Value} (h : Ck.bool.fit v = true) : ∃ n, v = .bool n := by
  cases v <;> simp [Ck.fit] at h
  exact ⟨_, rfl⟩
theorem fits_len : ∀ {ks : List Ck} {vs : List Value}, fits ks vs = true → vs.length = ks.length
  | [], [], _ => rfl
  | c :: ks, v :: vs, h => by
    simp only [fits, Bool.and_eq_true] at h
    simp [fits_len h.2]
  | [], _ :: _, h => by simp [fits] at h
  | _ :: _, [], h => by simp [fits] at h
theorem fits_app : ∀ {ks ks' : List Ck} {vs : List Value}, fits (ks ++ ks') vs = true → fits ks (vs.take ks.length) = true ∧ fits ks' (vs.drop ks.length) = true
  | [], ks', vs, h => by simpa [fits] using h
  | c :: ks, ks', [], h => by simp [fits] at h
  | c :: ks, ks', v :: vs, h => by
    simp only [List.cons_append, fits, Bool.and_eq_true] at h
    obtain ⟨h1, h2⟩ := fits_app h.2
    simp only [List.length_cons, List.take_succ_cons, List.drop_succ_cons, fits, Bool.and_eq_true]
    exact ⟨⟨h.1, h1⟩, h2⟩
section
variable {P : Program}
theorem run_isAgg {t : TypeId} {d : Nat} {ks : List Ck} (h : cksT P d t = some ks) (w : World) : (isAgg t).run P w = .ok (isStT P t) w := by
  cases d with
  | zero => cases h
  | succ d =>
    unfold cksT at h
    unfold isAgg isStT
    split at h <;> rename_i hu
    · simp [run_underlying hu, hu]
    · simp [run_underlying hu, hu]
    · simp [run_underlying hu, hu]
    · simp [run_underlying hu, hu]
    · cases h
theorem one_of {t : TypeId} {d : Nat} {ks : List Ck} (h : cksT P d t = some ks) (hs : isStT P t = false) : ∃ c, ks = [c] := by
  cases d with
  | zero => cases h
  | succ d =>
    unfold cksT at h
    unfold isStT at hs
    split at h <;> rename_i hu
    · exact ⟨_, (Option.some.inj h).symm⟩
    · exact ⟨_, (Option.some.inj h).symm⟩
    · exact ⟨_, (Option.some.inj h).symm⟩
    · rw [hu] at hs; cases hs
    · cases h
theorem run_part_flat {t : TypeId} {d : Nat} {ks : List Ck} (h : cksT P d t = some ks) (hz : sizeT P t ks.length = true) {cs : List Value} {off : Nat} (hl : off + ks.length ≤ cs.length) (w : World) :
    (part t cs.toArray off).run P w = .ok (cellsV P t ((cs.drop off).take ks.length)) w := by
  unfold part cellsV
  simp only [Sem.run_bind, run_isAgg h, Result.andThen]
  cases hs : isStT P t with
  | true =>
    simp only [if_true, Sem.run_bind, sizeT_spec hz, Result.andThen, Sem.run_pure]
    congr 2
    apply Array.ext'
    simp [List.extract]
  | false =>
    obtain ⟨c, rfl⟩ := one_of h hs
    simp only [List.length_cons, List.length_nil, Nat.zero_add] at hl ⊢
    have hlt : off < cs.length := by omega
    have e : cs.toArray[off]? = some cs[off] := by simp [hlt]
    simp only [Bool.false_eq_true, if_false, e, Sem.run_pure]
    rw [List.drop_eq_getElem_cons hlt]
    rfl

/-! ### equality -/
theorem run_eqF {D d : Nat} (ih : ∀ t ks xs ys, cksT P d t = some ks → fits ks xs = true → fits ks ys = true → ∀ w, ∃ r : Bool, (Op.equalIn D t (cellsV P t xs) (cellsV P t ys)).run P w = .ok r w ∧ (r = true ↔ xs = ys)) (xs ys : List Value) :
    ∀ (fs : List Field) (off : Nat) (ks : List Ck), cksF P (cksT P d) fs off = some ks → off ≤ xs.length → off ≤ ys.length → fits ks (xs.drop off) = true → fits ks (ys.drop off) = true → ∀ w, ∃ r : Bool, (Op.eqFields D xs.toArray ys.toArray fs).run P w = .ok r w ∧ (r = true ↔ xs.drop off = ys.drop off)
  | [], off, ks, h, _, _, hx, hy, w => by
    simp only [cksF, Option.some.injEq] at h
    subst h
    have h1 := List.length_eq_zero_iff.1 (fits_len hx)
    have h2 := List.length_eq_zero_iff.1 (fits_len hy)
    exact ⟨true, by simp [Op.eqFields], by simp [h1, h2]⟩
  | f :: fs, off, ks, h, lx, ly, hx, hy, w => by
    unfold cksF at h
    split at h
    · cases h
    rename_i k1 hk1
    split at h
    · rename_i hc
      simp only [Bool.and_eq_true, bne_iff_ne, ne_eq, Nat.beq_eq] at hc
      obtain ⟨⟨hn, rfl⟩, hz⟩ := hc
      simp only [Option.map_eq_some_iff] at h
      obtain ⟨k2, hk2, rfl⟩ := h
      have ax := fits_app hx
      have ay := fits_app hy
      have cx := fits_len hx
      have cy := fits_len hy
      simp only [List.length_append, List.length_drop] at cx cy
      obtain ⟨r, hr, hiff⟩ := ih f.type k1 _ _ hk1 ax.1 ay.1 w
      obtain ⟨r2, hr2, hiff2⟩ := run_eqF ih xs ys fs _ k2 hk2 (by omega) (by omega) (by rw [← List.drop_drop]; exact ax.2) (by rw [← List.drop_drop]; exact ay.2) w
      unfold Op.eqFields
      rw [if_pos hn]
      simp only [Sem.run_bind, run_part_flat hk1 hz (show f.offset + k1.length ≤ xs.length by omega), run_part_flat hk1 hz (show f.offset + k1.length ≤ ys.length by omega), Result.andThen, hr]
      have hsp : xs.drop f.offset = ys.drop f.offset ↔ ((xs.drop f.offset).take k1.length = (ys.drop f.offset).take k1.length ∧ xs.drop (f.offset + k1.length) = ys.drop (f.offset + k1.length)) := by
        constructor
        · intro e; rw [e, ← List.drop_drop, ← List.drop_drop, e]; exact ⟨rfl, rfl⟩
        · rintro ⟨e1, e2⟩
          rw [← List.take_append_drop k1.length (xs.drop f.offset), ← List.take_append_drop k1.length (ys.drop f.offset), e1, List.drop_drop, List.drop_drop, e2]
      cases r with
      | false =>
        refine ⟨false, by simp, ?_⟩
        rw [hsp, ← hiff]; simp
      | true =>
        refine ⟨r2, by simpa using hr2, ?_⟩
        rw [hsp, ← hiff, hiff2]; simp
    · cases h
theorem str_inj {a b : ByteArray} : (a.toList == b.toList) = true ↔ a = b := by
  obtain ⟨x, rfl⟩ := bs_of a
  obtain ⟨y, rfl⟩ := bs_of b
  rw [bs_list, bs_list, beq_iff_eq]
  exact ⟨fun h => by rw [h], fun h => by have := congrArg ByteArray.toList h; rwa [bs_list, bs_list] at this⟩
theorem run_eq_flat (D : Nat) : ∀ (d : Nat) (t : TypeId) (ks : List Ck) (xs ys : List Value), cksT P d t = some ks → fits ks xs = true → fits ks ys = true → ∀ w, ∃ r : Bool, (Op.equalIn (D + d) t (cellsV P t xs) (cellsV P t ys)).run P w = .ok r w ∧ (r = true ↔ xs = ys)
  | 0, t, ks, xs, ys, h, _, _, w => by cases h
  | d + 1, t, ks, xs, ys, h, hx, hy, w => by
    unfold cksT at h
    have lx := fits_len hx
    have ly := fits_len hy
    split at h <;> rename_i hu
    · injection h with h; subst h
      obtain ⟨x, rfl⟩ := List.length_eq_one_iff.1 lx
      obtain ⟨y, rfl⟩ := List.length_eq_one_iff.1 ly
      simp only [fits, Bool.and_true] at hx hy
      have hs : isStT P t = false := by unfold isStT; rw [hu]
      obtain ⟨a, rfl⟩ := fit_int hx
      obtain ⟨b, rfl⟩ := fit_int hy
      refine ⟨a == b, ?_, by simp⟩
      simp only [cellsV, hs, Bool.false_eq_true, if_false, List.headD_cons]
      exact run_equalIn_int w (D + d) t _ _ _ _ hu
    · injection h with h; subst h
      obtain ⟨x, rfl⟩ := List.length_eq_one_iff.1 lx
      obtain ⟨y, rfl⟩ := List.length_eq_one_iff.1 ly
      simp only [fits, Bool.and_true] at hx hy
      have hs : isStT P t = false := by unfold isStT; rw [hu]
      obtain ⟨a, rfl⟩ := fit_str hx
      obtain ⟨b, rfl⟩ := fit_str hy
      refine ⟨a.toList == b.toList, ?_, by rw [str_inj]; simp⟩
      simp only [cellsV, hs, Bool.false_eq_true, if_false, List.headD_cons]
      exact run_equalIn_string w (D + d) t _ _ hu
    · injection h with h; subst h
      obtain ⟨x, rfl⟩ := List.length_eq_one_iff.1 lx
      obtain ⟨y, rfl⟩ := List.length_eq_one_iff.1 ly
      simp only [fits, Bool.and_true] at hx hy
      have hs : isStT P t = false := by unfold isStT; rw [hu]
      obtain ⟨a, rfl⟩ := fit_bool hx
      obtain ⟨b, rfl⟩ := fit_bool hy
      refine ⟨a == b, ?_, by simp⟩
      simp only [cellsV, hs, Bool.false_eq_true, if_false, List.headD_cons]
      exact run_equalIn_bool' w (D + d) t _ _ hu
    · rename_i fs
      split at h
      · cases h
      rename_i hst
      have hs : isStT P t = true := by unfold isStT; rw [hu]
      have hf : P.fieldsOf t = fs := by unfold Program.fieldsOf; rw [hu]
      simp only [cellsV, hs, if_true]
      rw [show D + (d + 1) = (D + d) + 1 by omega, run_equalIn_agg w (D + d) t _ _ (by rw [hf, hu]) (by simpa using hst), hf]
      have := run_eqF (D := D + d) (fun t ks xs ys h1 h2 h3 w => run_eq_flat D d t ks xs ys h1 h2 h3 w) xs ys fs.toList 0 ks h (Nat.zero_le _) (Nat.zero_le _) (by simpa using hx) (by simpa using hy) w
      simpa using this
    · cases h
theorem run_equal_flat {d : Nat} (hd : d ≤ 10000) {t : TypeId} {ks : List Ck} {xs ys : List Value} (h : cksT P d t = some ks) (hs : isStT P t = true) (hx : fits ks xs = true) (hy : fits ks ys = true) (w : World) : ∃ r : Bool, (Op.equal t (.agg xs.toArray) (.agg ys.toArray)).run P w = .ok r w ∧ (r = true ↔ xs = ys) := by
  have := run_eq_flat (10000 - d) d t ks xs ys h hx hy w
  rw [show 10000 - d + d = 10000 by omega] at this
  unfold Op.equal Op.maxDepth
  simpa only [cellsV, hs, if_true] using this

/-- Two structs are compared. -/
theorem s_eqS {B : World} {Γ : List HProp} {T : TypeId} {ks : List Ck} {xs ys : List Value} {p : Prop} [Decidable p] {x y : Operand} {k : Bool → K} (hp : xs = ys ↔ p) (h : HG B Γ (k (decide p))) (hc : cksT P 9 T = some ks := by kernel_rfl) (hs : isStT P T = true := by kernel_rfl) (hg : P.eqGuardType P.depth T = false := by kernel_rfl) (hx : fits ks xs = true := by rfl) (hy : fits ks ys = true := by rfl) :
    HG B Γ (Pu P (do eqGuard .eql T x y (.agg xs.toArray) (.agg ys.toArray); binOp .eql T (.agg xs.toArray) (.agg ys.toArray) : Sem Value) Value.bool k) := fun w hw => by
  refine ⟨decide p, fun w => ?_, h w hw⟩
  obtain ⟨r, hr, hiff⟩ := run_equal_flat (by omega) hc hs hx hy w
  have e : r = decide p := by rw [Bool.eq_iff_iff, hiff, hp]; simp
  subst e
  simp only [Op.equal, Op.maxDepth] at hr
  simp only [Sem.run_bind, run_eqGuard_agg w _ _ _ _ _ _ hg, Result.andThen, run_eql_struct, hr]
theorem s_neS {B : World} {Γ : List HProp} {T : TypeId} {ks : List Ck} {xs ys : List Value} {p : Prop} [Decidable p] {x y : Operand} {k : Bool → K} (hp : xs = ys ↔ p) (h : HG B Γ (k (!decide p))) (hc : cksT P 9 T = some ks := by kernel_rfl) (hs : isStT P T = true := by kernel_rfl) (hg : P.eqGuardType P.depth T = false := by kernel_rfl) (hx : fits ks xs = true := by rfl) (hy : fits ks ys = true := by rfl) :
    HG B Γ (Pu P (do eqGuard .neq T x y (.agg xs.toArray) (.agg ys.toArray); binOp .neq T (.agg xs.toArray) (.agg ys.toArray) : Sem Value) Value.bool k) := fun w hw => by
  refine ⟨!decide p, fun w => ?_, h w hw⟩
  obtain ⟨r, hr, hiff⟩ := run_equal_flat (by omega) hc hs hx hy w
  have e : r = decide p := by rw [Bool.eq_iff_iff, hiff, hp]; simp
  subst e
  simp only [Op.equal, Op.maxDepth] at hr
  simp only [Sem.run_bind, run_eqGuard_agg w _ _ _ _ _ _ hg, Result.andThen, run_neq_struct, hr]

/-! ### structs as keys -/
theorem run_chkF {D d : Nat} {e : Bool} (ih : ∀ t ks xs, cksT P d t = some ks → fits ks xs = true → ∀ w, (Instr.checkKey e D t (cellsV P t xs)).run P w = .ok () w) (xs : List Value) {body : Field → PUnit → Sem (ForInStep PUnit)}
    (hb : ∀ f v w, f.name ≠ "_" → (part f.type xs.toArray f.offset).run P w = .ok v w → (Instr.checkKey e D f.type v).run P w = .ok () w → (body f PUnit.unit).run P w = .ok (.yield PUnit.unit) w) :
    ∀ (fs : List Field) (off : Nat) (ks : List Ck), cksF P (cksT P d) fs off = some ks → off ≤ xs.length → fits ks (xs.drop off) = true → ∀ w, (forIn fs PUnit.unit body).run P w = .ok PUnit.unit w
  | [], off, ks, h, _, hx, w => by simp
  | f :: fs, off, ks, h, lx, hx, w => by
    unfold cksF at h
    split at h
    · cases h
    rename_i k1 hk1
    split at h
    · rename_i hc
      simp only [Bool.and_eq_true, bne_iff_ne, ne_eq, Nat.beq_eq] at hc
      obtain ⟨⟨hn, rfl⟩, hz⟩ := hc
      simp only [Option.map_eq_some_iff] at h
      obtain ⟨k2, hk2, rfl⟩ := h
      have ax := fits_app hx
      have cx := fits_len hx
      simp only [List.length_append, List.length_drop] at cx
      have h2 := run_chkF ih xs hb fs _ k2 hk2 (by omega) (by rw [← List.drop_drop]; exact ax.2) w
      have h3 := hb f _ w hn (run_part_flat hk1 hz (show f.offset + k1.length ≤ xs.length by omega) w) (ih f.type k1 _ hk1 ax.1 w)
      simp only [List.forIn_cons, Sem.run_bind, h3, Result.andThen]
      exact h2
    · cases h
theorem run_chk_flat (D : Nat) {e : Bool} : ∀ (d : Nat) (t : TypeId) (ks : List Ck) (xs : List Value), cksT P d t = some ks → fits ks xs = true → ∀ w, (Instr.checkKey e (D + d) t (cellsV P t xs)).run P w = .ok () w
  | 0, t, ks, xs, h, _, w => by cases h
  | d + 1, t, ks, xs, h, hx, w => by
    unfold cksT at h
    have lx := fits_len hx
    rw [show D + (d + 1) = (D + d) + 1 by omega]
    split at h <;> rename_i hu
    · injection h with h; subst h
      obtain ⟨x, rfl⟩ := List.length_eq_one_iff.1 lx
      have hs : isStT P t = false := by unfold isStT; rw [hu]
      simp only [cellsV, hs, Bool.false_eq_true, if_false, List.headD_cons]
      unfold Instr.checkKey
      simp [run_underlying hu, Result.andThen]
    · injection h with h; subst h
      obtain ⟨x, rfl⟩ := List.length_eq_one_iff.1 lx
      have hs : isStT P t = false := by unfold isStT; rw [hu]
      simp only [cellsV, hs, Bool.false_eq_true, if_false, List.headD_cons]
      unfold Instr.checkKey
      simp [run_underlying hu, Result.andThen]
    · injection h with h; subst h
      obtain ⟨x, rfl⟩ := List.length_eq_one_iff.1 lx
      have hs : isStT P t = false := by unfold isStT; rw [hu]
      simp only [cellsV, hs, Bool.false_eq_true, if_false, List.headD_cons]
      unfold Instr.checkKey
      simp [run_underlying hu, Result.andThen]
    · rename_i fs
      split at h
      · cases h
      have hs : isStT P t = true := by unfold isStT; rw [hu]
      simp only [cellsV, hs, if_true]
      unfold Instr.checkKey
      simp only [Sem.run_bind, run_underlying hu, Result.andThen]
      rw [← Array.forIn_toList]
      rw [run_chkF (D := D + d) (e := e) (fun t ks xs h1 h2 w => run_chk_flat D d t ks xs h1 h2 w) xs (fun f v w h1 h2 h3 => by rw [if_pos h1]; simp only [Sem.run_bind, h2, h3, Result.andThen, Sem.run_pure]) fs.toList 0 ks h (Nat.zero_le _) (by simpa using hx) w]
      simp
    · cases h

/-- A way to write keys that are structs. -/
structure KeyS {α : Type} (P : Program) (kt : TypeId) (cel : α → List Value) : Prop where
  st : isStT P kt = true
  ks : ∃ ks, cksT P 9 kt = some ks ∧ ∀ a, fits ks (cel a) = true
  inj : ∀ a b, cel a = cel b → a = b
  bits : ∀ a, Instr.sameBits 10000 (.agg (cel a).toArray) (.agg (cel a).toArray) = true
abbrev kyS {α : Type} (cel : α → List Value) (a : α) : Value := .agg (cel a).toArray
section
variable {α β : Type} [DecidableEq α] {B w : World} {Γ Δ : List HProp} {kt : TypeId} {cel : α → List Value} {cV : β → Value} {k : K}
theorem KeyS.chk (hE : KeyS P kt cel) (a : α) (e : Bool) (w : World) : (Instr.checkKey e 10000 kt (kyS cel a)).run P w = .ok () w := by
  obtain ⟨ks, h1, h2⟩ := hE.ks
  have := run_chk_flat 9991 (e := e) 9 kt ks (cel a) h1 (h2 a) w
  simpa only [cellsV, hE.st, if_true] using this
theorem KeyS.eq (hE : KeyS P kt cel) (a b : α) (w : World) : (Op.equal kt (kyS cel a) (kyS cel b)).run P w = .ok (decide (a = b)) w := by
  obtain ⟨ks, h1, h2⟩ := hE.ks
  obtain ⟨r, hr, hiff⟩ := run_equal_flat (d := 9) (by omega) h1 hE.st (h2 a) (h2 b) w
  have e : r = decide (a = b) := by rw [Bool.eq_iff_iff, hiff]; simp; exact ⟨hE.inj a b, fun h => by rw [h]⟩
  rw [← e]; exact hr
theorem run_ask (hE : KeyS P kt cel) (a : α) (w : World) : ∀ (l : List MapEntry) (m : List (α × β)) (i : Nat), l.map (fun e => (e.key, e.val)) = m.map (fun p => (kyS cel p.1, cV p.2)) →
    (mget a m = none ∧ (Instr.findAsking kt (kyS cel a) l i).run P w = .ok none w) ∨ ∃ j x, m[j]? = some (a, x) ∧ (∀ i, i < j → ∀ p, m[i]? = some p → p.1 ≠ a) ∧ (Instr.findAsking kt (kyS cel a) l i).run P w = .ok (some (i + j, cV x)) w
  | [], [], i, _ => .inl ⟨rfl, by simp [Instr.findAsking]⟩
  | [], _ :: _, i, h => by simp at h
  | _ :: _, [], i, h => by simp at h
  | e :: l, p :: m, i, h => by
    simp only [List.map_cons, List.cons.injEq, Prod.mk.injEq] at h
    obtain ⟨⟨e1, e2⟩, h⟩ := h
    unfold Instr.findAsking
    simp only [Sem.run_bind, e1, hE.eq, Result.andThen]
    by_cases hp : a = p.1
    · right
      refine ⟨0, p.2, by rw [hp]; rfl, fun i hi => absurd hi (by omega), ?_⟩
      simp [hp, e2]
    · rcases run_ask hE a w l m (i + 1) h with ⟨h1, h2⟩ | ⟨j, x, h1, h2, h3⟩
      · left
        refine ⟨?_, ?_⟩
        · unfold mget; rw [if_neg hp]; exact h1
        · simpa [hp] using h2
      · right
        refine ⟨j + 1, x, by simpa using h1, fun i' hi q hq => ?_, ?_⟩
        · cases i' with
          | zero => simp at hq; subst hq; exact fun e => hp e.symm
          | succ i' => exact h2 i' (by omega) q (by simpa using hq)
        · simp only [hp, decide_false, Bool.false_eq_true, if_false, h3]
          congr 3; omega
theorem run_findS (hE : KeyS P kt cel) {es : Array MapEntry} {m : List (α × β)} (hr : mrel (kyS cel) cV es m) (a : α) (w : World) :
    ((Instr.findKey kt (kyS cel a) es.toList).run P w = .ok none w ∧ mget a m = none ∧ (∀ v, mset a v m = m ++ [(a, v)]) ∧ mdel a m = m) ∨
    ∃ j x, (Instr.findKey kt (kyS cel a) es.toList).run P w = .ok (some (j, cV x)) w ∧ j < m.length ∧ m[j]? = some (a, x) ∧ mget a m = some x ∧ (∀ v, mset a v m = m.set j (a, v)) ∧ mdel a m = m.eraseIdx j := by
  obtain ⟨fs, hu⟩ : ∃ fs, P.underlying kt = some (.struct fs) := by
    have h1 := hE.st
    unfold isStT at h1
    split at h1
    · rename_i fs hu; exact ⟨fs, hu⟩
    · cases h1
  have hfk : (Instr.findKey kt (kyS cel a) es.toList).run P w = (Instr.findAsking kt (kyS cel a) es.toList 0).run P w := by
    unfold Instr.findKey
    simp only [Sem.run_bind, run_underlying hu, Result.andThen]
    cases es.toList with
    | nil => simp [Instr.findNow, Instr.findAsking]
    | cons e l => simp [Instr.findNow, Instr.sameNow]
  rw [hfk]
  rcases mfind a m with ⟨h1, h2, h3, h4⟩ | ⟨j, x, hj, h0, hb, h1, h2, h3⟩
  · rcases run_ask hE a w es.toList m 0 hr with ⟨_, g2⟩ | ⟨j, x, g1, _, _⟩
    · exact .inl ⟨g2, h1, h2, h3⟩
    · exact absurd rfl (h4 _ (List.mem_of_getElem? g1))
  · rcases run_ask hE a w es.toList m 0 hr with ⟨g1, _⟩ | ⟨j', x', g1, g2, g3⟩
    · rw [g1] at h1; cases h1
    · have hjj : j = j' := by
        rcases Nat.lt_trichotomy j j' with h | h | h
        · exact absurd rfl (g2 j h _ h0)
        · exact h
        · exact absurd rfl (hb j' h _ g1)
      subst hjj
      rw [h0] at g1
      simp only [Option.some.injEq, Prod.mk.injEq, true_and] at g1
      subst g1
      exact .inr ⟨j, x, by simpa using g3, hj, h0, h1, h2, h3⟩
theorem s_look1S {T E : TypeId} {b : Nat} {m : List (α × β)} {z : β} {a : α} {k : β → K} (hE : KeyS P kt cel) (hz : zeroT P E (cV z)) (h : HG B Γ (k ((mget a m).getD z))) (hT : P.underlying T = some (.map kt E) := by kernel_rfl) [p : Own b Γ (MapR (kyS cel) cV b m) Δ] :
    HG B Γ (Rd P (Instr.lookup T (.map (some b)) (kyS cel a) false) cV k) := fun w hw => by
  obtain ⟨es, c, ⟨hr, hst⟩, h1⟩ := MapR.opens (hw.perm p.perm)
  have hb := h1.block
  refine ⟨_, ?_, h w hw⟩
  unfold Instr.lookup
  simp only [Sem.run_bind, run_underlying hT, Result.andThen, MapKept.run_getObj_map hb, hE.chk, Sem.run_pure]
  rcases run_findS hE hr a w with ⟨g1, g2, _⟩ | ⟨j, x, g1, _, _, g2, _⟩
  · simp only [g1, Result.andThen, Sem.run_bind, zeroT_spec hz, Sem.run_pure, g2]; rfl
  · simp only [g1, Result.andThen, Sem.run_bind, Sem.run_pure, g2]; rfl
theorem s_look2S {T E : TypeId} {b : Nat} {m : List (α × β)} {z : β} {a : α} {k : β → Bool → K} (hE : KeyS P kt cel) (hz : zeroT P E (cV z)) (h : HG B Γ (k ((mget a m).getD z) (mget a m).isSome)) (hT : P.underlying T = some (.map kt E) := by kernel_rfl) [p : Own b Γ (MapR (kyS cel) cV b m) Δ] :
    HG B Γ (Rd2 P (Instr.lookup T (.map (some b)) (kyS cel a) true) (fun x y => .tuple #[cV x, .bool y]) k) := fun w hw => by
  obtain ⟨es, c, ⟨hr, hst⟩, h1⟩ := MapR.opens (hw.perm p.perm)
  have hb := h1.block
  refine ⟨_, _, ?_, h w hw⟩
  unfold Instr.lookup
  simp only [Sem.run_bind, run_underlying hT, Result.andThen, MapKept.run_getObj_map hb, hE.chk, Sem.run_pure]
  rcases run_findS hE hr a w with ⟨g1, g2, _⟩ | ⟨j, x, g1, _, _, g2, _⟩
  · simp only [g1, Result.andThen, Sem.run_bind, zeroT_spec hz, Sem.run_pure, g2]; rfl
  · simp only [g1, Result.andThen, Sem.run_bind, Sem.run_pure, g2]; rfl
theorem s_updS {T E : TypeId} {b : Nat} {m : List (α × β)} {a : α} {v : β} {x : Value} (hE : KeyS P kt cel) (hx : x = cV v) (h : HG B (MapR (kyS cel) cV b (mset a v m) :: Δ) k) (hT : P.underlying T = some (.map kt E) := by kernel_rfl) [p : Own b Γ (MapR (kyS cel) cV b m) Δ] :
    HG B Γ (DoU P (Instr.mapUpdate T (.map (some b)) (kyS cel a) x) k) := fun w hw => by
  subst hx
  obtain ⟨es, c, ⟨hr, hst⟩, h1⟩ := MapR.opens (hw.perm p.perm)
  have hb := h1.block
  have hlen : es.size = m.length := by have := congrArg List.length hr; simpa using this
  unfold Instr.mapUpdate DoU
  simp only [Sem.run_bind, run_underlying hT, Result.andThen, MapKept.run_getObj_map hb, hE.chk]
  rcases run_findS hE hr a w with ⟨g1, _, h2, _⟩ | ⟨j, x, g1, hj, h0, _, h2, _⟩
  · simp only [g1, Result.andThen]
    obtain ⟨e1, h3⟩ := h1.setMap (P := P) (es' := es.push { key := kyS cel a, val := cV v, born := c }) (c' := c + 1)
    refine ⟨_, _, e1, h _ (MapR.shuts ⟨?_, stamps_push hst _ _⟩ h3)⟩
    rw [h2]
    simp only [mrel, Array.toList_push, List.map_append, List.map_cons, List.map_nil]
    rw [show es.toList.map (fun e => (e.key, e.val)) = _ from hr]
  · have hes : ∃ e, es.toList[j]? = some e ∧ e.key = kyS cel a := by
      have := mrel_at hr j
      rw [h0] at this
      cases he : es.toList[j]? with
      | none => rw [he] at this; simp at this
      | some e =>
        rw [he] at this
        simp only [Option.map_some, Option.some.injEq, Prod.mk.injEq] at this
        exact ⟨e, rfl, this.1⟩
    obtain ⟨e, he, hek⟩ := hes
    have he2 : es[j]? = some e := by rw [← he, Array.getElem?_toList]
    simp only [g1, Result.andThen, Sem.run_bind, he2, Option.map_some, Option.getD_some, hek, Instr.keyThatStays, kyS, hE.bits, if_true, Sem.run_pure]
    obtain ⟨e1, h3⟩ := h1.setMap (P := P) (es' := es.modify j fun e => { e with key := kyS cel a, val := cV v }) (c' := c)
    refine ⟨_, _, e1, h _ (MapR.shuts ⟨?_, stamps_modify hst _ _ _⟩ h3)⟩
    rw [h2]
    simp only [mrel]
    apply List.ext_getElem?
    intro i
    have hi := mrel_at hr i
    simp only [List.getElem?_map, Array.getElem?_toList, Array.getElem?_modify] at hi ⊢
    by_cases hij : j = i
    · subst hij
      rw [List.getElem?_set_self hj, he2]
      simp
    · rw [List.getElem?_set_ne hij, if_neg hij]
      exact hi
theorem s_mdeleteS {T E t : TypeId} {b : Nat} {m : List (α × β)} {a : α} {k : Value → K} (hE : KeyS P kt cel) (h : HG B (MapR (kyS cel) cV b (mdel a m) :: Δ) (k (.tuple #[]))) (hT : P.underlying T = some (.map kt E) := by kernel_rfl) [p : Own b Γ (MapR (kyS cel) cV b m) Δ] :
    HG B Γ (Do P (Builtin.delete_ #[T, kt] t #[.map (some b), kyS cel a]) id k) := fun w hw => by
  obtain ⟨es, c, ⟨hr, hst⟩, h1⟩ := MapR.opens (hw.perm p.perm)
  have hb := h1.block
  have hlen : es.size = m.length := by have := congrArg List.length hr; simpa using this
  have e0 : #[T, kt][0]? = some T := rfl
  have e1 : #[Value.map (some b), kyS cel a][0]? = some (.map (some b)) := rfl
  have e2 : #[Value.map (some b), kyS cel a][1]? = some (kyS cel a) := rfl
  unfold Builtin.delete_ Do
  simp only [e0, e1, e2, Sem.run_bind, run_underlying hT, Result.andThen, MapKept.run_getObj_map hb, hE.chk]
  rcases run_findS hE hr a w with ⟨g1, _, _, h2⟩ | ⟨j, x, g1, hj, h0, _, _, h2⟩
  · simp only [g1, Result.andThen, Sem.run_bind]
    obtain ⟨e3, h3⟩ := h1.setMap (P := P) (es' := es) (c' := c)
    refine ⟨.tuple #[], _, ?_, h _ (MapR.shuts ⟨?_, hst⟩ h3)⟩
    · simp only [Sem.run_bind, e3, Result.andThen, Sem.run_pure]; rfl
    rw [h2]; exact hr
  · simp only [g1, Result.andThen, Sem.run_bind]
    obtain ⟨e3, h3⟩ := h1.setMap (P := P) (es' := es.eraseIdxIfInBounds j) (c' := c)
    refine ⟨.tuple #[], _, ?_, h _ (MapR.shuts ⟨?_, stamps_erase hst _⟩ h3)⟩
    · simp only [Sem.run_bind, e3, Result.andThen, Sem.run_pure]; rfl
    rw [h2]
    have hjs : j < es.size := by omega
    simp only [mrel, Array.eraseIdxIfInBounds, dif_pos hjs, Array.toList_eraseIdx]
    have mape : ∀ {α β : Type} (f : α → β) (l : List α) (i : Nat), (l.eraseIdx i).map f = (l.map f).eraseIdx i := by
      intro α β f l
      induction l with
      | nil => intro i; simp
      | cons x l ih => intro i; cases i <;> simp [ih]
    rw [mape, mape, show es.toList.map (fun e => (e.key, e.val)) = _ from hr]

/-! ### ranges over maps -/
theorem s_range {enc : α → Value} {T E : TypeId} {d : TypeDesc} {b : Nat} {m : List (α × β)} {k : Option Addr → K} (hT : mapIs P T d E) (h : ∀ r, HG B (MapIt enc cV b r m m none :: Δ) (k (some ⟨r, 0, none⟩))) [p : Own b Γ (MapR enc cV b m) Δ] :
    HG B Γ (Do P (Instr.range T (.map (some b))) Value.pointer k) := fun w hw => r_range hT (hw.perm p.perm) fun r w hw => h r w hw
class OwnI (r : Nat) (Γ : List HProp) (A : outParam HProp) (Δ : outParam (List HProp)) : Prop where perm : Γ.Perm (A :: Δ)
instance (priority := low) ownI_tail {r : Nat} {X A : HProp} {Γ Δ : List HProp} [h : OwnI r Γ A Δ] : OwnI r (X :: Γ) A (X :: Δ) := ⟨perm_tail h.perm⟩
instance (priority := high) ownI_it {α β : Type} [DecidableEq α] {enc : α → Value} {cV : β → Value} {b r : Nat} {m left : List (α × β)} {cur : Option (α × β)} {Γ : List HProp} : OwnI r (MapIt enc cV b r m left cur :: Γ) (MapIt enc cV b r m left cur) Γ := ⟨.refl _⟩
theorem s_extr {α : Type} {vs : List Value} {i : Nat} {c : α → Value} {v : Value} {x : α} {k : α → K} (h : HG B Γ (k x)) [n : NthV vs i v] [e : Cv c v x] : HG B Γ (Ext (.tuple vs.toArray) i c k) := fun w hw => ⟨_, x, rfl, by have := n.h; rw [nth_eq] at this; rw [e.h] at this; simpa using this, h w hw⟩
instance nx_ext {α : Type} {vs : List Value} {i : Nat} {c : α → Value} {v : Value} {x : α} {k : α → K} [n : NthV vs i v] [e : Cv c v x] : Nx B Γ (Ext (.tuple vs.toArray) i c k) Γ (k x) := ⟨fun h => s_extr h⟩
theorem s_next {enc : α → Value} {b r : Nat} {m left : List (α × β)} {cur : Option (α × β)} {k : Value → K} (h0 : left = [] → HG B (MapR enc cV b m :: Δ) (k (.tuple #[.bool false])))
    (h1 : ∀ l1 p l2, left = l1 ++ p :: l2 → p ∈ m → HG B (MapIt enc cV b r m (l1 ++ l2) (some p) :: Δ) (k (.tuple #[.bool true, enc p.1, cV p.2]))) [p : OwnI r Γ (MapIt enc cV b r m left cur) Δ] :
    HG B Γ (Do P (Instr.next (.pointer (some ⟨r, 0, none⟩)) false 0) id k) := fun w hw => r_next (hw.perm p.perm) (fun h w hw => h0 h w hw) fun l1 q l2 w e hq hw => h1 l1 q l2 e hq w hw
theorem s_entry {enc : α → Value} {b r : Nat} {m left : List (α × β)} {q : α × β} {k : Value → K} (h : HG B Γ (k (.tuple #[enc q.1, cV q.2]))) [p : OwnI r Γ (MapIt enc cV b r m left (some q)) Δ] :
    HG B Γ (Do P (Instr.entry (.pointer (some ⟨r, 0, none⟩))) id k) := fun w hw => r_entry (hw.perm p.perm) (h w hw)
theorem s_itEnd {enc : α → Value} {b r : Nat} {m left : List (α × β)} {cur : Option (α × β)} (h : HG B (MapR enc cV b m :: Δ) k) [p : OwnI r Γ (MapIt enc cV b r m left cur) Δ] : HG B Γ k := fun w hw => h w (MapIt.ends (hw.perm p.perm))
end
end
end Go.Sep
/- The library's IndexFunc, DeleteFunc and their kin, whatever the elements. Holds for every program. -/
namespace Go.Sep
open Go Go.RowKit
set_option linter.unusedSimpArgs false
set_option linter.unusedVariables false

/-- An element is read. -/
abbrev accN (esz : Nat) (s : Sl) (i : Int) (k : Value → K) : K := Idx s i esz fun t => LdN t esz fun a => k (.agg a)
abbrev acc1 {α : Type} (c : α → Value) (s : Sl) (i : Int) (k : Value → K) : K := Idx s i 1 fun t => Ld t c fun a => k (c a)
/-- slices.IndexFunc, as it is printed. -/
def idxFK (P : Program) (acc : Sl → Int → (Value → K) → K) (s : Sl) (fv : Value) (Q : Int → K) : K :=
  LoopK (α := Int) (fun X x =>
    Ite (decide (x < (s.n : Int)))
      (acc s x fun v =>
      CallV P fv [v] <| Ans1 (fun (t : Bool) => Value.bool t) fun b =>
      Ite b
        (Q x)
        (Ar (IntKind.wrap .i64 (x + 1)) fun t =>
        X t))
      (Q (-1))) 0
def findG {γ α : Type} (p : γ → α → Bool) (st : γ → α → γ) : γ → List α → γ × Option Nat
  | g, [] => (g, none)
  | g, x :: L => if p g x then (st g x, some 0) else ((findG p st (st g x) L).1, (findG p st (st g x) L).2.map (· + 1))
def idxI : Option Nat → Int
  | none => -1
  | some i => i
def delG {γ α : Type} (p : γ → α → Bool) (st : γ → α → γ) : γ → List α → γ × List α
  | g, [] => (g, [])
  | g, x :: L => ((delG p st (st g x) L).1, if p g x then (delG p st (st g x) L).2 else x :: (delG p st (st g x) L).2)
section
variable {P : Program} {B : World} {Γ Δ : List HProp} {α γ : Type}
theorem delG_cons {p : γ → α → Bool} {st : γ → α → γ} {g : γ} {x : α} {L : List α} : delG p st g (x :: L) = ((delG p st (st g x) L).1, if p g x then (delG p st (st g x) L).2 else x :: (delG p st (st g x) L).2) := rfl
theorem findG_cons {p : γ → α → Bool} {st : γ → α → γ} {g : γ} {x : α} {L : List α} : findG p st g (x :: L) = if p g x then (st g x, some 0) else ((findG p st (st g x) L).1, (findG p st (st g x) L).2.map (· + 1)) := rfl
/-- A whole block is read. -/
theorem s_ldW {b n : Nat} {l : List Value} {T : TypeId} {fz : Nat × Nat} {k : Array Value → K} (h : HG B Γ (k l.toArray)) (hl : l.length = n) [p : Own b Γ (blk b (.cells l.toArray T fz)) Δ] : HG B Γ (LdN ⟨b, 0, none⟩ n k) :=
  s_ldN (b := b) (off := 0) (l' := l) h (by rw [List.drop_zero, List.take_of_length_le (Nat.le_of_eq hl)]) hl
theorem s_idxF {R : γ → List HProp} {acc : Sl → Int → (Value → K) → K} {s : Sl} {fv : Value} {vV : α → Value} {Q : Int → K} {L : List α} (p : γ → α → Bool) (st : γ → α → γ) (g0 : γ) (I : γ → List α → Prop) (hI : I g0 L) (hIs : ∀ g x C, I g (x :: C) → I (st g x) C) (hn : s.n = L.length) (hL : L.length < 1000000000)
    (hacc : ∀ g (i : Nat) x k, L[i]? = some x → HG B (R g) (k (vV x)) → HG B (R g) (acc s (i : Int) k))
    (hf : ∀ g x C (q : Bool → K), x ∈ L → I g (x :: C) → HG B (R (st g x)) (q (p g x)) → HG B (R g) (CallV P fv [vV x] (Ans1 (fun (t : Bool) => Value.bool t) q)))
    (h : HG B (R (findG p st g0 L).1) (Q (idxI (findG p st g0 L).2))) : HG B (R g0) (idxFK P acc s fv Q) := by
  unfold idxFK
  refine s_loop (α := Int) (ι := Nat × γ) (fun x i => x = (i.1 : Int) ∧ i.1 ≤ L.length ∧ I i.2 (L.drop i.1) ∧ findG p st g0 L = ((findG p st i.2 (L.drop i.1)).1, (findG p st i.2 (L.drop i.1)).2.map (· + i.1)))
    (fun x i => R i.2) (fun x i => L.length - i.1) (0, g0) ⟨rfl, Nat.zero_le _, hI, by simp⟩ ?_
  rintro k' _ ⟨i, g⟩ ⟨rfl, hi, hIg, he⟩ hk'
  simp only at hi hIg he hk' ⊢
  refine s_ite (fun hb => ?_) fun hb => ?_
  · have hil : i < L.length := by simp only [decide_eq_true_eq] at hb; omega
    have hge : L[i]? = some L[i] := List.getElem?_eq_getElem hil
    rw [List.drop_eq_getElem_cons hil] at he hIg
    have hm : L[i] ∈ L := List.getElem_mem hil
    generalize L[i] = x at hge he hm hIg
    refine hacc g i x _ hge ?_
    refine hf g x _ _ hm hIg ?_
    rw [findG_cons] at he
    refine s_ite (fun hp => ?_) fun hp => ?_
    · rw [if_pos hp] at he
      rw [he] at h
      simpa [idxI] using h
    · rw [if_neg (by simp [hp])] at he
      refine s_ai ?_
      refine hk' _ (i + 1, st g x) ⟨by simp, hil, hIs _ _ _ hIg, ?_⟩ (by simp only; omega)
      simp only
      rw [he, Option.map_map]
      congr 2
      funext y
      simp only [Function.comp]; omega
  · have hil : i = L.length := by simp only [decide_eq_false_iff_not] at hb; omega
    rw [hil, List.drop_length] at he
    rw [he] at h
    simpa [findG, idxI] using h
theorem findG_pure (p : α → Bool) : ∀ L : List α, (findG (fun (_ : Unit) x => p x) (fun _ _ => ()) () L).2 = L.findIdx? p
  | [] => rfl
  | x :: L => by
    rw [findG_cons, List.findIdx?_cons]
    split
    · rfl
    · rw [findG_pure p L]
theorem delG_pure (p : α → Bool) : ∀ L : List α, (delG (fun (_ : Unit) x => p x) (fun _ _ => ()) () L).2 = L.filter fun x => !p x
  | [] => rfl
  | x :: L => by
    rw [delG_cons, delG_pure p L, List.filter_cons]
    cases p x <;> simp
/-- With a predicate that leaves the world. -/
theorem s_idxFp {acc : Sl → Int → (Value → K) → K} {s : Sl} {fv : Value} {vV : α → Value} {Q : Int → K} {L : List α} (p : α → Bool) (hn : s.n = L.length) (hL : L.length < 1000000000)
    (hacc : ∀ (i : Nat) x k, L[i]? = some x → HG B Γ (k (vV x)) → HG B Γ (acc s (i : Int) k))
    (hf : ∀ x (q : Bool → K), x ∈ L → HG B Γ (q (p x)) → HG B Γ (CallV P fv [vV x] (Ans1 (fun (t : Bool) => Value.bool t) q)))
    (h : HG B Γ (Q (idxI (L.findIdx? p)))) : HG B Γ (idxFK P acc s fv Q) :=
  s_idxF (R := fun _ => Γ) (fun (_ : Unit) x => p x) (fun _ _ => ()) () (fun _ _ => True) trivial (fun _ _ _ _ => trivial) hn hL (fun _ => hacc) (fun _ x _ q hx _ => hf x q hx) (by rw [findG_pure]; exact h)
theorem idxI_nonneg (o : Option Nat) : decide ((0 : Int) ≤ idxI o) = o.isSome := by
  cases o <;> simp [idxI]
theorem any_idx (p : α → Bool) (L : List α) : (L.findIdx? p).isSome = L.any p := by simp [List.findIdx?_isSome]
/-- Elements of one's own, and of others. -/
theorem acc_own {f : α → List Value} {esz E : Nat} {s : Sl} {L : List α} {i : Nat} {x : α} {k : Value → K} (hf : ∀ x, (f x).length = esz) (he : 0 < esz) (hx : L[i]? = some x) (h : HG B Γ (k (.agg (f x).toArray))) [o : OwnS s Γ (SlC E esz s (L.flatMap f)) Δ] : HG B Γ (accN esz s (i : Int) k) :=
  s_idxN f hf (fun w hw => (own_rd hw (p := o)).1) hx h rfl he
theorem acc_rd {f : α → List Value} {esz : Nat} {s : Sl} {L : List α} {i : Nat} {x : α} {k : Value → K} (hf : ∀ x, (f x).length = esz) (he : 0 < esz) (hr : ∀ w, Holds B Γ w → RdC w s esz (L.flatMap f)) (hx : L[i]? = some x) (h : HG B Γ (k (.agg (f x).toArray))) : HG B Γ (accN esz s (i : Int) k) :=
  s_idxN f hf hr hx h rfl he
theorem acc1_own {β : Type} {c : β → Value} {E : Nat} {s : Sl} {L : List β} {i : Nat} {x : β} {k : Value → K} (hx : L[i]? = some x) (h : HG B Γ (k (c x))) [o : OwnS s Γ (SlC E 1 s (L.map c)) Δ] : HG B Γ (acc1 c s (i : Int) k) :=
  s_idx1 (fun w hw => (own_rd hw (p := o)).1) hx h
theorem acc1_rd {β : Type} {c : β → Value} {s : Sl} {L : List β} {i : Nat} {x : β} {k : Value → K} (hr : ∀ w, Holds B Γ w → RdC w s 1 (L.map c)) (hx : L[i]? = some x) (h : HG B Γ (k (c x))) : HG B Γ (acc1 c s (i : Int) k) :=
  s_idx1 hr hx h

/-! ### DeleteFunc -/
/-- slices.DeleteFunc over elements of some cells, as it is printed; idx is its IndexFunc. -/
def delFN (P : Program) (idx : Sl → Value → (Int → K) → K) (E T t esz : Nat) (zs : List Value) (s : Sl) (fv : Value) (Q : Sl → K) : K :=
  idx s fv fun t10 =>
  Ite (decide (t10 = (-1)))
    (Q s)
    (Ar (IntKind.wrap .i64 (t10 + 1)) fun t15 =>
    LoopK (α := Int × Int) (fun X x =>
      Ite (decide (x.2 < (s.n : Int)))
        (Idx s x.2 esz fun t24 =>
        LdN t24 esz fun t25 =>
        New E zs.toArray fun v7 =>
        StN v7 esz t25 <|
        LdN v7 esz fun t27 =>
        CallV P fv [(.agg t27)] <| Ans1 (fun (t28 : Bool) => Value.bool t28) fun t28 =>
        Ite (!t28)
          (LdN v7 esz fun t32 =>
          Idx s x.1 esz fun t33 =>
          StN t33 esz t32 <|
          Ar (IntKind.wrap .i64 (x.1 + 1)) fun t35 =>
          Ar (IntKind.wrap .i64 (x.2 + 1)) fun t21 =>
          X (t35, t21))
          (Ar (IntKind.wrap .i64 (x.2 + 1)) fun t21 =>
          X (x.1, t21)))
        (Slc s x.1 (s.n : Int) (s.c : Int) esz fun t38 =>
        Do P (Builtin.clear_ #[T] t #[(Sl.val t38)]) id fun _ =>
        Slc s 0 x.1 (s.c : Int) esz fun t41 =>
        Q t41)) (t10, t15))
def delF1 {β : Type} (P : Program) (idx : Sl → Value → (Int → K) → K) (T t : Nat) (c : β → Value) (s : Sl) (fv : Value) (Q : Sl → K) : K :=
  idx s fv fun t10 =>
  Ite (decide (t10 = (-1)))
    (Q s)
    (Ar (IntKind.wrap .i64 (t10 + 1)) fun t15 =>
    LoopK (α := Int × Int) (fun X x =>
      Ite (decide (x.2 < (s.n : Int)))
        (Idx s x.2 1 fun t24 =>
        Ld t24 c fun t25 =>
        CallV P fv [c t25] <| Ans1 (fun (t28 : Bool) => Value.bool t28) fun t28 =>
        Ite (!t28)
          (Idx s x.1 1 fun t33 =>
          St t33 (c t25) <|
          Ar (IntKind.wrap .i64 (x.1 + 1)) fun t35 =>
          Ar (IntKind.wrap .i64 (x.2 + 1)) fun t21 =>
          X (t35, t21))
          (Ar (IntKind.wrap .i64 (x.2 + 1)) fun t21 =>
          X (x.1, t21)))
        (Slc s x.1 (s.n : Int) (s.c : Int) 1 fun t38 =>
        Do P (Builtin.clear_ #[T] t #[(Sl.val t38)]) id fun _ =>
        Slc s 0 x.1 (s.c : Int) 1 fun t41 =>
        Q t41)) (t10, t15))
/-- Where the first one goes. -/
theorem findG_del (p : γ → α → Bool) (st : γ → α → γ) {I : γ → List α → Prop} (hIs : ∀ g x C, I g (x :: C) → I (st g x) C) : ∀ (g : γ) (L : List α), I g L → ((findG p st g L).2 = none ∧ delG p st g L = ((findG p st g L).1, L)) ∨
    ∃ A x C, L = A ++ x :: C ∧ (findG p st g L).2 = some A.length ∧ I (findG p st g L).1 C ∧ delG p st g L = ((delG p st (findG p st g L).1 C).1, A ++ (delG p st (findG p st g L).1 C).2)
  | g, [], _ => .inl ⟨rfl, rfl⟩
  | g, x :: L, hI => by
    rw [findG_cons, delG_cons]
    by_cases hp : p g x = true
    · right
      exact ⟨[], x, L, rfl, by simp [hp], by simpa [hp] using hIs _ _ _ hI, by simp [hp]⟩
    · rcases findG_del p st hIs (st g x) L (hIs _ _ _ hI) with ⟨h1, h2⟩ | ⟨A, y, C, rfl, h2, h4, h3⟩
      · left
        simp only [hp, Bool.false_eq_true, if_false, h1, h2, Option.map_none, and_self]
      · right
        refine ⟨x :: A, y, C, rfl, ?_, ?_, ?_⟩
        · simp only [hp, Bool.false_eq_true, if_false, h2, Option.map_some, List.length_cons]
        · simpa only [hp, Bool.false_eq_true, if_false] using h4
        · simp only [hp, Bool.false_eq_true, if_false, h3, List.cons_append]
theorem set_take {M : List α} {i : Nat} {x : α} (hi : i < M.length) : (M.set i x).take (i + 1) = M.take i ++ [x] := by
  rw [List.take_succ_eq_append_getElem (by simpa using hi), List.take_set_of_le (Nat.le_refl _), List.getElem_set_self]
theorem set_drop {M : List α} {i j : Nat} {x : α} (hij : i < j) : (M.set i x).drop j = M.drop j := by rw [List.drop_set_of_lt hij]
theorem flatMap_set {f : α → List Value} {esz E : Nat} {s : Sl} {M : List α} {i : Nat} {x : α} {k : K} (hf : ∀ x, (f x).length = esz) (hfl : (f x).all flatV = true) (hi : i < M.length) (h : HG B (SlC E esz s ((M.set i x).flatMap f) :: Δ) k) [o : OwnS s Γ (SlC E esz s (M.flatMap f)) Δ] : HG B Γ (StN (elA s i esz) esz (f x).toArray k) := by
  have e1 : M = M.take i ++ M[i] :: M.drop (i + 1) := by rw [← List.drop_eq_getElem_cons hi, List.take_append_drop]
  have e2 : M.set i x = M.take i ++ x :: M.drop (i + 1) := by rw [List.set_eq_take_append_cons_drop, if_pos hi]
  have hl : (M.take i).length = i := by rw [List.length_take]; omega
  rw [e2] at h
  refine fun w hw => ?_
  have hw2 := hw.perm o.perm
  rw [e1] at hw2
  rw [show elA s i esz = elA s (M.take i).length esz by rw [hl]]
  refine hg hw2 ?_
  rw [← add0 (elA s (M.take i).length esz)]
  refine s_stEN (s := s) (us := f x) ?_ (hf x) ?_ hfl
  · have e : layAt ((M.take i ++ M[i] :: M.drop (i + 1)).flatMap f) ((M.take i).length * esz + 0) (f x) = (M.take i ++ x :: M.drop (i + 1)).flatMap f := by
      have e1 : (M.take i ++ M[i] :: M.drop (i + 1)).flatMap f = (M.take i).flatMap f ++ (f M[i] ++ (M.drop (i + 1)).flatMap f) := by simp only [List.flatMap_append, List.flatMap_cons]
      have e2 : (M.take i ++ x :: M.drop (i + 1)).flatMap f = (M.take i).flatMap f ++ (f x ++ (M.drop (i + 1)).flatMap f) := by simp only [List.flatMap_append, List.flatMap_cons]
      rw [e1, e2, layAt_mid (by simp [flatMap_len f esz hf]) (by rw [hf, hf])]
    rw [e]; exact h
  · have e3 : ((M.take i ++ M[i] :: M.drop (i + 1)).flatMap f).length = ((M.take i).length + ((M.drop (i + 1)).length + 1)) * esz := by rw [flatMap_len f esz hf]; simp only [List.length_append, List.length_cons]
    rw [e3, Nat.add_mul, Nat.add_mul]; omega
theorem flatMap_tk {f : α → List Value} {esz : Nat} (hf : ∀ x, (f x).length = esz) : ∀ (L : List α) (i : Nat), (L.flatMap f).take (i * esz) = (L.take i).flatMap f
  | L, 0 => by simp
  | [], i + 1 => by simp
  | x :: L, i + 1 => by
    rw [List.flatMap_cons, List.take_succ_cons, List.flatMap_cons, ← flatMap_tk hf L i, Nat.add_mul, Nat.one_mul, Nat.add_comm, ← hf x, List.take_length_add_append]
/-- DeleteFunc. -/
theorem s_delFN {R : γ → List HProp} {idx : Sl → Value → (Int → K) → K} {E T t esz : Nat} {zs : List Value} {s : Sl} {fv : Value} {Q : Sl → K} {f : α → List Value} {L : List α} (p : γ → α → Bool) (st : γ → α → γ) (g0 : γ) (I : γ → List α → Prop) (hI : I g0 L) (hIs : ∀ g x C, I g (x :: C) → I (st g x) C)
    (hidx : ∀ s fv Q w, idxFK P (accN esz) s fv Q w → idx s fv Q w) (hf : ∀ x, (f x).length = esz) (he : 0 < esz) (hfl : ∀ x, (f x).all flatV = true) (hz : zs.length = esz) (hL : L.length < 1000000000)
    (hc : ∀ Ξ g x C (q : Bool → K), x ∈ L → I g (x :: C) → HG B (Ξ :: R (st g x)) (q (p g x)) → HG B (Ξ :: R g) (CallV P fv [(.agg (f x).toArray)] (Ans1 (fun (t : Bool) => Value.bool t) q)))
    (h : ∀ s', s'.n = (delG p st g0 L).2.length → HG B (SlC E esz s' ((delG p st g0 L).2.flatMap f) :: R (delG p st g0 L).1) (Q s')) (hT : appT P T T E esz = true := by kernel_rfl) :
    HG B (SlC E esz s (L.flatMap f) :: R g0) (delFN P idx E T t esz zs s fv Q) := by
  unfold delFN
  refine s_cap s fun a1 a2 a3 a4 => ?_
  rw [flatMap_len f esz hf] at a1
  have hn : s.n = L.length := (Nat.eq_of_mul_eq_mul_right he a1).symm
  refine fun w hw => hidx _ _ _ _ ?_
  refine hg hw ?_
  clear hw w
  refine s_idxF (R := fun g => SlC E esz s (L.flatMap f) :: R g) (vV := fun x => .agg (f x).toArray) p st g0 I hI hIs hn hL (fun g i x k hx hk => acc_own hf he hx hk) (fun g x C q hx hI hq => hc _ g x C q hx hI hq) ?_
  rcases findG_del p st hIs g0 L hI with ⟨h1, h2⟩ | ⟨A, x, C, rfl, h1, hI1, h2⟩
  · rw [h1]
    rw [h2] at h
    refine s_t ?_ (by simp [idxI])
    exact h s hn
  rw [h1]
  have hlen : (A ++ x :: C).length = A.length + (C.length + 1) := List.length_append
  generalize (findG p st g0 (A ++ x :: C)).1 = g1 at *
  refine s_f ?_ (by simp [idxI])
  simp only [idxI]
  refine s_ai ?_
  refine s_loop (α := Int × Int) (ι := Nat × Nat × List α × γ) (fun y i => y.1 = (i.1 : Int) ∧ y.2 = (i.2.1 : Int) ∧ i.1 < i.2.1 ∧ i.2.1 ≤ (A ++ x :: C).length ∧ i.2.2.1.length = (A ++ x :: C).length ∧ i.2.2.1.drop i.2.1 = (A ++ x :: C).drop i.2.1 ∧ I i.2.2.2 ((A ++ x :: C).drop i.2.1) ∧ delG p st g0 (A ++ x :: C) = ((delG p st i.2.2.2 ((A ++ x :: C).drop i.2.1)).1, i.2.2.1.take i.1 ++ (delG p st i.2.2.2 ((A ++ x :: C).drop i.2.1)).2))
    (fun y i => SlC E esz s (i.2.2.1.flatMap f) :: R i.2.2.2) (fun y i => (A ++ x :: C).length - i.2.1) (A.length, A.length + 1, A ++ x :: C, g1) ⟨rfl, by simp, by simp, by simp, rfl, rfl, ?_, ?_⟩ ?_
  · simp only
    have e : (A ++ x :: C).drop (A.length + 1) = C := by rw [show A ++ x :: C = (A ++ [x]) ++ C by simp]; exact List.drop_left' (by simp)
    rw [e]; exact hI1
  · simp only
    have e : (A ++ x :: C).drop (A.length + 1) = C := by rw [show A ++ x :: C = (A ++ [x]) ++ C by simp]; exact List.drop_left' (by simp)
    rw [e, List.take_left, h2]
  rintro k' ⟨_, _⟩ ⟨i, j, M, g⟩ ⟨rfl, rfl, hij, hj, hM, hd, hIg, hdel⟩ hk'
  simp only at hij hj hM hd hIg hdel hk' ⊢
  refine s_ite (fun hb => ?_) fun hb => ?_
  · have hjl : j < (A ++ x :: C).length := by simp only [decide_eq_true_eq] at hb; omega
    have hMj : M[j]? = some (A ++ x :: C)[j] := by
      have := congrArg (·[0]?) hd
      simp only [List.getElem?_drop, Nat.add_zero] at this
      rw [this, List.getElem?_eq_getElem hjl]
    have hmem : (A ++ x :: C)[j] ∈ A ++ x :: C := List.getElem_mem hjl
    have hdrop := List.drop_eq_getElem_cons hjl
    rw [hdrop] at hdel hIg
    generalize (A ++ x :: C)[j] = y at hMj hmem hdel hdrop hIg
    rw [delG_cons] at hdel
    refine s_idxN f hf (fun w hw => (own_rd (s := s) hw).1) hMj ?_
    refine s_new fun v7 => ?_
    refine s_stN (b := v7) ?_ hz (hf y) (hfl y)
    refine s_ldW (b := v7) ?_ (hf y)
    refine s_unflat (Δ := [blk v7 (.cells (f y).toArray E (0, 0)), SlC E esz s (M.flatMap f)]) ?_
    refine hc _ g y _ _ hmem hIg ?_
    refine s_flat ?_
    show HG B (blk v7 (.cells (f y).toArray E (0, 0)) :: SlC E esz s (M.flatMap f) :: R (st g y)) _
    refine s_ite (fun hp => ?_) fun hp => ?_
    · have hp' : p g y = false := by simpa using hp
      rw [hp'] at hdel
      simp only [Bool.false_eq_true, if_false] at hdel
      refine s_ldW (b := v7) ?_ (hf y)
      refine s_idx (s := s) (i := i) ?_
      refine flatMap_set (s := s) hf (hfl y) (by omega) ?_
      refine s_ai ?_
      refine s_ai ?_
      refine s_end (hk' _ (i + 1, j + 1, M.set i y, st g y) ⟨by simp, by simp, by simp only; omega, hjl, by simpa using hM, ?_, hIs _ _ _ hIg, ?_⟩ (by simp only; omega))
      · simp only
        rw [set_drop (by omega), ← List.drop_drop, ← List.drop_drop, hd]
      · simp only
        rw [set_take (by omega), hdel]
        simp
    · have hp' : p g y = true := by simpa using hp
      rw [hp'] at hdel
      simp only [if_true] at hdel
      refine s_ai ?_
      refine s_end (hk' _ (i, j + 1, M, st g y) ⟨rfl, by simp, by simp only; omega, hjl, hM, ?_, hIs _ _ _ hIg, hdel⟩ (by simp only; omega))
      simp only
      rw [← List.drop_drop, ← List.drop_drop, hd]
  · have hjl : j = (A ++ x :: C).length := by simp only [decide_eq_false_iff_not] at hb; omega
    rw [hjl, List.drop_length] at hdel
    simp only [delG, List.append_nil] at hdel
    rw [hdel] at h
    refine s_slc (lo := i) (hi := s.n) (mx := s.c) ?_
    refine s_shrink (s := s) (m := i) (c' := s.c) (by omega) (by omega) (Nat.le_refl _) ?_
    rw [flatMap_tk hf]
    refine s_clear (s := ⟨s.a, i, s.c⟩) (l := i) (q := s.n - i) (m := s.c) rfl (Nat.le_refl _) (by simp only; omega) (by omega) ?_ (hT := hT)
    refine s_slc (lo := 0) (hi := i) (mx := s.c) ?_
    rw [cut0 a3]
    exact h ⟨s.a, i, s.c⟩ (by simp; omega)
theorem s_delF1 {β : Type} {R : γ → List HProp} {idx : Sl → Value → (Int → K) → K} {E T t : Nat} {c : β → Value} {s : Sl} {fv : Value} {Q : Sl → K} {L : List β} (p : γ → β → Bool) (st : γ → β → γ) (g0 : γ) (I : γ → List β → Prop) (hI : I g0 L) (hIs : ∀ g x C, I g (x :: C) → I (st g x) C)
    (hidx : ∀ s fv Q w, idxFK P (acc1 c) s fv Q w → idx s fv Q w) (hfl : ∀ x, flatV (c x) = true) (hL : L.length < 1000000000)
    (hc : ∀ Ξ g x C (q : Bool → K), x ∈ L → I g (x :: C) → HG B (Ξ :: R (st g x)) (q (p g x)) → HG B (Ξ :: R g) (CallV P fv [c x] (Ans1 (fun (t : Bool) => Value.bool t) q)))
    (h : ∀ s', s'.n = (delG p st g0 L).2.length → HG B (SlC E 1 s' ((delG p st g0 L).2.map c) :: R (delG p st g0 L).1) (Q s')) (hT : appT P T T E 1 = true := by kernel_rfl) :
    HG B (SlC E 1 s (L.map c) :: R g0) (delF1 P idx T t c s fv Q) := by
  unfold delF1
  refine s_cap s fun a1 a2 a3 a4 => ?_
  rw [List.length_map, Nat.mul_one] at a1
  have hn : s.n = L.length := a1.symm
  refine fun w hw => hidx _ _ _ _ ?_
  refine hg hw ?_
  clear hw w
  refine s_idxF (R := fun g => SlC E 1 s (L.map c) :: R g) (vV := c) p st g0 I hI hIs hn hL (fun g i x k hx hk => acc1_own hx hk) (fun g x C q hx hI hq => hc _ g x C q hx hI hq) ?_
  rcases findG_del p st hIs g0 L hI with ⟨h1, h2⟩ | ⟨A, x, C, rfl, h1, hI1, h2⟩
  · rw [h1]
    rw [h2] at h
    refine s_t ?_ (by simp [idxI])
    exact h s hn
  rw [h1]
  have hlen : (A ++ x :: C).length = A.length + (C.length + 1) := List.length_append
  generalize (findG p st g0 (A ++ x :: C)).1 = g1 at *
  refine s_f ?_ (by simp [idxI])
  simp only [idxI]
  refine s_ai ?_
  refine s_loop (α := Int × Int) (ι := Nat × Nat × List β × γ) (fun y i => y.1 = (i.1 : Int) ∧ y.2 = (i.2.1 : Int) ∧ i.1 < i.2.1 ∧ i.2.1 ≤ (A ++ x :: C).length ∧ i.2.2.1.length = (A ++ x :: C).length ∧ i.2.2.1.drop i.2.1 = (A ++ x :: C).drop i.2.1 ∧ I i.2.2.2 ((A ++ x :: C).drop i.2.1) ∧ delG p st g0 (A ++ x :: C) = ((delG p st i.2.2.2 ((A ++ x :: C).drop i.2.1)).1, i.2.2.1.take i.1 ++ (delG p st i.2.2.2 ((A ++ x :: C).drop i.2.1)).2))
    (fun y i => SlC E 1 s (i.2.2.1.map c) :: R i.2.2.2) (fun y i => (A ++ x :: C).length - i.2.1) (A.length, A.length + 1, A ++ x :: C, g1) ⟨rfl, by simp, by simp, by simp, rfl, rfl, ?_, ?_⟩ ?_
  · simp only
    have e : (A ++ x :: C).drop (A.length + 1) = C := by rw [show A ++ x :: C = (A ++ [x]) ++ C by simp]; exact List.drop_left' (by simp)
    rw [e]; exact hI1
  · simp only
    have e : (A ++ x :: C).drop (A.length + 1) = C := by rw [show A ++ x :: C = (A ++ [x]) ++ C by simp]; exact List.drop_left' (by simp)
    rw [e, List.take_left, h2]
  rintro k' ⟨_, _⟩ ⟨i, j, M, g⟩ ⟨rfl, rfl, hij, hj, hM, hd, hIg, hdel⟩ hk'
  simp only at hij hj hM hd hIg hdel hk' ⊢
  refine s_ite (fun hb => ?_) fun hb => ?_
  · have hjl : j < (A ++ x :: C).length := by simp only [decide_eq_true_eq] at hb; omega
    have hMj : M[j]? = some (A ++ x :: C)[j] := by
      have := congrArg (·[0]?) hd
      simp only [List.getElem?_drop, Nat.add_zero] at this
      rw [this, List.getElem?_eq_getElem hjl]
    have hmem : (A ++ x :: C)[j] ∈ A ++ x :: C := List.getElem_mem hjl
    have hdrop := List.drop_eq_getElem_cons hjl
    rw [hdrop] at hdel hIg
    generalize (A ++ x :: C)[j] = y at hMj hmem hdel hdrop hIg
    rw [delG_cons] at hdel
    refine s_idx1 (fun w hw => (own_rd (s := s) hw).1) hMj ?_
    refine hc _ g y _ _ hmem hIg ?_
    refine s_ite (fun hp => ?_) fun hp => ?_
    · have hp' : p g y = false := by simpa using hp
      rw [hp'] at hdel
      simp only [Bool.false_eq_true, if_false] at hdel
      refine s_idx (s := s) (i := i) ?_
      rw [← add0 (elA s i 1)]
      refine s_stE (s := s) ?_ (by simp; omega) (hfl y)
      rw [show i * 1 + 0 = i by omega, ← List.map_set]
      refine s_ai ?_
      refine s_ai ?_
      refine s_end (hk' _ (i + 1, j + 1, M.set i y, st g y) ⟨by simp, by simp, by simp only; omega, hjl, by simpa using hM, ?_, hIs _ _ _ hIg, ?_⟩ (by simp only; omega))
      · simp only
        rw [set_drop (by omega), ← List.drop_drop, ← List.drop_drop, hd]
      · simp only
        rw [set_take (by omega), hdel]
        simp
    · have hp' : p g y = true := by simpa using hp
      rw [hp'] at hdel
      simp only [if_true] at hdel
      refine s_ai ?_
      refine s_end (hk' _ (i, j + 1, M, st g y) ⟨rfl, by simp, by simp only; omega, hjl, hM, ?_, hIs _ _ _ hIg, hdel⟩ (by simp only; omega))
      simp only
      rw [← List.drop_drop, ← List.drop_drop, hd]
  · have hjl : j = (A ++ x :: C).length := by simp only [decide_eq_false_iff_not] at hb; omega
    rw [hjl, List.drop_length] at hdel
    simp only [delG, List.append_nil] at hdel
    rw [hdel] at h
    refine s_slc (lo := i) (hi := s.n) (mx := s.c) ?_
    refine s_shrink (s := s) (m := i) (c' := s.c) (by omega) (by omega) (Nat.le_refl _) ?_
    rw [show (M.map c).take (i * 1) = (M.take i).map c by simp]
    refine s_clear (s := ⟨s.a, i, s.c⟩) (l := i) (q := s.n - i) (m := s.c) rfl (Nat.le_refl _) (by simp only; omega) (by omega) ?_ (hT := hT)
    refine s_slc (lo := 0) (hi := i) (mx := s.c) ?_
    rw [cut0 a3]
    exact h ⟨s.a, i, s.c⟩ (by simp; omega)
end
end Go.Sep
/- Lists of texts: slices.Concat of two, slices.Compact; lists that rise. -/
namespace Go.Proofs.YtinpgiafjjibnaaGreat
open Go Go.Sep
set_option linter.unusedSimpArgs false
set_option linter.unusedVariables false
set_option maxRecDepth 100000

abbrev TX := List UInt8
def cmpct {α : Type} [DecidableEq α] : List α → List α
  | [] => []
  | [x] => [x]
  | x :: y :: L => if y = x then cmpct (y :: L) else x :: cmpct (y :: L)
theorem cmpct_snoc {α : Type} [DecidableEq α] : ∀ (A : List α) (a b : α), cmpct (A ++ [a, b]) = if b = a then cmpct (A ++ [a]) else cmpct (A ++ [a]) ++ [b]
  | [], a, b => by
    by_cases h : b = a <;> simp [cmpct, h]
  | [x], a, b => by
    have h1 := cmpct_snoc [] a b
    simp only [List.nil_append, List.singleton_append] at h1 ⊢
    rw [cmpct, h1]
    by_cases h : b = a
    · rw [if_pos h, if_pos h]; simp [cmpct]
    · rw [if_neg h, if_neg h]
      by_cases h2 : a = x
      · simp [cmpct, h2]
      · simp [cmpct, h2]
  | x :: y :: A, a, b => by
    have h1 := cmpct_snoc (y :: A) a b
    simp only [List.cons_append] at h1 ⊢
    rw [cmpct, h1]
    by_cases h : b = a
    · rw [if_pos h, if_pos h, cmpct]
    · rw [if_neg h, if_neg h]
      by_cases h2 : y = x
      · simp [cmpct, h2]
      · simp [cmpct, h2]
theorem cmpct_len {α : Type} [DecidableEq α] : ∀ L : List α, (cmpct L).length ≤ L.length
  | [] => Nat.le_refl _
  | [x] => Nat.le_refl _
  | x :: y :: L => by
    have := cmpct_len (y :: L)
    rw [cmpct]
    split
    · exact Nat.le_succ_of_le this
    · simp only [List.length_cons] at this ⊢; omega
theorem cmpct_mem {α : Type} [DecidableEq α] : ∀ {L : List α} {x : α}, x ∈ cmpct L ↔ x ∈ L
  | [], x => Iff.rfl
  | [y], x => Iff.rfl
  | y :: z :: L, x => by
    have ih := cmpct_mem (L := z :: L) (x := x)
    rw [cmpct]
    split
    · rename_i h
      rw [ih, h]; simp
    · rw [List.mem_cons, ih, List.mem_cons (a := x) (b := y)]
theorem cmpct_head : ∀ (x : TX) (L : List TX), (∀ y ∈ L, x ≤ y) → ∀ z, z ∈ (cmpct (x :: L)).tail → (x :: L).Pairwise (· ≤ ·) → x < z
  | x, [], _, z, hz, _ => by simp [cmpct] at hz
  | x, y :: L, h, z, hz, hp => by
    rw [cmpct] at hz
    have hp2 := List.pairwise_cons.1 hp
    split at hz
    · rename_i e
      subst e
      exact cmpct_head y L (fun w hw => h w (List.mem_cons_of_mem _ hw)) z hz hp2.2
    · rename_i e
      rw [List.tail_cons, cmpct_mem] at hz
      have h1 : x ≤ z := h z hz
      rcases List.le_iff_lt_or_eq.1 h1 with h2 | h2
      · exact h2
      · exfalso
        have h3 : y ≤ z := by
          rcases List.mem_cons.1 hz with rfl | hz
          · exact List.le_refl _
          · exact (List.pairwise_cons.1 hp2.2).1 z hz
        have h4 : x ≤ y := h y List.mem_cons_self
        exact e (List.le_antisymm (by rw [h2]; exact h3) h4)
/-- Of a sorted list a list that rises. -/
theorem cmpct_rises : ∀ (L : List TX), L.Pairwise (· ≤ ·) → (cmpct L).Pairwise (· < ·)
  | [], _ => List.Pairwise.nil
  | [x], _ => List.pairwise_singleton _ _
  | x :: y :: L, h => by
    have ih := cmpct_rises (y :: L) (List.pairwise_cons.1 h).2
    rw [cmpct]
    split
    · exact ih
    · rename_i e
      refine List.pairwise_cons.2 ⟨fun z hz => ?_, ih⟩
      refine cmpct_head x (y :: L) (List.pairwise_cons.1 h).1 z ?_ h
      rw [cmpct, if_neg e]; exact hz
theorem rises_eq : ∀ {L M : List TX}, L.Pairwise (· < ·) → M.Pairwise (· < ·) → (∀ x, x ∈ L ↔ x ∈ M) → L = M
  | [], [], _, _, _ => rfl
  | [], y :: M, _, _, h => by have := (h y).2 List.mem_cons_self; simp at this
  | x :: L, [], _, _, h => by have := (h x).1 List.mem_cons_self; simp at this
  | x :: L, y :: M, hL, hM, h => by
    have h1 := List.pairwise_cons.1 hL
    have h2 := List.pairwise_cons.1 hM
    have hxy : x = y := by
      rcases List.mem_cons.1 ((h x).1 List.mem_cons_self) with e | e
      · exact e
      · rcases List.mem_cons.1 ((h y).2 List.mem_cons_self) with e2 | e2
        · exact e2.symm
        · exact absurd (List.lt_trans (h1.1 y e2) (h2.1 x e)) (List.lt_irrefl _)
    subst hxy
    congr 1
    refine rises_eq h1.2 h2.2 fun z => ?_
    constructor
    · intro hz
      rcases List.mem_cons.1 ((h z).1 (List.mem_cons_of_mem _ hz)) with e | e
      · subst e; exact absurd (h1.1 z hz) (List.lt_irrefl _)
      · exact e
    · intro hz
      rcases List.mem_cons.1 ((h z).2 (List.mem_cons_of_mem _ hz)) with e | e
      · subst e; exact absurd (h2.1 z hz) (List.lt_irrefl _)
      · exact e
theorem sortL_le (L : List TX) : (sortL L).Pairwise (· ≤ ·) := by
  have := List.pairwise_mergeSort (le := fun a b : TX => decide (a ≤ b)) (fun a b c h1 h2 => by simp only [decide_eq_true_eq] at *; exact List.le_trans h1 h2) (fun a b => by simp only [Bool.or_eq_true, decide_eq_true_eq]; exact List.le_total a b) L
  refine List.Pairwise.imp ?_ this
  intro a b h; simpa using h
section
variable {B : World} {Γ Δ : List HProp} {k : K}
end
end Go.Proofs.YtinpgiafjjibnaaGreat
