/- Texts of the claim LocksPlays, one behind the other. -/
import Derived.Test.YtihncgfghpbhdaaGreatLocksPlaysM2
import Derived.MapKept
import GoSem.Instr.MapUpdate
import Derived.Maps.RangeRun
import Derived.Laws.StructEq
import Derived.Shelf.SortM.Plain
import Derived.Shelf.SortM.SortNone
import Derived.Ground.SlgmProg
import Derived.Test.YtihncgfghpbhdaaGreatProg
/- Plain forms of functions, and that their code comes to them (package lib_btree). -/
namespace Go.Proofs.YtihncgfghpbhdaaGreat
open Go Go.Sep
set_option linter.unusedVariables false
set_option linter.unusedSimpArgs false
set_option maxRecDepth 100000
set_option maxHeartbeats 4000000
attribute [local irreducible] G Gp Cx Tx Ex Sx Dx Ox Ax Lx Rx Fx Bx Bj Al Do Ld LdN St StN New CallF Ar DoU Rd Rd2 Pu Cd Ite Fv CallV CallY Ans0 Ans1 Ans2 Ans3 Ans4 Ans5 Ext Dead Dr WithS Sv LdS LdNS RdS Rd2S Nn Idx IdxA IdxS Fld Bld Slc SlcS Cat All LoopK RangeF RangeJ TakeD
namespace F_IRLibBtree
instance at_134 : AT Tryz.prog 134 5 := ⟨by kernel_rfl⟩
instance cb_103 : CB Tryz.prog 103 := ⟨by kernel_rfl⟩
instance cb_105 : CB Tryz.prog 105 := ⟨by kernel_rfl⟩
instance cb_107 : CB Tryz.prog 107 := ⟨by kernel_rfl⟩
instance cb_108 : CB Tryz.prog 108 := ⟨by kernel_rfl⟩
instance cb_109 : CB Tryz.prog 109 := ⟨by kernel_rfl⟩
instance cb_110 : CB Tryz.prog 110 := ⟨by kernel_rfl⟩
instance ct_108 : CT Tryz.prog 108 := ⟨by kernel_rfl⟩
instance ext_102 : EXT Tryz.prog 102 (Extern.SlicesOverlaps.overlaps #[109, 109] #[4]) := ext_of Tryz.func102 (by kernel_rfl) (by kernel_rfl) (by kernel_rfl) (by kernel_rfl)
instance ext_104 : EXT Tryz.prog 104 (Extern.SlicesOverlaps.overlaps #[110, 110] #[4]) := ext_of Tryz.func104 (by kernel_rfl) (by kernel_rfl) (by kernel_rfl) (by kernel_rfl)
instance in_130 : INT Tryz.prog 130 .u64 := ⟨by kernel_rfl⟩
instance in_3 : INT Tryz.prog 3 .i64 := ⟨by kernel_rfl⟩
instance mx : MX Tryz.prog := ⟨mixed⟩
instance sl_109 : SLT Tryz.prog 109 134 5 := ⟨by kernel_rfl⟩
instance sl_110 : SLT Tryz.prog 110 108 1 := ⟨by kernel_rfl⟩
instance sz_108 : SZ Tryz.prog 108 1 := ⟨by kernel_rfl⟩
instance sz_134 : SZ Tryz.prog 134 5 := ⟨by kernel_rfl⟩
instance un_109 : UN Tryz.prog 109 (.slice 134) := ⟨Tryz.underlying109⟩
instance un_110 : UN Tryz.prog 110 (.slice 108) := ⟨Tryz.underlying110⟩
instance zt_108 : ZT Tryz.prog 108 (.pointer none) := ⟨Tryz.t108, by kernel_rfl, by kernel_rfl⟩
instance zt_134 : ZT Tryz.prog 134 (.agg #[(.string ⟨#[]⟩), (.bool false), (Sl.val ⟨none, 0, 0⟩), (.int .i64 0), (.int .u64 0)]) := ⟨Tryz.t134, by kernel_rfl, by kernel_rfl⟩
end F_IRLibBtree
def slices_BinarySearchFunc_s_btree_item_string_api_Record_btree_item_string_api_Record_string.s2 (Q : Int → Bool → K) (X1 : Int → Int → K) (t6_2 : Int) (t7_2 : Bool) : K :=
  Q t6_2 t7_2
def slices_BinarySearchFunc_s_btree_item_string_api_Record_btree_item_string_api_Record_string.b1 (Q : Int → Bool → K)  (X1 : Int → Int → K) (x0_1 : Sl) (target1_1 : ByteArray) (cmp2_1 : Value) (n8_1 : Int) (i9_1 : Int) (j10_1 : Int) : K :=
  Ite (decide (i9_1 < j10_1))
    (Ar (IntKind.wrap .i64 (i9_1 + j10_1)) fun t20 =>
    Ar (IntKind.wrap .u64 t20) fun t21 =>
    Cd (0 ≤ (1 : Int)) <|
    Ar (shrOf .u64 t21 1) fun t22 =>
    Ar (IntKind.wrap .i64 t22) fun t23 =>
    Idx x0_1 t23 5 fun t27 =>
    LdN t27 5 fun t28 =>
    CallV Tryz.prog cmp2_1 [(.agg t28), (.string target1_1)] <| Ans1 (fun (t30 : Int) => (Value.int .i64) t30) fun t30 =>
    Ite (decide (t30 < 0))
      (Ar (IntKind.wrap .i64 (t23 + 1)) fun t33 =>
      X1 t33 j10_1)
      (X1 i9_1 t23))
    (Ite (decide (i9_1 < n8_1))
      (Idx x0_1 i9_1 5 fun t43 =>
      LdN t43 5 fun t44 =>
      CallV Tryz.prog cmp2_1 [(.agg t44), (.string target1_1)] <| Ans1 (fun (t46 : Int) => (Value.int .i64) t46) fun t46 =>
      slices_BinarySearchFunc_s_btree_item_string_api_Record_btree_item_string_api_Record_string.s2 Q X1 i9_1 (decide (t46 = 0)))
      (slices_BinarySearchFunc_s_btree_item_string_api_Record_btree_item_string_api_Record_string.s2 Q X1 i9_1 false))
def slices_BinarySearchFunc_s_btree_item_string_api_Record_btree_item_string_api_Record_string (x0 : Sl) (target1 : ByteArray) (cmp2 : Value) (Q : Int → Bool → K) : K :=
  LoopK (α := Int × Int) (fun X x => slices_BinarySearchFunc_s_btree_item_string_api_Record_btree_item_string_api_Record_string.b1 Q (fun i9_1 j10_1 => X (i9_1, j10_1)) x0 target1 cmp2 (x0.n : Int) x.1 x.2) (0, (x0.n : Int))
theorem slices_BinarySearchFunc_s_btree_item_string_api_Record_btree_item_string_api_Record_string_ok (x0 : Sl) (target1 : ByteArray) (cmp2 : Value) (Q : Int → Bool → K) (w : World) (h : slices_BinarySearchFunc_s_btree_item_string_api_Record_btree_item_string_api_Record_string x0 target1 cmp2 Q w) : slices_BinarySearchFunc_s_btree_item_string_api_Record_btree_item_string_api_Record_string.call x0 target1 cmp2 Q w := by
  have hJ1000008 : ∀ (X1 : (Int × Int) → K), XH 3 X1 → JH 1000008 fun D => D [] (fun C => ∀ (t6_2 : Int) (t7_2 : Bool), C [(6, (.int .i64 t6_2)), (7, (.bool t7_2))] (slices_BinarySearchFunc_s_btree_item_string_api_Record_btree_item_string_api_Record_string.s2 Q (fun i9_1 j10_1 => X1 (i9_1, j10_1)) t6_2 t7_2)) := by intros; exact ⟨fun _ h => ⟨_, _, h⟩⟩
  have hL3 : ∀ (x0_1 : Sl) (target1_1 : ByteArray) (cmp2_1 : Value) (n8_1 : Int), LH 3 (fun x : Int × Int => [(0, (Sl.val x0_1)), (1, (.string target1_1)), (2, cmp2_1), (8, (.int .i64 n8_1)), (9, (.int .i64 x.1)), (10, (.int .i64 x.2))]) (fun X x => slices_BinarySearchFunc_s_btree_item_string_api_Record_btree_item_string_api_Record_string.b1 Q (fun i9_1 j10_1 => X (i9_1, j10_1)) x0_1 target1_1 cmp2_1 n8_1 x.1 x.2) := by intros; exact ⟨⟩
  exact g_walk 49 h Tryz.func85
def slices_Delete_s_btree_item_string_api_Record_btree_item_string_api_Record (s0 : Sl) (i1 : Int) (j2 : Int) (Q : Sl → K) : K :=
  Slc s0 i1 j2 (s0.n : Int) 5 fun t13 =>
  Ite (decide (i1 = j2))
    (Q s0)
    (Dr <|
    Slc s0 0 i1 (s0.c : Int) 5 fun t22 =>
    Slc s0 j2 (s0.n : Int) (s0.c : Int) 5 fun t25 =>
    Do Tryz.prog (Builtin.append_ #[109, 109] 109 #[(Sl.val t22), (Sl.val t25)]) Sl.val fun t26 =>
    Slc t26 (t26.n : Int) (s0.n : Int) (t26.c : Int) 5 fun t31 =>
    Do Tryz.prog (Builtin.clear_ #[109] 0 #[(Sl.val t31)]) id fun _ =>
    Q t26)
theorem slices_Delete_s_btree_item_string_api_Record_btree_item_string_api_Record_ok (s0 : Sl) (i1 : Int) (j2 : Int) (Q : Sl → K) (w : World) (h : slices_Delete_s_btree_item_string_api_Record_btree_item_string_api_Record s0 i1 j2 Q w) : slices_Delete_s_btree_item_string_api_Record_btree_item_string_api_Record.call s0 i1 j2 Q w := by
  have hD5 : DH 5 0 [] (.s [0, 1, 2, 3, 4, 5] (.a [(6, 0, .s [7] .e)])) := by intros; exact ⟨⟩
  exact g_walk 33 h Tryz.func88
def slices_Insert_s_btree_item_string_api_Record_btree_item_string_api_Record (s0 : Sl) (i1 : Int) (v2 : Sl) (Q : Sl → K) : K :=
  Slc s0 i1 (s0.n : Int) (s0.c : Int) 5 fun t12 =>
  Ite (decide ((v2.n : Int) = 0))
    (Q s0)
    (Ite (decide (i1 = (s0.n : Int)))
      (Do Tryz.prog (Builtin.append_ #[109, 109] 109 #[(Sl.val s0), (Sl.val v2)]) Sl.val fun t25 =>
      Q t25)
      (Ar (IntKind.wrap .i64 ((s0.n : Int) + (v2.n : Int))) fun t28 =>
      Do Tryz.prog (Builtin.cap_ #[109] 3 #[(Sl.val s0)]) (Value.int .i64) fun t30 =>
      Ite (decide (t30 < t28))
        (Slc s0 0 i1 (s0.c : Int) 5 fun t34 =>
        Ar (IntKind.wrap .i64 ((s0.n : Int) + (v2.n : Int))) fun t37 =>
        Ar (IntKind.wrap .i64 (t37 - i1)) fun t39 =>
        Do Tryz.prog (Builtin.append_ #[109, 3] 109 #[(Sl.val t34), (.int .i64 t39)]) Sl.val fun t40 =>
        Slc t40 i1 (t40.n : Int) (t40.c : Int) 5 fun t43 =>
        Do Tryz.prog (Builtin.copy_ #[109, 109] 3 #[(Sl.val t43), (Sl.val v2)]) (Value.int .i64) fun t45 =>
        Dr <|
        Ar (IntKind.wrap .i64 (i1 + (v2.n : Int))) fun t49 =>
        Slc t40 t49 (t40.n : Int) (t40.c : Int) 5 fun t50 =>
        Slc s0 i1 (s0.n : Int) (s0.c : Int) 5 fun t53 =>
        Do Tryz.prog (Builtin.copy_ #[109, 109] 3 #[(Sl.val t50), (Sl.val t53)]) (Value.int .i64) fun t54 =>
        Q t40)
        (Ar (IntKind.wrap .i64 ((s0.n : Int) + (v2.n : Int))) fun t59 =>
        Slc s0 0 t59 (s0.c : Int) 5 fun t60 =>
        Ar (IntKind.wrap .i64 (i1 + (v2.n : Int))) fun t65 =>
        Slc t60 t65 (t60.n : Int) (t60.c : Int) 5 fun t66 =>
        Rd Tryz.prog (Extern.SlicesOverlaps.overlaps #[109, 109] #[4] [(Sl.val v2), (Sl.val t66)].toArray) Value.bool fun t67 =>
        Ite (!t67)
          (Dr <|
          Ar (IntKind.wrap .i64 (i1 + (v2.n : Int))) fun t72 =>
          Slc t60 t72 (t60.n : Int) (t60.c : Int) 5 fun t73 =>
          Slc t60 i1 (t60.n : Int) (t60.c : Int) 5 fun t76 =>
          Do Tryz.prog (Builtin.copy_ #[109, 109] 3 #[(Sl.val t73), (Sl.val t76)]) (Value.int .i64) fun t77 =>
          Slc t60 i1 (t60.n : Int) (t60.c : Int) 5 fun t80 =>
          Do Tryz.prog (Builtin.copy_ #[109, 109] 3 #[(Sl.val t80), (Sl.val v2)]) (Value.int .i64) fun t82 =>
          Q t60)
          (Slc t60 (s0.n : Int) (t60.n : Int) (t60.c : Int) 5 fun t86 =>
          Do Tryz.prog (Builtin.copy_ #[109, 109] 3 #[(Sl.val t86), (Sl.val v2)]) (Value.int .i64) fun t88 =>
          Slc t60 i1 (t60.n : Int) (t60.c : Int) 5 fun t91 =>
          slices_rotateRight_btree_item_string_api_Record.call t91 (v2.n : Int) <|
          Q t60))))
theorem slices_Insert_s_btree_item_string_api_Record_btree_item_string_api_Record_ok (s0 : Sl) (i1 : Int) (v2 : Sl) (Q : Sl → K) (w : World) (h : slices_Insert_s_btree_item_string_api_Record_btree_item_string_api_Record s0 i1 v2 Q w) : slices_Insert_s_btree_item_string_api_Record_btree_item_string_api_Record.call s0 i1 v2 Q w := by
  have hD11 : DH 11 0 [] (.s [0, 1, 2, 3, 4, 5, 6, 7] (.a [(8, 0, .e)])) := by intros; exact ⟨⟩
  have hD15 : DH 15 0 [] (.s [0, 1, 2, 3, 4, 5, 6, 7] (.a [(8, 0, .e)])) := by intros; exact ⟨⟩
  exact g_walk 95 h Tryz.func91
def slices_Insert_s_btree_node_string_api_Record_btree_node_string_api_Record (s0 : Sl) (i1 : Int) (v2 : Sl) (Q : Sl → K) : K :=
  Slc s0 i1 (s0.n : Int) (s0.c : Int) 1 fun t12 =>
  Ite (decide ((v2.n : Int) = 0))
    (Q s0)
    (Ite (decide (i1 = (s0.n : Int)))
      (Do Tryz.prog (Builtin.append_ #[110, 110] 110 #[(Sl.val s0), (Sl.val v2)]) Sl.val fun t25 =>
      Q t25)
      (Ar (IntKind.wrap .i64 ((s0.n : Int) + (v2.n : Int))) fun t28 =>
      Do Tryz.prog (Builtin.cap_ #[110] 3 #[(Sl.val s0)]) (Value.int .i64) fun t30 =>
      Ite (decide (t30 < t28))
        (Slc s0 0 i1 (s0.c : Int) 1 fun t34 =>
        Ar (IntKind.wrap .i64 ((s0.n : Int) + (v2.n : Int))) fun t37 =>
        Ar (IntKind.wrap .i64 (t37 - i1)) fun t39 =>
        Do Tryz.prog (Builtin.append_ #[110, 3] 110 #[(Sl.val t34), (.int .i64 t39)]) Sl.val fun t40 =>
        Slc t40 i1 (t40.n : Int) (t40.c : Int) 1 fun t43 =>
        Do Tryz.prog (Builtin.copy_ #[110, 110] 3 #[(Sl.val t43), (Sl.val v2)]) (Value.int .i64) fun t45 =>
        Dr <|
        Ar (IntKind.wrap .i64 (i1 + (v2.n : Int))) fun t49 =>
        Slc t40 t49 (t40.n : Int) (t40.c : Int) 1 fun t50 =>
        Slc s0 i1 (s0.n : Int) (s0.c : Int) 1 fun t53 =>
        Do Tryz.prog (Builtin.copy_ #[110, 110] 3 #[(Sl.val t50), (Sl.val t53)]) (Value.int .i64) fun t54 =>
        Q t40)
        (Ar (IntKind.wrap .i64 ((s0.n : Int) + (v2.n : Int))) fun t59 =>
        Slc s0 0 t59 (s0.c : Int) 1 fun t60 =>
        Ar (IntKind.wrap .i64 (i1 + (v2.n : Int))) fun t65 =>
        Slc t60 t65 (t60.n : Int) (t60.c : Int) 1 fun t66 =>
        Rd Tryz.prog (Extern.SlicesOverlaps.overlaps #[110, 110] #[4] [(Sl.val v2), (Sl.val t66)].toArray) Value.bool fun t67 =>
        Ite (!t67)
          (Dr <|
          Ar (IntKind.wrap .i64 (i1 + (v2.n : Int))) fun t72 =>
          Slc t60 t72 (t60.n : Int) (t60.c : Int) 1 fun t73 =>
          Slc t60 i1 (t60.n : Int) (t60.c : Int) 1 fun t76 =>
          Do Tryz.prog (Builtin.copy_ #[110, 110] 3 #[(Sl.val t73), (Sl.val t76)]) (Value.int .i64) fun t77 =>
          Slc t60 i1 (t60.n : Int) (t60.c : Int) 1 fun t80 =>
          Do Tryz.prog (Builtin.copy_ #[110, 110] 3 #[(Sl.val t80), (Sl.val v2)]) (Value.int .i64) fun t82 =>
          Q t60)
          (Slc t60 (s0.n : Int) (t60.n : Int) (t60.c : Int) 1 fun t86 =>
          Do Tryz.prog (Builtin.copy_ #[110, 110] 3 #[(Sl.val t86), (Sl.val v2)]) (Value.int .i64) fun t88 =>
          Slc t60 i1 (t60.n : Int) (t60.c : Int) 1 fun t91 =>
          slices_rotateRight_btree_node_string_api_Record.call t91 (v2.n : Int) <|
          Q t60))))
theorem slices_Insert_s_btree_node_string_api_Record_btree_node_string_api_Record_ok (s0 : Sl) (i1 : Int) (v2 : Sl) (Q : Sl → K) (w : World) (h : slices_Insert_s_btree_node_string_api_Record_btree_node_string_api_Record s0 i1 v2 Q w) : slices_Insert_s_btree_node_string_api_Record_btree_node_string_api_Record.call s0 i1 v2 Q w := by
  have hD11 : DH 11 0 [] (.s [0, 1, 2, 3, 4, 5, 6, 7] (.a [(8, 0, .e)])) := by intros; exact ⟨⟩
  have hD15 : DH 15 0 [] (.s [0, 1, 2, 3, 4, 5, 6, 7] (.a [(8, 0, .e)])) := by intros; exact ⟨⟩
  exact g_walk 95 h Tryz.func92
def slices_Clone_s_btree_item_string_api_Record_btree_item_string_api_Record (s0 : Sl) (Q : Sl → K) : K :=
  Ite ((s0).a.isNone)
    (Q (Sl.mk none 0 0))
    (New 134 #[] fun t5 =>
    Do Tryz.prog (Builtin.append_ #[109, 109] 109 #[(Sl.val (Sl.mk (some t5) 0 0)), (Sl.val s0)]) Sl.val fun t7 =>
    Q t7)
theorem slices_Clone_s_btree_item_string_api_Record_btree_item_string_api_Record_ok (s0 : Sl) (Q : Sl → K) (w : World) (h : slices_Clone_s_btree_item_string_api_Record_btree_item_string_api_Record s0 Q w) : slices_Clone_s_btree_item_string_api_Record_btree_item_string_api_Record.call s0 Q w := by
  exact g_walk 8 h Tryz.func93
def slices_Clone_s_btree_node_string_api_Record_btree_node_string_api_Record (s0 : Sl) (Q : Sl → K) : K :=
  Ite ((s0).a.isNone)
    (Q (Sl.mk none 0 0))
    (New 108 #[] fun t5 =>
    Do Tryz.prog (Builtin.append_ #[110, 110] 110 #[(Sl.val (Sl.mk (some t5) 0 0)), (Sl.val s0)]) Sl.val fun t7 =>
    Q t7)
theorem slices_Clone_s_btree_node_string_api_Record_btree_node_string_api_Record_ok (s0 : Sl) (Q : Sl → K) (w : World) (h : slices_Clone_s_btree_node_string_api_Record_btree_node_string_api_Record s0 Q w) : slices_Clone_s_btree_node_string_api_Record_btree_node_string_api_Record.call s0 Q w := by
  exact g_walk 8 h Tryz.func94
def slices_Delete_s_btree_node_string_api_Record_btree_node_string_api_Record (s0 : Sl) (i1 : Int) (j2 : Int) (Q : Sl → K) : K :=
  Slc s0 i1 j2 (s0.n : Int) 1 fun t13 =>
  Ite (decide (i1 = j2))
    (Q s0)
    (Dr <|
    Slc s0 0 i1 (s0.c : Int) 1 fun t22 =>
    Slc s0 j2 (s0.n : Int) (s0.c : Int) 1 fun t25 =>
    Do Tryz.prog (Builtin.append_ #[110, 110] 110 #[(Sl.val t22), (Sl.val t25)]) Sl.val fun t26 =>
    Slc t26 (t26.n : Int) (s0.n : Int) (t26.c : Int) 1 fun t31 =>
    Do Tryz.prog (Builtin.clear_ #[110] 0 #[(Sl.val t31)]) id fun _ =>
    Q t26)
theorem slices_Delete_s_btree_node_string_api_Record_btree_node_string_api_Record_ok (s0 : Sl) (i1 : Int) (j2 : Int) (Q : Sl → K) (w : World) (h : slices_Delete_s_btree_node_string_api_Record_btree_node_string_api_Record s0 i1 j2 Q w) : slices_Delete_s_btree_node_string_api_Record_btree_node_string_api_Record.call s0 i1 j2 Q w := by
  have hD5 : DH 5 0 [] (.s [0, 1, 2, 3, 4, 5] (.a [(6, 0, .s [7] .e)])) := by intros; exact ⟨⟩
  exact g_walk 33 h Tryz.func101
def slices_rotateRight_btree_item_string_api_Record (s0 : Sl) (r1 : Int) (Q : K) : K :=
  Ar (IntKind.wrap .i64 ((s0.n : Int) - r1)) fun t8 =>
  slices_rotateLeft_btree_item_string_api_Record.call s0 t8 <|
  Q
theorem slices_rotateRight_btree_item_string_api_Record_ok (s0 : Sl) (r1 : Int) (Q : K) (w : World) (h : slices_rotateRight_btree_item_string_api_Record s0 r1 Q w) : slices_rotateRight_btree_item_string_api_Record.call s0 r1 Q w := by
  exact g_walk 10 h Tryz.func103
def slices_rotateRight_btree_node_string_api_Record (s0 : Sl) (r1 : Int) (Q : K) : K :=
  Ar (IntKind.wrap .i64 ((s0.n : Int) - r1)) fun t8 =>
  slices_rotateLeft_btree_node_string_api_Record.call s0 t8 <|
  Q
theorem slices_rotateRight_btree_node_string_api_Record_ok (s0 : Sl) (r1 : Int) (Q : K) (w : World) (h : slices_rotateRight_btree_node_string_api_Record s0 r1 Q w) : slices_rotateRight_btree_node_string_api_Record.call s0 r1 Q w := by
  exact g_walk 10 h Tryz.func105
def slices_rotateLeft_btree_item_string_api_Record (s0 : Sl) (r1 : Int) (Q : K) : K :=
  Slc s0 0 r1 (s0.c : Int) 5 fun t6 =>
  slices_Reverse_s_btree_item_string_api_Record_btree_item_string_api_Record.call t6 <|
  Slc s0 r1 (s0.n : Int) (s0.c : Int) 5 fun t10 =>
  slices_Reverse_s_btree_item_string_api_Record_btree_item_string_api_Record.call t10 <|
  slices_Reverse_s_btree_item_string_api_Record_btree_item_string_api_Record.call s0 <|
  Q
theorem slices_rotateLeft_btree_item_string_api_Record_ok (s0 : Sl) (r1 : Int) (Q : K) (w : World) (h : slices_rotateLeft_btree_item_string_api_Record s0 r1 Q w) : slices_rotateLeft_btree_item_string_api_Record.call s0 r1 Q w := by
  exact g_walk 14 h Tryz.func107
def slices_rotateLeft_btree_node_string_api_Record (s0 : Sl) (r1 : Int) (Q : K) : K :=
  Slc s0 0 r1 (s0.c : Int) 1 fun t6 =>
  slices_Reverse_s_btree_node_string_api_Record_btree_node_string_api_Record.call t6 <|
  Slc s0 r1 (s0.n : Int) (s0.c : Int) 1 fun t10 =>
  slices_Reverse_s_btree_node_string_api_Record_btree_node_string_api_Record.call t10 <|
  slices_Reverse_s_btree_node_string_api_Record_btree_node_string_api_Record.call s0 <|
  Q
theorem slices_rotateLeft_btree_node_string_api_Record_ok (s0 : Sl) (r1 : Int) (Q : K) (w : World) (h : slices_rotateLeft_btree_node_string_api_Record s0 r1 Q w) : slices_rotateLeft_btree_node_string_api_Record.call s0 r1 Q w := by
  exact g_walk 14 h Tryz.func108
def slices_Reverse_s_btree_item_string_api_Record_btree_item_string_api_Record.b1 (Q : K)  (X1 : Int → Int → K) (s0_1 : Sl) (i2_1 : Int) (j3_1 : Int) : K :=
  Ite (decide (i2_1 < j3_1))
    (Dr <|
    Idx s0_1 j3_1 5 fun t20 =>
    Idx s0_1 i2_1 5 fun t24 =>
    LdN t20 5 fun t21 =>
    LdN t24 5 fun t25 =>
    Idx s0_1 i2_1 5 fun t26 =>
    StN t26 5 t21 <|
    Idx s0_1 j3_1 5 fun t27 =>
    StN t27 5 t25 <|
    Ar (IntKind.wrap .i64 (i2_1 + 1)) fun t11 =>
    Ar (IntKind.wrap .i64 (j3_1 - 1)) fun t13 =>
    X1 t11 t13)
    (Q)
def slices_Reverse_s_btree_item_string_api_Record_btree_item_string_api_Record (s0 : Sl) (Q : K) : K :=
  Ar (IntKind.wrap .i64 ((s0.n : Int) - 1)) fun t6 =>
  LoopK (α := Int × Int) (fun X x => slices_Reverse_s_btree_item_string_api_Record_btree_item_string_api_Record.b1 Q (fun i2_1 j3_1 => X (i2_1, j3_1)) s0 x.1 x.2) (0, t6)
theorem slices_Reverse_s_btree_item_string_api_Record_btree_item_string_api_Record_ok (s0 : Sl) (Q : K) (w : World) (h : slices_Reverse_s_btree_item_string_api_Record_btree_item_string_api_Record s0 Q w) : slices_Reverse_s_btree_item_string_api_Record_btree_item_string_api_Record.call s0 Q w := by
  have hD3 : DH 3 1 [13, 15] (.s [0, 1, 2, 3, 4, 5, 6, 8, 9, 10, 7, 11, 12] (.a [(13, 0, .s [14] (.a [(15, 0, .e)]))])) := by intros; exact ⟨⟩
  have hL1 : ∀ (s0_1 : Sl), LH 1 (fun x : Int × Int => [(0, (Sl.val s0_1)), (2, (.int .i64 x.1)), (3, (.int .i64 x.2))]) (fun X x => slices_Reverse_s_btree_item_string_api_Record_btree_item_string_api_Record.b1 Q (fun i2_1 j3_1 => X (i2_1, j3_1)) s0_1 x.1 x.2) := by intros; exact ⟨⟩
  exact g_walk 28 h Tryz.func109
def slices_Reverse_s_btree_node_string_api_Record_btree_node_string_api_Record.b1 (Q : K)  (X1 : Int → Int → K) (s0_1 : Sl) (i2_1 : Int) (j3_1 : Int) : K :=
  Ite (decide (i2_1 < j3_1))
    (Dr <|
    Idx s0_1 j3_1 1 fun t20 =>
    Idx s0_1 i2_1 1 fun t24 =>
    Ld t20 Value.pointer fun t21 =>
    Ld t24 Value.pointer fun t25 =>
    Idx s0_1 i2_1 1 fun t26 =>
    St t26 (.pointer t21) <|
    Idx s0_1 j3_1 1 fun t27 =>
    St t27 (.pointer t25) <|
    Ar (IntKind.wrap .i64 (i2_1 + 1)) fun t11 =>
    Ar (IntKind.wrap .i64 (j3_1 - 1)) fun t13 =>
    X1 t11 t13)
    (Q)
def slices_Reverse_s_btree_node_string_api_Record_btree_node_string_api_Record (s0 : Sl) (Q : K) : K :=
  Ar (IntKind.wrap .i64 ((s0.n : Int) - 1)) fun t6 =>
  LoopK (α := Int × Int) (fun X x => slices_Reverse_s_btree_node_string_api_Record_btree_node_string_api_Record.b1 Q (fun i2_1 j3_1 => X (i2_1, j3_1)) s0 x.1 x.2) (0, t6)
theorem slices_Reverse_s_btree_node_string_api_Record_btree_node_string_api_Record_ok (s0 : Sl) (Q : K) (w : World) (h : slices_Reverse_s_btree_node_string_api_Record_btree_node_string_api_Record s0 Q w) : slices_Reverse_s_btree_node_string_api_Record_btree_node_string_api_Record.call s0 Q w := by
  have hD3 : DH 3 1 [13, 15] (.s [0, 1, 2, 3, 4, 5, 6, 8, 9, 10, 7, 11, 12] (.a [(13, 0, .s [14] (.a [(15, 0, .e)]))])) := by intros; exact ⟨⟩
  have hL1 : ∀ (s0_1 : Sl), LH 1 (fun x : Int × Int => [(0, (Sl.val s0_1)), (2, (.int .i64 x.1)), (3, (.int .i64 x.2))]) (fun X x => slices_Reverse_s_btree_node_string_api_Record_btree_node_string_api_Record.b1 Q (fun i2_1 j3_1 => X (i2_1, j3_1)) s0_1 x.1 x.2) := by intros; exact ⟨⟩
  exact g_walk 28 h Tryz.func110
end Go.Proofs.YtihncgfghpbhdaaGreat
/- Plain forms of functions, and that their code comes to them (package lib_cmp). -/
namespace Go.Proofs.YtihncgfghpbhdaaGreat
open Go Go.Sep
set_option linter.unusedVariables false
set_option linter.unusedSimpArgs false
set_option maxRecDepth 100000
set_option maxHeartbeats 4000000
attribute [local irreducible] G Gp Cx Tx Ex Sx Dx Ox Ax Lx Rx Fx Bx Bj Al Do Ld LdN St StN New CallF Ar DoU Rd Rd2 Pu Cd Ite Fv CallV CallY Ans0 Ans1 Ans2 Ans3 Ans4 Ans5 Ext Dead Dr WithS Sv LdS LdNS RdS Rd2S Nn Idx IdxA IdxS Fld Bld Slc SlcS Cat All LoopK RangeF RangeJ TakeD
namespace F_IRLibCmp
instance cb_100 : CB Tryz.prog 100 := ⟨by kernel_rfl⟩
instance mx : MX Tryz.prog := ⟨mixed⟩
end F_IRLibCmp
def cmp_Less_string.s1 (Q : Bool → K)  (t4_1 : Bool) : K :=
  Q t4_1
def cmp_Less_string (x0 : ByteArray) (y1 : ByteArray) (Q : Bool → K) : K :=
  cmp_isNaN_string.call x0 fun t6 =>
  Ite t6
    (cmp_isNaN_string.call y1 fun t9 =>
    Ite (!t9)
      (cmp_Less_string.s1 Q true)
      (cmp_Less_string.s1 Q (Op.bytesLess x0.toList y1.toList)))
    (cmp_Less_string.s1 Q (Op.bytesLess x0.toList y1.toList))
theorem cmp_Less_string_ok (x0 : ByteArray) (y1 : ByteArray) (Q : Bool → K) (w : World) (h : cmp_Less_string x0 y1 Q w) : cmp_Less_string.call x0 y1 Q w := by
  have hJ1000001 : JH 1000001 fun D => D [] (fun C => ∀ (t4_1 : Bool), C [(4, (.bool t4_1))] (cmp_Less_string.s1 Q t4_1)) := by intros; exact ⟨fun _ h => ⟨_, _, h⟩⟩
  exact g_walk 17 h Tryz.func80
def cmp_Compare_string (x0 : ByteArray) (y1 : ByteArray) (Q : Int → K) : K :=
  cmp_isNaN_string.call x0 fun t8 =>
  cmp_isNaN_string.call y1 fun t10 =>
  Ite t8
    (Ite t10
      (Q 0)
      (Q (-1)))
    (Ite t10
      (Q 1)
      (Ite (Op.bytesLess x0.toList y1.toList)
        (Q (-1))
        (Ite (!(Op.bytesLess x0.toList y1.toList || x0.toList == y1.toList))
          (Q 1)
          (Q 0))))
theorem cmp_Compare_string_ok (x0 : ByteArray) (y1 : ByteArray) (Q : Int → K) (w : World) (h : cmp_Compare_string x0 y1 Q w) : cmp_Compare_string.call x0 y1 Q w := by
  exact g_walk 20 h Tryz.func87
def cmp_isNaN_string (x0 : ByteArray) (Q : Bool → K) : K :=
  Q (!(x0.toList == x0.toList))
theorem cmp_isNaN_string_ok (x0 : ByteArray) (Q : Bool → K) (w : World) (h : cmp_isNaN_string x0 Q w) : cmp_isNaN_string.call x0 Q w := by
  exact g_walk 6 h Tryz.func100
end Go.Proofs.YtihncgfghpbhdaaGreat
/- The B-tree of records by strings is one of Bt's. -/
namespace Go.Proofs.YtihncgfghpbhdaaGreat
open Go Go.Sep Go.Sep.Bt
set_option linter.unusedSimpArgs false
set_option linter.unusedVariables false
set_option maxRecDepth 100000

noncomputable def btS : BtT ByteArray where
  P := Tryz.prog
  tI := ty_btree_item_string_api_Record
  tSI := ty_s_btree_item_string_api_Record
  tV := ty_api_Record
  tK := ty_p_btree_node_string_api_Record
  tSK := ty_s_p_btree_node_string_api_Record
  tN := ty_btree_node_string_api_Record
  tT := ty_btree_Tree_string_api_Record
  nv := 4
  kz := .string ⟨#[]⟩
  vz := [.bool false, Sl.val ⟨none, 0, 0⟩, .int .i64 0, .int .u64 0]
  kV := Value.string
  cv := .func (.func 86) #[] #[]
  bsC := slices_BinarySearchFunc_s_btree_item_string_api_Record_btree_item_string_api_Record_string.call
  nsearchC := btree_node_string_api_Record_search.call
  nputC := btree_node_string_api_Record_put.call
  insIC := slices_Insert_s_btree_item_string_api_Record_btree_item_string_api_Record.call
  insKC := slices_Insert_s_btree_node_string_api_Record_btree_node_string_api_Record.call
  cloneIC := slices_Clone_s_btree_item_string_api_Record_btree_item_string_api_Record.call
  cloneKC := slices_Clone_s_btree_node_string_api_Record_btree_node_string_api_Record.call

/-- How strings are compared. -/
def cmpS (a b : ByteArray) : Int := if a.toList < b.toList then -1 else if a.toList = b.toList then 0 else 1
theorem toList_inj {a b : ByteArray} (h : a.toList = b.toList) : a = b := by
  obtain ⟨x, rfl⟩ := bs_of a
  obtain ⟨y, rfl⟩ := bs_of b
  rw [bs_list, bs_list] at h
  rw [h]
theorem cmpS_neg {a b : ByteArray} : cmpS a b < 0 ↔ a.toList < b.toList := by
  unfold cmpS
  split
  · simp [*]
  · split <;> simp [*]
theorem cmpS_zero {a b : ByteArray} : cmpS a b = 0 ↔ a = b := by
  unfold cmpS
  split
  · rename_i h
    simp only [show ¬ ((-1 : Int) = 0) by omega, false_iff]
    rintro rfl; exact List.lt_irrefl _ h
  · split
    · rename_i h; simp [toList_inj h]
    · rename_i h
      simp only [show ¬ ((1 : Int) = 0) by omega, false_iff]
      rintro rfl; exact h rfl
theorem list_tri {x y : List UInt8} (h1 : ¬ x < y) (h2 : ¬ x = y) : y < x := by
  have h4 : y ≤ x := by rw [← List.not_lt]; exact h1
  rcases List.le_iff_lt_or_eq.1 h4 with h5 | h5
  · exact h5
  · exact absurd h5.symm h2
theorem cmpS_pos {a b : ByteArray} : 0 < cmpS a b ↔ b.toList < a.toList := by
  unfold cmpS
  split
  · rename_i h
    simp only [show ¬ (0 < (-1 : Int)) by omega, false_iff]
    exact fun h2 => List.lt_irrefl _ (List.lt_trans h h2)
  · split
    · rename_i h
      simp only [show ¬ (0 < (0 : Int)) by omega, false_iff]
      rw [h]; exact List.lt_irrefl _
    · rename_i h1 h2
      simp only [show 0 < (1 : Int) by omega, true_iff]
      exact list_tri h1 h2
theorem isNaN_spec {B : World} {Γ : List HProp} {x : ByteArray} {q : Bool → K} (h : HG B Γ (q false)) : HG B Γ (cmp_isNaN_string.call x q) := fun w hw => cmp_isNaN_string_ok _ _ _ (by unfold cmp_isNaN_string; simpa using h w hw)
theorem Compare_spec {B : World} {Γ : List HProp} {x y : ByteArray} {q : Int → K} (h : HG B Γ (q (cmpS x y))) : HG B Γ (cmp_Compare_string.call x y q) := fun w hw => by
  refine cmp_Compare_string_ok _ _ _ _ ?_
  refine hg hw ?_
  unfold cmp_Compare_string
  refine isNaN_spec (isNaN_spec ?_)
  refine s_f ?_ rfl
  refine s_f ?_ rfl
  rw [gt_dec, bytesLess_dec]
  refine s_ite (fun h1 => ?_) fun h1 => ?_
  · have e : cmpS x y = -1 := by unfold cmpS; rw [if_pos (by simpa using h1)]
    rw [e] at h; exact h
  refine s_ite (fun h2 => ?_) fun h2 => ?_
  · have h3 : y.toList < x.toList := by simpa using h2
    have e : cmpS x y = 1 := by
      unfold cmpS
      rw [if_neg (by simpa using h1), if_neg fun h4 => by rw [h4] at h3; exact List.lt_irrefl _ h3]
    rw [e] at h; exact h
  · have h3 : ¬ y.toList < x.toList := by simpa using h2
    have e : cmpS x y = 0 := by
      unfold cmpS
      rw [if_neg (by simpa using h1), if_pos (Classical.byContradiction fun h4 => h3 (list_tri (by simpa using h1) h4))]
    rw [e] at h; exact h
theorem btS_ok : BtOk btS cmpS where
  kf := fun _ => rfl
  kzf := rfl
  vz := ⟨rfl, rfl⟩
  TI := by kernel_rfl
  ZI := by kernel_rfl
  TK := by kernel_rfl
  ZK := by kernel_rfl
  tr := fun h1 h2 => cmpS_neg.2 (List.lt_trans (cmpS_neg.1 h1) (cmpS_neg.1 h2))
  eq := cmpS_zero
  sw := by intro a b; rw [cmpS_neg, cmpS_pos]
  cmp := fun a b vs q hl h => by
    refine s_callv ?_
    refine fun w hw => btree_node_string_api_Record_search_1_ok _ _ _ _ ?_
    refine hg hw ?_
    clear hw w
    unfold btree_node_string_api_Record_search_1
    refine s_new fun t => ?_
    refine s_ld (b := t) (x := a) ?_
    refine Compare_spec ?_
    exact s_end h
  bs := fun s k Q w h => slices_BinarySearchFunc_s_btree_item_string_api_Record_btree_item_string_api_Record_string_ok _ _ _ _ _ h
  search := fun n k Q w h => btree_node_string_api_Record_search_ok _ _ _ _ h
  put := fun n x Q w h => btree_node_string_api_Record_put_ok _ _ _ _ h
  insI := ⟨_, _, fun s i v Q w h => slices_Insert_s_btree_item_string_api_Record_btree_item_string_api_Record_ok _ _ _ _ _ h⟩
  insK := ⟨_, _, fun s i v Q w h => slices_Insert_s_btree_node_string_api_Record_btree_node_string_api_Record_ok _ _ _ _ _ h⟩
  cloneI := fun s Q w h => slices_Clone_s_btree_item_string_api_Record_btree_item_string_api_Record_ok _ _ _ h
  cloneK := fun s Q w h => slices_Clone_s_btree_node_string_api_Record_btree_node_string_api_Record_ok _ _ _ h

section
variable {B : World} {Γ : List HProp}
theorem btNew_spec {Q : Option Addr → K} (h : ∀ t, HG B (TreeR btS cmpS t [] :: Γ) (Q (some ⟨t, 0, none⟩))) : HG B Γ (btree_New_string_api_Record.call Q) := fun w hw =>
  btree_New_string_api_Record_ok _ _ (show tnew btS Q w from hg hw (tnew_spec h))
theorem btGet_spec {t : Nat} {L : List btS.It} {k : ByteArray} {Q : Array Value → Bool → K} (hfound : ∀ A v C, L = A ++ (k, v) :: C → HG B (TreeR btS cmpS t L :: Γ) (Q v.1.toArray true)) (hnot : (∀ A C, L = A ++ C → (∀ x ∈ A, cmpS x.1 k < 0) → (∀ x ∈ C, cmpS k x.1 < 0) → HG B (TreeR btS cmpS t L :: Γ) (Q btS.vz.toArray false))) :
    HG B (TreeR btS cmpS t L :: Γ) (btree_Tree_string_api_Record_Get.call (some ⟨t, 0, none⟩) k Q) := fun w hw =>
  btree_Tree_string_api_Record_Get_ok _ _ _ _ (show tget btS (some ⟨t, 0, none⟩) k Q w from hg hw (tget_spec btS_ok hfound hnot))
theorem btPut_spec {t : Nat} {L : List btS.It} {k : ByteArray} {v : Cel btS.nv} {Q : Array Value → Bool → K} (hL : L.length < 1000000000) (h : ∀ L' old had, PutR cmpS (btS.z0 btS_ok.vz) L k v L' old had → HG B (TreeR btS cmpS t L' :: Γ) (Q old.1.toArray had)) :
    HG B (TreeR btS cmpS t L :: Γ) (btree_Tree_string_api_Record_Put.call (some ⟨t, 0, none⟩) k v.1.toArray Q) := fun w hw =>
  btree_Tree_string_api_Record_Put_ok _ _ _ _ _ (show tput btS (some ⟨t, 0, none⟩) k v.1.toArray Q w from hg hw (tput_spec btS_ok hL h))
end
end Go.Proofs.YtihncgfghpbhdaaGreat
/- Plain forms of functions, and that their code comes to them (package lib_bytes). -/
namespace Go.Proofs.YtihncgfghpbhdaaGreat
open Go Go.Sep
set_option linter.unusedVariables false
set_option linter.unusedSimpArgs false
set_option maxRecDepth 100000
set_option maxHeartbeats 4000000
attribute [local irreducible] G Gp Cx Tx Ex Sx Dx Ox Ax Lx Rx Fx Bx Bj Al Do Ld LdN St StN New CallF Ar DoU Rd Rd2 Pu Cd Ite Fv CallV CallY Ans0 Ans1 Ans2 Ans3 Ans4 Ans5 Ext Dead Dr WithS Sv LdS LdNS RdS Rd2S Nn Idx IdxA IdxS Fld Bld Slc SlcS Cat All LoopK RangeF RangeJ TakeD
namespace F_IRLibBytes
instance mx : MX Tryz.prog := ⟨mixed⟩
instance sl_63 : SLT Tryz.prog 63 5 1 := ⟨by kernel_rfl⟩
instance un_63 : UN Tryz.prog 63 (.slice 5) := ⟨Tryz.underlying63⟩
instance zt_5 : ZT Tryz.prog 5 (.int .u8 0) := ⟨Tryz.t5, by kernel_rfl, by kernel_rfl⟩
end F_IRLibBytes
def bytes_Clone (b0 : Sl) (Q : Sl → K) : K :=
  Ite ((b0).a.isNone)
    (Q (Sl.mk none 0 0))
    (New 5 #[] fun t5 =>
    Do Tryz.prog (Builtin.append_ #[63, 63] 63 #[(Sl.val (Sl.mk (some t5) 0 0)), (Sl.val b0)]) Sl.val fun t7 =>
    Q t7)
theorem bytes_Clone_ok (b0 : Sl) (Q : Sl → K) (w : World) (h : bytes_Clone b0 Q w) : bytes_Clone.call b0 Q w := by
  exact g_walk 8 h Tryz.func64
end Go.Proofs.YtihncgfghpbhdaaGreat
/- bytes.Clone gives the same bytes in memory of one's own. -/
namespace Go.Proofs.YtihncgfghpbhdaaGreat
open Go Go.Sep
set_option linter.unusedSimpArgs false
set_option linter.unusedVariables false
section
variable {B w : World} {Γ : List HProp}
theorem bytes_Clone_spec {b : Sl} {xs : List UInt8} {k : Sl → K} (h : Holds B Γ w) (hr : ∀ w, Holds B Γ w → RdB w b xs) (hl : xs.length ≤ 1000000000)
    (hk : ∀ s w, Holds B (Bytes ty_uint8 s xs :: Γ) w → s.a.isNone = b.a.isNone → k s w) : bytes_Clone.call b k w := by
  refine bytes_Clone_ok _ _ _ ?_
  unfold bytes_Clone
  refine r_ite (fun hb => ?_) (fun hb => ?_)
  · have hx : xs = [] := by
      have h1 := (hr w h).nil (by simpa using hb)
      have h2 := (hr w h).len
      rw [h1] at h2; simpa using h2
    subst hx
    exact hk _ _ (h.nilSl _ _) (by rw [hb]; rfl)
  · refine r_new h ?_
    clear h
    intro t w h
    try simp only [add_mk, Nat.zero_add, Nat.reduceAdd]
    have hn : b.n = xs.length := by have h2 := (hr w h.tail).len; simpa using h2.symm
    refine r_append (vs := []) (h.imp (blk_SlC rfl rfl)) (by kernel_rfl) (by kernel_rfl) (by' := 1) (by kernel_rfl) zero_ty_uint8 rfl (hr w h.tail) (byteV_flat _) (by simp only [hn]; omega) (by decide) fun s w h hs ha => ?_
    refine hk s w h ?_
    rw [hb]
    have := ha rfl
    cases hh : s.a <;> simp [hh] at this ⊢
end
end Go.Proofs.YtihncgfghpbhdaaGreat
/- Plain forms of functions, and that their code comes to them (package store). -/
namespace Go.Proofs.YtihncgfghpbhdaaGreat
open Go Go.Sep
set_option linter.unusedVariables false
set_option linter.unusedSimpArgs false
set_option maxRecDepth 100000
set_option maxHeartbeats 4000000
attribute [local irreducible] G Gp Cx Tx Ex Sx Dx Ox Ax Lx Rx Fx Bx Bj Al Do Ld LdN St StN New CallF Ar DoU Rd Rd2 Pu Cd Ite Fv CallV CallY Ans0 Ans1 Ans2 Ans3 Ans4 Ans5 Ext Dead Dr WithS Sv LdS LdNS RdS Rd2S Nn Idx IdxA IdxS Fld Bld Slc SlcS Cat All LoopK RangeF RangeJ TakeD
namespace F_IRStore
instance at_65 : AT Tryz.prog 65 4 := ⟨by kernel_rfl⟩
instance cb_26 : CB Tryz.prog 26 := ⟨by kernel_rfl⟩
instance cb_46 : CB Tryz.prog 46 := ⟨by kernel_rfl⟩
instance cb_49 : CB Tryz.prog 49 := ⟨by kernel_rfl⟩
instance cb_62 : CB Tryz.prog 62 := ⟨by kernel_rfl⟩
instance cb_63 : CB Tryz.prog 63 := ⟨by kernel_rfl⟩
instance cb_64 : CB Tryz.prog 64 := ⟨by kernel_rfl⟩
instance cb_65 : CB Tryz.prog 65 := ⟨by kernel_rfl⟩
instance cb_66 : CB Tryz.prog 66 := ⟨by kernel_rfl⟩
instance ct_3 : CT Tryz.prog 3 := ⟨by kernel_rfl⟩
instance ct_38 : CT Tryz.prog 38 := ⟨by kernel_rfl⟩
instance ct_4 : CT Tryz.prog 4 := ⟨by kernel_rfl⟩
instance ct_61 : CT Tryz.prog 61 := ⟨by kernel_rfl⟩
instance ct_63 : CT Tryz.prog 63 := ⟨by kernel_rfl⟩
instance ft_65_0 : FT Tryz.prog 65 0 0 1 := ⟨by kernel_rfl⟩
instance ft_65_1 : FT Tryz.prog 65 1 1 1 := ⟨by kernel_rfl⟩
instance ft_65_2 : FT Tryz.prog 65 2 2 1 := ⟨by kernel_rfl⟩
instance ft_65_3 : FT Tryz.prog 65 3 3 1 := ⟨by kernel_rfl⟩
instance ft_67_0 : FT Tryz.prog 67 0 0 1 := ⟨by kernel_rfl⟩
instance ft_67_1 : FT Tryz.prog 67 1 1 1 := ⟨by kernel_rfl⟩
instance in_3 : INT Tryz.prog 3 .i64 := ⟨by kernel_rfl⟩
instance in_5 : INT Tryz.prog 5 .u8 := ⟨by kernel_rfl⟩
instance mx : MX Tryz.prog := ⟨mixed⟩
instance pl_67 : PLT Tryz.prog 67 [(0, 1), (1, 1)] := ⟨_, Tryz.underlying67, by kernel_rfl⟩
instance st_9 : STT Tryz.prog 9 := ⟨by kernel_rfl⟩
instance sz_3 : SZ Tryz.prog 3 1 := ⟨by kernel_rfl⟩
instance sz_38 : SZ Tryz.prog 38 1 := ⟨by kernel_rfl⟩
instance sz_63 : SZ Tryz.prog 63 1 := ⟨by kernel_rfl⟩
instance sz_65 : SZ Tryz.prog 65 4 := ⟨by kernel_rfl⟩
instance zt_65 : ZT Tryz.prog 65 (.agg #[(.bool false), (Sl.val ⟨none, 0, 0⟩), (.int .i64 0), (.int .u64 0)]) := ⟨Tryz.t65, by kernel_rfl, by kernel_rfl⟩
instance zt_67 : ZT Tryz.prog 67 (.agg #[(.int .i64 0), (.pointer none)]) := ⟨Tryz.t67, by kernel_rfl, by kernel_rfl⟩
end F_IRStore
def store_New.s1 (Q : (Option Addr) → Int → K)  (regions0_1 : Int) (t9_1 : Bool) : K :=
  Ite t9_1
    (Q none 1)
    (btree_New_string_api_Record.call  fun t11 =>
    New 67 #[(.int .i64 regions0_1), (.pointer t11)] fun t13 =>
    Q (some t13) 0)
def store_New (regions0 : Int) (Q : (Option Addr) → Int → K) : K :=
  Ite (decide (regions0 < 1))
    (store_New.s1 Q regions0 true)
    (store_New.s1 Q regions0 (decide ((3 : Int) < regions0)))
theorem store_New_ok (regions0 : Int) (Q : (Option Addr) → Int → K) (w : World) (h : store_New regions0 Q w) : store_New.call regions0 Q w := by
  have hJ2 : JH 2 fun D => ∃ (regions0_1 : Int), D [(0, (.int .i64 regions0_1))] (fun C => ∀ (t9_1 : Bool), C [(0, (.int .i64 regions0_1)), (9, (.bool t9_1))] (store_New.s1 Q regions0_1 t9_1)) := by intros; exact ⟨fun _ ⟨_, h⟩ => ⟨_, _, h⟩⟩
  exact g_walk 14 h Tryz.func6
def store_Store_Move.s1 (Q : Int → K)  (s0_1 : (Option Addr)) (key1_1 : ByteArray) (home2_1 : Int) (r7_1 : Addr) (t11_1 : Bool) : K :=
  Ite t11_1
    (Q 1)
    (Ld (r7_1.add 3) (Value.int .u64) fun t24 =>
    Ite (decide (t24 = 18446744073709551615))
      (Q 111)
      (St (r7_1.add 2) (.int .i64 home2_1) <|
      Ld (r7_1.add 3) (Value.int .u64) fun t29 =>
      Ar (IntKind.wrap .u64 (t29 + 1)) fun t30 =>
      St (r7_1.add 3) (.int .u64 t30) <|
      LdN r7_1 4 fun t34 =>
      store_Store_set.call s0_1 key1_1 t34 <|
      Q 0))
def store_Store_Move (s0 : (Option Addr)) (key1 : ByteArray) (home2 : Int) (Q : Int → K) : K :=
  store_Store_Get.call s0 key1 fun t10 =>
  New 65 #[(.bool false), (Sl.val ⟨none, 0, 0⟩), (.int .i64 0), (.int .u64 0)] fun r7 =>
  StN r7 4 t10 <|
  Ite (decide (home2 < 0))
    (store_Store_Move.s1 Q s0 key1 home2 r7 true)
    (Nn s0 fun t17 =>
    Ld t17 (Value.int .i64) fun t19 =>
    store_Store_Move.s1 Q (some t17) key1 home2 r7 (decide (t19 ≤ home2)))
theorem store_Store_Move_ok (s0 : (Option Addr)) (key1 : ByteArray) (home2 : Int) (Q : Int → K) (w : World) (h : store_Store_Move s0 key1 home2 Q w) : store_Store_Move.call s0 key1 home2 Q w := by
  have hJ3 : JH 3 fun D => ∃ (s0_1 : (Option Addr)) (key1_1 : ByteArray) (home2_1 : Int) (r7_1 : Addr), D [(0, (.pointer s0_1)), (1, (.string key1_1)), (2, (.int .i64 home2_1)), (7, (.pointer (some r7_1)))] (fun C => ∀ (t11_1 : Bool), C [(0, (.pointer s0_1)), (1, (.string key1_1)), (2, (.int .i64 home2_1)), (7, (.pointer (some r7_1))), (11, (.bool t11_1))] (store_Store_Move.s1 Q s0_1 key1_1 home2_1 r7_1 t11_1)) := by intros; exact ⟨fun _ ⟨_, _, _, _, h⟩ => ⟨_, _, h⟩⟩
  exact g_walk 36 h Tryz.func28
def store_Store_Get.s1 (Q : (Array Value) → K)  (t4_1 : Addr) (r5_1 : Addr) : K :=
  Ld (r5_1.add 1) Sl.val fun t26 =>
  bytes_Clone.call t26 fun t27 =>
  St (r5_1.add 1) (Sl.val t27) <|
  LdN r5_1 4 fun t29 =>
  StN t4_1 4 t29 <|
  LdN t4_1 4 fun r0 =>
  Q r0
def store_Store_Get (s0 : (Option Addr)) (key1 : ByteArray) (Q : (Array Value) → K) : K :=
  New 65 #[(.bool false), (Sl.val ⟨none, 0, 0⟩), (.int .i64 0), (.int .u64 0)] fun t4 =>
  Nn s0 fun t9 =>
  Ld (t9.add 1) Value.pointer fun t11 =>
  btree_Tree_string_api_Record_Get.call t11 key1 fun t13x0 t13x1 =>
  New 65 #[(.bool false), (Sl.val ⟨none, 0, 0⟩), (.int .i64 0), (.int .u64 0)] fun r5 =>
  StN r5 4 t13x0 <|
  Ite (!t13x1)
    (Ld t9 (Value.int .i64) fun t22 =>
    store_Default.call key1 t22 fun t23 =>
    St (r5.add 2) (.int .i64 t23) <|
    store_Store_Get.s1 Q t4 r5)
    (store_Store_Get.s1 Q t4 r5)
theorem store_Store_Get_ok (s0 : (Option Addr)) (key1 : ByteArray) (Q : (Array Value) → K) (w : World) (h : store_Store_Get s0 key1 Q w) : store_Store_Get.call s0 key1 Q w := by
  have hJ4 : JH 4 fun D => ∃ (t4_1 : Addr) (r5_1 : Addr), D [(4, (.pointer (some t4_1))), (5, (.pointer (some r5_1)))] (fun C => C [(4, (.pointer (some t4_1))), (5, (.pointer (some r5_1)))] (store_Store_Get.s1 Q t4_1 r5_1)) := by intros; exact ⟨fun _ ⟨_, _, h⟩ => ⟨_, _, h⟩⟩
  exact g_walk 30 h Tryz.func46
def store_Store_set.s1 (Q : K)  (s0_1 : (Option Addr)) (key1_1 : ByteArray) (r5_1 : Addr) (t13_1 : Bool) : K :=
  Ite t13_1
    (Nn s0_1 fun t15 =>
    Ld (t15.add 1) Value.pointer fun t17 =>
    btree_Tree_string_api_Record_Delete.call t17 key1_1 fun t19x0 t19x1 =>
    Q)
    (Dr <|
    Nn s0_1 fun t21 =>
    Ld (t21.add 1) Value.pointer fun t23 =>
    LdN r5_1 4 fun t25 =>
    btree_Tree_string_api_Record_Put.call t23 key1_1 t25 fun t26x0 t26x1 =>
    Q)
def store_Store_set (s0 : (Option Addr)) (key1 : ByteArray) (r2 : (Array Value)) (Q : K) : K :=
  New 65 r2 fun r5 =>
  Ld r5 Value.bool fun t7 =>
  Ite (!t7)
    (Ld (r5.add 3) (Value.int .u64) fun t11 =>
    store_Store_set.s1 Q s0 key1 r5 (decide (t11 = 0)))
    (store_Store_set.s1 Q s0 key1 r5 false)
theorem store_Store_set_ok (s0 : (Option Addr)) (key1 : ByteArray) (r2 : (Array Value)) (Q : K) (w : World) (h : store_Store_set s0 key1 r2 Q w) : store_Store_set.call s0 key1 r2 Q w := by
  have hD3 : DH 3 1 [6] (.s [0, 1, 2, 4, 3, 5] (.a [(6, 0, .e)])) := by intros; exact ⟨⟩
  have hJ2 : JH 2 fun D => ∃ (s0_1 : (Option Addr)) (key1_1 : ByteArray) (r5_1 : Addr), D [(0, (.pointer s0_1)), (1, (.string key1_1)), (5, (.pointer (some r5_1)))] (fun C => ∀ (t13_1 : Bool), C [(0, (.pointer s0_1)), (1, (.string key1_1)), (5, (.pointer (some r5_1))), (13, (.bool t13_1))] (store_Store_set.s1 Q s0_1 key1_1 r5_1 t13_1)) := by intros; exact ⟨fun _ ⟨_, _, _, h⟩ => ⟨_, _, h⟩⟩
  exact g_walk 27 h Tryz.func49
def store_Default.b1 (Q : Int → K)  (X1 : Int → Int → K) (key0_1 : ByteArray) (regions1_1 : Int) (t10_1 : Int) (sum5_1 : Int) (t11_1 : Int) : K :=
  Ite (decide (t11_1 < t10_1))
    (IdxS key0_1 t11_1 fun t17 =>
    Ar (IntKind.wrap .i64 t17) fun t18 =>
    Ar (IntKind.wrap .i64 (sum5_1 + t18)) fun t19 =>
    Cd (regions1_1 ≠ 0) <|
    Ar (Int.tmod t19 regions1_1) fun t21 =>
    Ar (IntKind.wrap .i64 (t11_1 + 1)) fun t22 =>
    X1 t21 t22)
    (Q sum5_1)
def store_Default (key0 : ByteArray) (regions1 : Int) (Q : Int → K) : K :=
  Ite (decide (regions1 < 1))
    (Q 0)
    (LoopK (α := Int × Int) (fun X x => store_Default.b1 Q (fun sum5_1 t11_1 => X (sum5_1, t11_1)) key0 regions1 (key0.size : Int) x.1 x.2) (0, 0))
theorem store_Default_ok (key0 : ByteArray) (regions1 : Int) (Q : Int → K) (w : World) (h : store_Default key0 regions1 Q w) : store_Default.call key0 regions1 Q w := by
  have hL5 : ∀ (key0_1 : ByteArray) (regions1_1 : Int) (t10_1 : Int), LH 5 (fun x : Int × Int => [(0, (.string key0_1)), (1, (.int .i64 regions1_1)), (5, (.int .i64 x.1)), (10, (.int .i64 t10_1)), (11, (.int .i64 x.2))]) (fun X x => store_Default.b1 Q (fun sum5_1 t11_1 => X (sum5_1, t11_1)) key0_1 regions1_1 t10_1 x.1 x.2) := by intros; exact ⟨⟩
  exact g_walk 24 h Tryz.func63
end Go.Proofs.YtihncgfghpbhdaaGreat
/- The store: its records; New, Get. -/
namespace Go.Proofs.YtihncgfghpbhdaaGreat
open Go Go.Sep Go.Sep.Bt
set_option linter.unusedSimpArgs false
set_option linter.unusedVariables false
set_option maxRecDepth 100000

structure Rec where
  has : Bool
  val : List UInt8
  home : Int
  cnt : Int
def Rec.ok (r : Rec) : Prop := 0 ≤ r.cnt ∧ r.cnt ≤ 18446744073709551615 ∧ r.val.length ≤ 1000000000
abbrev recL (r : Rec) (s : Sl) : List Value := [.bool r.has, s.val, .int .i64 r.home, .int .u64 r.cnt]
abbrev recA (r : Rec) (s : Sl) : Array Value := #[.bool r.has, s.val, .int .i64 r.home, .int .u64 r.cnt]
abbrev recC (x : Rec × Sl) : Cel 4 := ⟨recL x.1 x.2, rfl, rfl⟩
abbrev Recs := List (ByteArray × Rec)
abbrev RecX := ByteArray × (Rec × Sl)
abbrev recB (x : RecX) : HProp := Bytes ty_uint8 x.2.2 x.2.1.val
abbrev recI (x : RecX) : btS.It := (x.1, recC x.2)
abbrev recM (x : RecX) : ByteArray × Rec := (x.1, x.2.1)
/-- The first home of a key. -/
def homeOf (k : List UInt8) (n : Nat) : Nat := k.foldl (fun s b => (s + b.toNat) % n) 0
def getM (M : Recs) (k : ByteArray) : Option Rec := (M.find? fun x => decide (x.1 = k)).map Prod.snd
def putM (M : Recs) (k : ByteArray) (r : Rec) : Recs := match M with
  | [] => [(k, r)]
  | x :: M => if cmpS x.1 k < 0 then x :: putM M k r else if x.1 = k then (k, r) :: M else (k, r) :: x :: M
def sGet (n : Nat) (M : Recs) (k : ByteArray) : Rec := (getM M k).getD ⟨false, [], homeOf k.toList n, 0⟩
def sMove (n : Nat) (M : Recs) (k : ByteArray) (h : Int) : Recs × Int :=
  if h < 0 ∨ (n : Int) ≤ h then (M, 1) else if (sGet n M k).cnt = 18446744073709551615 then (M, 111) else (putM M k { sGet n M k with home := h, cnt := (sGet n M k).cnt + 1 }, 0)
theorem getM_put (M : Recs) (k k' : ByteArray) (r : Rec) : getM (putM M k r) k' = if k' = k then some r else getM M k' := by
  induction M with
  | nil => by_cases h : k' = k <;> simp [putM, getM, h, eq_comm]
  | cons x M ih =>
    unfold putM
    split
    · rename_i h
      have hx : x.1 ≠ k := fun e => by rw [e] at h; have := cmpS_neg.1 h; exact List.lt_irrefl _ this
      by_cases h2 : k' = k
      · subst h2
        have := ih
        simp only [getM, List.find?_cons, if_true] at this ⊢
        rw [show decide (x.1 = k') = false by simpa using hx]
        simpa using this
      · simp only [if_neg h2] at ih ⊢
        by_cases h3 : x.1 = k'
        · simp [getM, List.find?_cons, h3]
        · simp only [getM, List.find?_cons, show decide (x.1 = k') = false by simpa using h3]
          simpa [getM] using ih
    · split
      · rename_i h h1
        by_cases h2 : k' = k
        · subst h2; simp [getM]
        · simp [getM, List.find?_cons, h2, Ne.symm h2, h1]
      · rename_i h h1
        by_cases h2 : k' = k
        · subst h2; simp [getM]
        · simp [getM, List.find?_cons, h2, Ne.symm h2]
theorem putM_len (M : Recs) (k : ByteArray) (r : Rec) : (putM M k r).length ≤ M.length + 1 := by
  induction M with
  | nil => simp [putM]
  | cons x M ih =>
    unfold putM
    split
    · simp; omega
    · split <;> simp
theorem putM_mem {M : Recs} {k : ByteArray} {r : Rec} {x : ByteArray × Rec} (h : x ∈ putM M k r) : x = (k, r) ∨ x ∈ M := by
  induction M with
  | nil => simpa [putM] using h
  | cons y M ih =>
    unfold putM at h
    split at h
    · rcases List.mem_cons.1 h with rfl | h
      · exact .inr List.mem_cons_self
      · rcases ih h with h | h
        · exact .inl h
        · exact .inr (List.mem_cons_of_mem _ h)
    · split at h
      · rcases List.mem_cons.1 h with rfl | h
        · exact .inl rfl
        · exact .inr (List.mem_cons_of_mem _ h)
      · rcases List.mem_cons.1 h with rfl | h
        · exact .inl rfl
        · exact .inr h
theorem sGet_put (n : Nat) (M : Recs) (k k' : ByteArray) (r : Rec) : sGet n (putM M k r) k' = if k' = k then r else sGet n M k' := by
  unfold sGet
  rw [getM_put]
  split <;> simp
theorem getM_mem {M : Recs} {k : ByteArray} {r : Rec} (h : getM M k = some r) : (k, r) ∈ M := by
  simp only [getM, Option.map_eq_some_iff] at h
  obtain ⟨x, hx, rfl⟩ := h
  have h1 := List.mem_of_find?_eq_some hx
  have h2 := List.find?_some hx
  simp only [decide_eq_true_eq] at h2
  rw [← h2]; exact h1
theorem getM_mid {A C : Recs} {k : ByteArray} {r : Rec} (hA : ∀ x ∈ A, x.1 ≠ k) : getM (A ++ (k, r) :: C) k = some r := by
  unfold getM
  rw [List.find?_append, List.find?_eq_none.2 (fun x hx => by simpa using hA x hx)]
  simp
theorem getM_none {M : Recs} {k : ByteArray} (h : ∀ x ∈ M, x.1 ≠ k) : getM M k = none := by
  unfold getM
  rw [List.find?_eq_none.2 (fun x hx => by simpa using h x hx)]; rfl
theorem putM_mid {A C : Recs} {k : ByteArray} {r0 r : Rec} (hA : ∀ x ∈ A, cmpS x.1 k < 0) : putM (A ++ (k, r0) :: C) k r = A ++ (k, r) :: C := by
  induction A with
  | nil =>
    have : ¬ cmpS k k < 0 := fun h => List.lt_irrefl _ (cmpS_neg.1 h)
    simp [putM, this]
  | cons x A ih =>
    rw [List.cons_append, putM, if_pos (hA x List.mem_cons_self), ih (fun y hy => hA y (List.mem_cons_of_mem _ hy))]; rfl
theorem putM_new {A C : Recs} {k : ByteArray} {r : Rec} (hA : ∀ x ∈ A, cmpS x.1 k < 0) (hC : ∀ x ∈ C, cmpS k x.1 < 0) : putM (A ++ C) k r = A ++ (k, r) :: C := by
  induction A with
  | nil =>
    cases C with
    | nil => rfl
    | cons y C =>
      have h := cmpS_neg.1 (hC y List.mem_cons_self)
      have h1 : ¬ cmpS y.1 k < 0 := fun h2 => List.lt_irrefl _ (List.lt_trans h (cmpS_neg.1 h2))
      have h2 : ¬ y.1 = k := fun e => by rw [e] at h; exact List.lt_irrefl _ h
      simp [putM, h1, h2]
  | cons x A ih =>
    rw [List.cons_append, putM, if_pos (hA x List.mem_cons_self), ih (fun y hy => hA y (List.mem_cons_of_mem _ hy))]; rfl

/-- A store of some regions. -/
def StoreR (st n : Nat) (M : Recs) : HProp := ex fun t => ex fun X : List RecX => Sep.stars [pur (M = X.map recM ∧ (∀ x ∈ M, x.2.ok) ∧ 1 ≤ n ∧ n ≤ 3), blk st (.cells [.int .i64 n, .pointer (some ⟨t, 0, none⟩)].toArray ty_store_Store (0, 0)), TreeR btS cmpS t (X.map recI), Sep.stars (X.map recB)]
section
variable {B : World} {Γ Δ : List HProp}
instance (priority := high) own_store {st n : Nat} {M : Recs} : Sep.Own st (StoreR st n M :: Γ) (StoreR st n M) Γ := ⟨.refl _⟩
theorem s_store {st n : Nat} {M : Recs} {k : K} (h : ∀ t (X : List RecX), M = X.map recM → (∀ x ∈ M, x.2.ok) → 1 ≤ n → n ≤ 3 → HG B (blk st (.cells [.int .i64 n, .pointer (some ⟨t, 0, none⟩)].toArray ty_store_Store (0, 0)) :: TreeR btS cmpS t (X.map recI) :: Sep.stars (X.map recB) :: Γ) k) : HG B (StoreR st n M :: Γ) k :=
  s_ex fun t => s_ex fun X => s_flat <| s_pur fun ⟨h1, h2, h3, h4⟩ => h t X h1 h2 h3 h4
theorem s_mkStore {st n t : Nat} {X : List RecX} {k : K} (h2 : ∀ x ∈ X.map recM, x.2.ok) (h3 : 1 ≤ n) (h4 : n ≤ 3) (h : HG B (StoreR st n (X.map recM) :: Γ) k) : HG B (blk st (.cells [.int .i64 n, .pointer (some ⟨t, 0, none⟩)].toArray ty_store_Store (0, 0)) :: TreeR btS cmpS t (X.map recI) :: Sep.stars (X.map recB) :: Γ) k := fun w hw => by
  refine h w ?_
  have h3 : Holds B (Sep.stars [pur (X.map recM = X.map recM ∧ (∀ x ∈ X.map recM, x.2.ok) ∧ 1 ≤ n ∧ n ≤ 3), blk st (.cells [.int .i64 n, .pointer (some ⟨t, 0, none⟩)].toArray ty_store_Store (0, 0)), TreeR btS cmpS t (X.map recI), Sep.stars (X.map recB)] :: Γ) w := Holds.flat.2 (Holds.pur.2 ⟨⟨rfl, h2, h3, h4⟩, hw⟩)
  exact h3.imp fun g hg => ⟨t, X, hg⟩

theorem Default_spec {k : ByteArray} {n : Nat} {q : Int → K} (h1 : 1 ≤ n) (hn : n ≤ 1000) (hk : k.size < 1000000000000) (h : HG B Γ (q (homeOf k.toList n : Nat))) : HG B Γ (store_Default.call k n q) := fun w hw => by
  refine store_Default_ok _ _ _ _ ?_
  refine hg hw ?_
  clear hw w
  unfold store_Default
  refine s_f ?_
  obtain ⟨l, rfl⟩ := bs_of k
  rw [bs_list] at h
  have hsz : (bs l).size = l.length := rfl
  refine s_loopC (fun x : Int × Int => ∃ i s : Nat, x = ((s : Int), (i : Int)) ∧ i ≤ l.length ∧ s = homeOf (l.take i) n ∧ s < n) (fun x => l.length - x.2.toNat) ⟨0, 0, rfl, Nat.zero_le _, rfl, by omega⟩ fun k' x hx hk' => ?_
  obtain ⟨i, s, rfl, hi, hs, hsn⟩ := hx
  unfold store_Default.b1
  dsimp only
  refine s_ite (fun hb => ?_) fun hb => ?_
  · have hil : i < l.length := by simp only [decide_eq_true_eq] at hb; omega
    refine fun w hw => ⟨(l[i].toNat : Int), l[i], by omega, ?_, rfl, hg hw ?_⟩
    · show (bs l)[((i : Nat) : Int).toNat]? = _
      rw [Int.toNat_natCast]
      exact Array.getElem?_eq_getElem (xs := l.toArray) (by simpa using hil)
    have hb8 : l[i].toNat < 256 := l[i].toNat_lt
    refine s_ai ?_
    refine s_ai ?_
    refine s_cd (by omega) ?_
    refine s_ar (e' := (((s + l[i].toNat) % n : Nat) : Int)) ?_ ?_
    · rw [Int.tmod_eq_emod_of_nonneg (by omega)]; simp
    refine s_ai ?_
    refine hk' _ ⟨i + 1, (s + l[i].toNat) % n, by simp, hil, ?_, Nat.mod_lt _ (by omega)⟩ (by simp only; omega)
    rw [hs, List.take_succ_eq_append_getElem hil, homeOf, homeOf, List.foldl_append]; rfl
  · have hil : i = l.length := by simp only [decide_eq_false_iff_not] at hb; omega
    rw [hil, List.take_length] at hs
    rw [hs]
    exact h

theorem bytesClone_hg {b : Sl} {xs : List UInt8} {q : Sl → K} (hr : ∀ w, Holds B Γ w → RdB w b xs) (hl : xs.length ≤ 1000000000) (hk : ∀ s, s.a.isNone = b.a.isNone → HG B (Bytes ty_uint8 s xs :: Γ) (q s)) : HG B Γ (bytes_Clone.call b q) := fun w hw =>
  bytes_Clone_spec hw hr hl fun s w h hs => hk s hs w h
theorem storeNew_spec {n : Nat} {q : Option Addr → Int → K} (h1 : 1 ≤ n) (h3 : n ≤ 3) (h : ∀ st, HG B (StoreR st n [] :: Γ) (q (some ⟨st, 0, none⟩) 0)) : HG B Γ (store_New.call n q) := fun w hw => by
  refine store_New_ok _ _ _ ?_
  refine hg hw ?_
  clear hw w
  unfold store_New
  refine s_f ?_
  unfold store_New.s1
  refine s_f ?_
  refine btNew_spec fun t => ?_
  show HG B (TreeR btS cmpS t (([] : List RecX).map recI) :: Γ) _
  refine s_new fun st => ?_
  refine fun w hw => ?_
  refine hg (show Holds B (Sep.stars (([] : List RecX).map recB) :: _) w from Holds.flat.2 hw) ?_
  refine s_end (Δ := blk st (.cells [.int .i64 n, .pointer (some ⟨t, 0, none⟩)].toArray ty_store_Store (0, 0)) :: TreeR btS cmpS t (([] : List RecX).map recI) :: Sep.stars (([] : List RecX).map recB) :: Γ) ?_
  exact s_mkStore (by simp) h1 h3 (h st)

theorem split_rec {X : List RecX} {A C : List btS.It} {k : ByteArray} {v : Cel btS.nv} (e : X.map recI = A ++ ((k, v) : btS.It) :: C) : ∃ XA r XC, X = XA ++ (k, r) :: XC ∧ A = XA.map recI ∧ C = XC.map recI ∧ v = recC r := by
  obtain ⟨XA, X2, rfl, rfl, h2⟩ := List.map_eq_append_iff.1 e
  obtain ⟨⟨k', r⟩, XC, rfl, h3, rfl⟩ := List.map_eq_cons_iff.1 h2
  simp only [recI, Prod.mk.injEq] at h3
  obtain ⟨rfl, rfl⟩ := h3
  exact ⟨XA, r, XC, rfl, rfl, rfl, rfl⟩
theorem split_app {X : List RecX} {A C : List btS.It} (e : X.map recI = A ++ C) : ∃ XA XC, X = XA ++ XC ∧ A = XA.map recI ∧ C = XC.map recI := by
  obtain ⟨XA, X2, rfl, rfl, rfl⟩ := List.map_eq_append_iff.1 e
  exact ⟨XA, X2, rfl, rfl, rfl⟩
theorem lt_of_srt {X Y : List RecX} {k : ByteArray} {r : Rec × Sl} (h : Srt cmpS ((X ++ (k, r) :: Y).map recI)) : ∀ x ∈ X, cmpS x.1 k < 0 := fun x hx => by
  rw [List.map_append] at h
  exact (List.pairwise_append.1 h).2.2 (recI x) (List.mem_map.2 ⟨x, hx, rfl⟩) (recI (k, r)) (by simp)
theorem ne_of_lt {a b : ByteArray} (h : cmpS a b < 0) : a ≠ b := fun e => by rw [e] at h; exact List.lt_irrefl _ (cmpS_neg.1 h)

theorem sGet1 {t4 r5 : Nat} {r : Rec} {s : Sl} {z : List Value} {q : Array Value → K} (hz : z.length = 4) (hzf : z.all flatV = true) (hr : ∀ w, Holds B Γ w → RdB w s r.val) (hl : r.val.length ≤ 1000000000) (h : ∀ s', s'.a.isNone = s.a.isNone → HG B (Bytes ty_uint8 s' r.val :: Γ) (q (recA r s'))) :
    HG B (blk r5 (.cells (recL r s).toArray ty_api_Record (0, 0)) :: blk t4 (.cells z.toArray ty_api_Record (0, 0)) :: Γ) (store_Store_Get.s1 q ⟨t4, 0, none⟩ ⟨r5, 0, none⟩) := by
  unfold store_Store_Get.s1
  refine s_ld (b := r5) (x := s) ?_
  refine bytesClone_hg (fun w hw => hr w hw.tail.tail) hl fun s' hs' => ?_
  refine s_st (b := r5) ?_
  refine s_ldN (b := r5) ?_
  refine s_stN (b := t4) ?_ hz rfl rfl
  refine s_ldN (b := t4) ?_
  exact s_end (h s' hs')
/-- Get. -/
theorem storeGet_spec {st n : Nat} {M : Recs} {k : ByteArray} {q : Array Value → K} (hk : k.size < 1000000000000) (h : ∀ s, (sGet n M k).ok → HG B (Bytes ty_uint8 s (sGet n M k).val :: StoreR st n M :: Γ) (q (recA (sGet n M k) s))) : HG B (StoreR st n M :: Γ) (store_Store_Get.call (some ⟨st, 0, none⟩) k q) := fun w hw => by
  refine store_Store_Get_ok _ _ _ _ ?_
  refine hg hw ?_
  clear hw w
  refine s_store fun t X hM hok h1 h3 => ?_
  unfold store_Store_Get
  refine s_new fun t4 => ?_
  refine s_nn ?_
  refine s_ld (b := st) (x := some ⟨t, 0, none⟩) ?_
  refine s_own t ?_
  refine tree_srt fun hs => ?_
  refine btGet_spec (fun A v C e => ?_) fun A C e hA hC => ?_
  · obtain ⟨XA, r, XC, rfl, rfl, rfl, rfl⟩ := split_rec e
    have hlt := lt_of_srt hs
    have hg' : getM M k = some r.1 := by
      rw [hM, List.map_append]
      exact getM_mid fun x hx => by
        obtain ⟨y, hy, rfl⟩ := List.mem_map.1 hx
        exact ne_of_lt (hlt y hy)
    have hr : sGet n M k = r.1 := by unfold sGet; rw [hg']; rfl
    have hrok : r.1.ok := hok (k, r.1) (getM_mem hg')
    rw [hr] at h
    refine s_new fun r5 => ?_
    refine s_stN (b := r5) (l' := recL r.1 r.2) ?_
    refine s_f ?_
    refine s_end (Δ := blk r5 (.cells (recL r.1 r.2).toArray ty_api_Record (0, 0)) :: blk t4 (.cells [.bool false, Sl.val ⟨none, 0, 0⟩, .int .i64 0, .int .u64 0].toArray ty_api_Record (0, 0)) :: blk st (.cells [.int .i64 n, .pointer (some ⟨t, 0, none⟩)].toArray ty_store_Store (0, 0)) :: TreeR btS cmpS t ((XA ++ (k, r) :: XC).map recI) :: Sep.stars ((XA ++ (k, r) :: XC).map recB) :: Γ) ?_
    refine sGet1 (r := r.1) rfl rfl (fun w hw => ?_) hrok.2.2 fun s' hs' => ?_
    · have h5 : Holds B (recB (k, r) :: _) w := (Holds.flat.1 (hw.tail.tail)).perm mid_perm |>.perm List.perm_middle
      exact h5.rdC List.mem_cons_self
    · rw [hM] at h
      refine s_end (Δ := blk st (.cells [.int .i64 n, .pointer (some ⟨t, 0, none⟩)].toArray ty_store_Store (0, 0)) :: TreeR btS cmpS t ((XA ++ (k, r) :: XC).map recI) :: Sep.stars ((XA ++ (k, r) :: XC).map recB) :: Bytes ty_uint8 s' r.1.val :: Γ) ?_
      refine s_mkStore (by rw [← hM]; exact hok) h1 h3 ?_
      exact s_end (h s' hrok)
  · obtain ⟨XA, XC, rfl, rfl, rfl⟩ := split_app e
    have hg' : getM M k = none := by
      rw [hM, List.map_append]
      refine getM_none fun x hx => ?_
      rcases List.mem_append.1 hx with hx | hx
      · obtain ⟨y, hy, rfl⟩ := List.mem_map.1 hx
        exact ne_of_lt (hA (recI y) (List.mem_map.2 ⟨y, hy, rfl⟩))
      · obtain ⟨y, hy, rfl⟩ := List.mem_map.1 hx
        exact Ne.symm (ne_of_lt (hC (recI y) (List.mem_map.2 ⟨y, hy, rfl⟩)))
    have hr : sGet n M k = ⟨false, [], homeOf k.toList n, 0⟩ := by unfold sGet; rw [hg']; rfl
    rw [hr] at h
    refine s_new fun r5 => ?_
    refine s_stN (b := r5) (l' := recL ⟨false, [], 0, 0⟩ ⟨none, 0, 0⟩) ?_
    refine s_t ?_
    refine s_ld (b := st) (x := (n : Int)) ?_
    refine Default_spec h1 (by omega) hk ?_
    refine s_st (b := r5) ?_
    refine s_end (Δ := blk r5 (.cells (recL ⟨false, [], homeOf k.toList n, 0⟩ ⟨none, 0, 0⟩).toArray ty_api_Record (0, 0)) :: blk t4 (.cells [.bool false, Sl.val ⟨none, 0, 0⟩, .int .i64 0, .int .u64 0].toArray ty_api_Record (0, 0)) :: blk st (.cells [.int .i64 n, .pointer (some ⟨t, 0, none⟩)].toArray ty_store_Store (0, 0)) :: TreeR btS cmpS t ((XA ++ XC).map recI) :: Sep.stars ((XA ++ XC).map recB) :: Γ) ?_
    refine sGet1 (r := ⟨false, [], homeOf k.toList n, 0⟩) rfl rfl (fun w hw => RdC.none') (by simp) fun s' hs' => ?_
    rw [hM] at h
    refine s_end (Δ := blk st (.cells [.int .i64 n, .pointer (some ⟨t, 0, none⟩)].toArray ty_store_Store (0, 0)) :: TreeR btS cmpS t ((XA ++ XC).map recI) :: Sep.stars ((XA ++ XC).map recB) :: Bytes ty_uint8 s' [] :: Γ) ?_
    refine s_mkStore (by rw [← hM]; exact hok) h1 h3 ?_
    exact s_end (h s' ⟨by simp, by simp, by simp⟩)

end
end Go.Proofs.YtihncgfghpbhdaaGreat
/- The store: what its functions do to its records. -/
namespace Go.Proofs.YtihncgfghpbhdaaGreat
open Go Go.Sep Go.Sep.Bt
set_option linter.unusedSimpArgs false
set_option linter.unusedVariables false
set_option maxRecDepth 100000
section
variable {B : World} {Γ Δ : List HProp}
theorem srt_M {X : List RecX} (h : Srt cmpS (X.map recI)) : Srt cmpS (X.map recM) := by
  unfold Srt at h ⊢
  rw [List.pairwise_map] at h ⊢
  exact h
/-- What a store is told of a key. -/
theorem storePut_hg {st t n : Nat} {X : List RecX} {k : ByteArray} {r : Rec} {s : Sl} {q : Array Value → Bool → K} (hok : ∀ x ∈ X.map recM, x.2.ok) (hr : r.ok) (h1 : 1 ≤ n) (h3 : n ≤ 3) (hL : X.length < 1000000000)
    (h : ∀ a b, HG B (StoreR st n (putM (X.map recM) k r) :: Γ) (q a b)) :
    HG B (blk st (.cells [.int .i64 n, .pointer (some ⟨t, 0, none⟩)].toArray ty_store_Store (0, 0)) :: TreeR btS cmpS t (X.map recI) :: Sep.stars (X.map recB) :: Bytes ty_uint8 s r.val :: Γ) (btree_Tree_string_api_Record_Put.call (some ⟨t, 0, none⟩) k (recA r s) q) := by
  refine s_own t ?_
  refine tree_srt fun hs => ?_
  refine btPut_spec (v := recC (r, s)) (by simpa using hL) fun L' old had hp => ?_
  have hput : ∀ x ∈ putM (X.map recM) k r, x.2.ok := fun x hx => by
    rcases putM_mem hx with rfl | hx
    · exact hr
    · exact hok x hx
  rcases hp with ⟨A, C, e, rfl, rfl⟩ | ⟨A, C, e, hA, hC, rfl, rfl, rfl⟩
  · obtain ⟨XA, r0, XC, rfl, rfl, rfl, rfl⟩ := split_rec e
    have hlt := lt_of_srt hs
    have e2 : putM ((XA ++ (k, r0) :: XC).map recM) k r = (XA ++ (k, (r, s)) :: XC).map recM := by
      rw [List.map_append, List.map_cons]
      rw [show recM (k, r0) = (k, r0.1) from rfl, putM_mid (fun x hx => by
        obtain ⟨y, hy, rfl⟩ := List.mem_map.1 hx
        exact hlt y hy)]
      simp
    rw [e2] at h hput
    refine s_pick (Sep.stars ((XA ++ (k, r0) :: XC).map recB)) ?_
    refine s_mid ?_
    have e3 : XA.map recI ++ ((k, recC (r, s)) : btS.It) :: XC.map recI = (XA ++ (k, (r, s)) :: XC).map recI := by simp
    refine s_end (Δ := recB (k, (r, s)) :: Sep.stars ((XA ++ XC).map recB) :: blk st (.cells [.int .i64 n, .pointer (some ⟨t, 0, none⟩)].toArray ty_store_Store (0, 0)) :: TreeR btS cmpS t (XA.map recI ++ ((k, recC (r, s)) : btS.It) :: XC.map recI) :: Γ) ?_
    refine s_unmid ?_
    rw [e3]
    refine s_end (Δ := blk st (.cells [.int .i64 n, .pointer (some ⟨t, 0, none⟩)].toArray ty_store_Store (0, 0)) :: TreeR btS cmpS t ((XA ++ (k, (r, s)) :: XC).map recI) :: Sep.stars ((XA ++ (k, (r, s)) :: XC).map recB) :: Γ) ?_
    exact s_mkStore hput h1 h3 (h _ _)
  · obtain ⟨XA, XC, rfl, rfl, rfl⟩ := split_app e
    have e2 : putM ((XA ++ XC).map recM) k r = (XA ++ (k, (r, s)) :: XC).map recM := by
      rw [List.map_append, putM_new (fun x hx => by
        obtain ⟨y, hy, rfl⟩ := List.mem_map.1 hx
        exact hA (recI y) (List.mem_map.2 ⟨y, hy, rfl⟩)) (fun x hx => by
        obtain ⟨y, hy, rfl⟩ := List.mem_map.1 hx
        exact hC (recI y) (List.mem_map.2 ⟨y, hy, rfl⟩))]
      simp
    rw [e2] at h hput
    have e3 : XA.map recI ++ ((k, recC (r, s)) : btS.It) :: XC.map recI = (XA ++ (k, (r, s)) :: XC).map recI := by simp
    refine s_end (Δ := recB (k, (r, s)) :: Sep.stars ((XA ++ XC).map recB) :: blk st (.cells [.int .i64 n, .pointer (some ⟨t, 0, none⟩)].toArray ty_store_Store (0, 0)) :: TreeR btS cmpS t (XA.map recI ++ ((k, recC (r, s)) : btS.It) :: XC.map recI) :: Γ) ?_
    refine s_unmid ?_
    rw [e3]
    refine s_end (Δ := blk st (.cells [.int .i64 n, .pointer (some ⟨t, 0, none⟩)].toArray ty_store_Store (0, 0)) :: TreeR btS cmpS t ((XA ++ (k, (r, s)) :: XC).map recI) :: Sep.stars ((XA ++ (k, (r, s)) :: XC).map recB) :: Γ) ?_
    exact s_mkStore hput h1 h3 (h _ _)
theorem storeSet_spec {st n : Nat} {M : Recs} {k : ByteArray} {r : Rec} {s : Sl} {q : K} (hr : r.ok) (hne : r.has = true ∨ r.cnt ≠ 0) (hL : M.length < 1000000000) (h : HG B (StoreR st n (putM M k r) :: Γ) q) : HG B (StoreR st n M :: Bytes ty_uint8 s r.val :: Γ) (store_Store_set.call (some ⟨st, 0, none⟩) k (recA r s) q) := fun w hw => by
  refine store_Store_set_ok _ _ _ _ _ ?_
  refine hg hw ?_
  clear hw w
  refine s_store fun t X hM hok h1 h3 => ?_
  subst hM
  unfold store_Store_set
  refine s_new fun r5 => ?_
  refine s_ld (b := r5) (x := r.has) ?_
  have key : HG B (blk r5 (.cells (recL r s).toArray ty_api_Record (0, 0)) :: blk st (.cells [.int .i64 n, .pointer (some ⟨t, 0, none⟩)].toArray ty_store_Store (0, 0)) :: TreeR btS cmpS t (X.map recI) :: Sep.stars (X.map recB) :: Bytes ty_uint8 s r.val :: Γ) (store_Store_set.s1 q (some ⟨st, 0, none⟩) k ⟨r5, 0, none⟩ false) := by
    unfold store_Store_set.s1
    refine s_f ?_
    refine s_dr ?_
    refine s_nn ?_
    refine s_ld (b := st) (x := some ⟨t, 0, none⟩) ?_
    refine s_ldN (b := r5) ?_
    refine s_end (Δ := blk st (.cells [.int .i64 n, .pointer (some ⟨t, 0, none⟩)].toArray ty_store_Store (0, 0)) :: TreeR btS cmpS t (X.map recI) :: Sep.stars (X.map recB) :: Bytes ty_uint8 s r.val :: Γ) ?_
    exact storePut_hg hok hr h1 h3 (by simpa using hL) fun _ _ => h
  refine s_ite (fun hb => ?_) fun hb => key
  refine s_ld (b := r5) (x := r.cnt) ?_
  have hc : r.cnt ≠ 0 := hne.resolve_left (by simpa using hb)
  rw [show decide (r.cnt = 0) = false by simpa using hc]
  exact key
/-- Move. -/
theorem storeMove_spec {st n : Nat} {M : Recs} {k : ByteArray} {to : Int} {q : Int → K} (hk : k.size < 1000000000000) (hL : M.length < 1000000000) (h : HG B (StoreR st n (sMove n M k to).1 :: Γ) (q (sMove n M k to).2)) : HG B (StoreR st n M :: Γ) (store_Store_Move.call (some ⟨st, 0, none⟩) k to q) := fun w hw => by
  refine store_Store_Move_ok _ _ _ _ _ ?_
  refine hg hw ?_
  clear hw w
  unfold store_Store_Move
  refine storeGet_spec hk fun s hok => ?_
  generalize hR : sGet n M k = r at *
  refine s_new fun r7 => ?_
  refine s_stN (b := r7) (l' := recL r s) ?_
  have bad : to < 0 ∨ (n : Int) ≤ to → ∀ s0, HG B (blk r7 (.cells (recL r s).toArray ty_api_Record (0, 0)) :: Bytes ty_uint8 s r.val :: StoreR st n M :: Γ) (store_Store_Move.s1 q s0 k to ⟨r7, 0, none⟩ true) := fun hb s0 => by
    unfold store_Store_Move.s1
    refine s_t ?_
    have e : sMove n M k to = (M, 1) := by unfold sMove; rw [if_pos hb]
    rw [e] at h
    exact s_end h
  refine s_ite (fun hb => bad (.inl (by simpa using hb)) _) fun hb => ?_
  refine s_nn ?_
  refine s_own st ?_
  refine s_store fun t X hM hok2 h1 h3 => ?_
  refine s_ld (b := st) (x := (n : Int)) ?_
  subst hM
  refine s_mkStore hok2 h1 h3 ?_
  refine s_end (Δ := blk r7 (.cells (recL r s).toArray ty_api_Record (0, 0)) :: Bytes ty_uint8 s r.val :: StoreR st n (X.map recM) :: Γ) ?_
  by_cases hb2 : (n : Int) ≤ to
  · rw [show decide ((n : Int) ≤ to) = true by simpa using hb2]
    exact bad (.inr hb2) _
  rw [show decide ((n : Int) ≤ to) = false by simpa using hb2]
  have hnb : ¬ (to < 0 ∨ (n : Int) ≤ to) := by
    simp only [decide_eq_false_iff_not] at hb
    omega
  unfold store_Store_Move.s1
  refine s_f ?_
  refine s_ld (b := r7) (x := r.cnt) ?_
  refine s_ite (fun hc => ?_) fun hc => ?_
  · have e : sMove n (X.map recM) k to = (X.map recM, 111) := by unfold sMove; rw [if_neg hnb, hR, if_pos (by simpa using hc)]
    rw [e] at h
    exact s_end h
  have hc' : r.cnt ≠ 18446744073709551615 := by simpa using hc
  obtain ⟨o1, o2, o3⟩ := hok
  refine s_st (b := r7) ?_
  refine s_ld (b := r7) (x := r.cnt) ?_
  refine s_ar (wrapU64 (by omega) (by omega)) ?_
  refine s_st (b := r7) ?_
  refine s_ldN (b := r7) (l' := recL { r with home := to, cnt := r.cnt + 1 } s) ?_
  refine s_end (Δ := StoreR st n (X.map recM) :: Bytes ty_uint8 s r.val :: Γ) ?_
  refine storeSet_spec (r := { r with home := to, cnt := r.cnt + 1 }) ⟨by simp only; omega, by simp only; omega, o3⟩ (.inr (by simp only; omega)) hL ?_
  have e : sMove n (X.map recM) k to = (putM (X.map recM) k { r with home := to, cnt := r.cnt + 1 }, 0) := by unfold sMove; rw [if_neg hnb, hR, if_neg hc']
  rw [e] at h
  exact h
end
end Go.Proofs.YtihncgfghpbhdaaGreat
/- How the arguments of laws read. -/
namespace Go.Proofs.YtihncgfghpbhdaaGreat
open Go Go.Sep
def Sh_ty_s_argosylaw16_Op : Sh := (.sl (.fld 0 1 (.int .i64) (.fld 1 1 (.int .i64) (.fld 2 4 (.fld 0 3 (.fld 0 1 (.int .i64) (.fld 1 1 (.int .u64) (.fld 2 1 (.int .u64) .nil))) (.fld 3 1 (.int .i64) .nil)) (.fld 6 1 .str (.fld 7 1 (.sl (.fld 0 1 .str (.fld 1 1 (.int .i64) (.fld 2 1 (.int .u64) .nil))) 3) .nil))))) 8)
theorem sh_22 : mkSh Tryz.prog 9 22 = Sh_ty_s_argosylaw16_Op := by kernel_rfl
end Go.Proofs.YtihncgfghpbhdaaGreat
/- Plain forms of functions, and that their code comes to them (package route). -/
namespace Go.Proofs.YtihncgfghpbhdaaGreat
open Go Go.Sep
set_option linter.unusedVariables false
set_option linter.unusedSimpArgs false
set_option maxRecDepth 100000
set_option maxHeartbeats 4000000
attribute [local irreducible] G Gp Cx Tx Ex Sx Dx Ox Ax Lx Rx Fx Bx Bj Al Do Ld LdN St StN New CallF Ar DoU Rd Rd2 Pu Cd Ite Fv CallV CallY Ans0 Ans1 Ans2 Ans3 Ans4 Ans5 Ext Dead Dr WithS Sv LdS LdNS RdS Rd2S Nn Idx IdxA IdxS Fld Bld Slc SlcS Cat All LoopK RangeF RangeJ TakeD
namespace F_IRRoute
instance ct_3 : CT Tryz.prog 3 := ⟨by kernel_rfl⟩
instance ct_38 : CT Tryz.prog 38 := ⟨by kernel_rfl⟩
instance ft_59_1 : FT Tryz.prog 59 1 1 1 := ⟨by kernel_rfl⟩
instance ft_59_2 : FT Tryz.prog 59 2 2 1 := ⟨by kernel_rfl⟩
instance ft_65_2 : FT Tryz.prog 65 2 2 1 := ⟨by kernel_rfl⟩
instance ft_65_3 : FT Tryz.prog 65 3 3 1 := ⟨by kernel_rfl⟩
instance mx : MX Tryz.prog := ⟨mixed⟩
end F_IRRoute
def route_Look.s1 (Q : Int → K)  (t11_1 : Bool) : K :=
  Ite t11_1
    (Q 0)
    (Q 2)
def route_Look (r0 : (Array Value)) (m1 : (Array Value)) (Q : Int → K) : K :=
  New 65 r0 fun r2 =>
  New 59 m1 fun m3 =>
  Ld (m3.add 2) (Value.int .u64) fun t7 =>
  Ld (r2.add 3) (Value.int .u64) fun t9 =>
  Ite (decide (t9 < t7))
    (Q 1)
    (Ld (m3.add 2) (Value.int .u64) fun t13 =>
    Ld (r2.add 3) (Value.int .u64) fun t15 =>
    Ite (decide (t13 = t15))
      (Ld (m3.add 1) (Value.int .i64) fun t19 =>
      Ld (r2.add 2) (Value.int .i64) fun t21 =>
      route_Look.s1 Q (decide (t19 = t21)))
      (route_Look.s1 Q false))
theorem route_Look_ok (r0 : (Array Value)) (m1 : (Array Value)) (Q : Int → K) (w : World) (h : route_Look r0 m1 Q w) : route_Look.call r0 m1 Q w := by
  have hJ4 : JH 4 fun D => D [] (fun C => ∀ (t11_1 : Bool), C [(11, (.bool t11_1))] (route_Look.s1 Q t11_1)) := by intros; exact ⟨fun _ h => ⟨_, _, h⟩⟩
  exact g_walk 24 h Tryz.func45
end Go.Proofs.YtihncgfghpbhdaaGreat
/- Marks and records: what route.Look answers; the law's example; moves. -/
namespace Go.Proofs.YtihncgfghpbhdaaGreat
open Go Go.Sep Go.Sep.Bt
set_option linter.unusedSimpArgs false
set_option linter.unusedVariables false
set_option maxRecDepth 100000

def lookS (cnt mc home mh : Int) : Int := if cnt < mc then 1 else if mc = cnt ∧ mh = home then 0 else 2
structure Mv where
  key : ByteArray
  to : Int
def mvF (m : Mv) : List Value := [.string m.key, .int .i64 m.to]
theorem mvF_len (m : Mv) : (mvF m).length = 2 := rfl
def mvGreat (L : List Mv) : Bool := decide (100 < L.length) || L.any fun m => decide (200 < m.key.size)
section
variable {B : World} {Γ Δ : List HProp}
theorem lookHg {hs : Bool} {vl : Sl} {home cnt : Int} {key : ByteArray} {mh mc : Int} {q : Int → K} (h : HG B Γ (q (lookS cnt mc home mh))) :
    HG B Γ (route_Look.call #[.bool hs, vl.val, .int .i64 home, .int .u64 cnt] #[.string key, .int .i64 mh, .int .u64 mc] q) := fun w hw => by
  refine route_Look_ok _ _ _ _ ?_
  refine hg hw ?_
  clear hw w
  unfold route_Look
  refine s_new fun r => ?_
  refine s_new fun m => ?_
  refine s_end (Δ := blk m (.cells [.string key, .int .i64 mh, .int .u64 mc].toArray ty_api_Mark (0, 0)) :: blk r (.cells [.bool hs, vl.val, .int .i64 home, .int .u64 cnt].toArray ty_api_Record (0, 0)) :: Γ) ?_
  refine s_ld (b := m) (x := mc) ?_
  refine s_ld (b := r) (x := cnt) ?_
  refine s_ite (fun hb => ?_) fun hb => ?_
  · have e : lookS cnt mc home mh = 1 := by unfold lookS; rw [if_pos (by simpa using hb)]
    rw [e] at h; exact s_end h
  have hb' : ¬ cnt < mc := by simpa using hb
  refine s_ld (b := m) (x := mc) ?_
  refine s_ld (b := r) (x := cnt) ?_
  refine s_ite (fun hc => ?_) fun hc => ?_
  · have hc' : mc = cnt := by simpa using hc
    refine s_ld (b := m) (x := mh) ?_
    refine s_ld (b := r) (x := home) ?_
    unfold route_Look.s1
    refine s_ite (fun hd => ?_) fun hd => ?_
    · have e : lookS cnt mc home mh = 0 := by unfold lookS; rw [if_neg hb', if_pos ⟨hc', by simpa using hd⟩]
      rw [e] at h; exact s_end h
    · have e : lookS cnt mc home mh = 2 := by unfold lookS; rw [if_neg hb', if_neg fun x => by simp [x.2] at hd]
      rw [e] at h; exact s_end h
  · unfold route_Look.s1
    refine s_f ?_
    have e : lookS cnt mc home mh = 2 := by unfold lookS; rw [if_neg hb', if_neg fun x => by simp [x.1] at hc]
    rw [e] at h; exact s_end h
end
end Go.Proofs.YtihncgfghpbhdaaGreat

namespace Go.Proofs.YtihncgfghpbhdaaGreat
open Go Go.Sep Go.RowKit
theorem rdy_mv {w : World} {cs : List Value} (hc : cs.length = 2) (y : Rdy w (.fld 0 1 .str (.fld 1 1 (.int .i64) .nil)) cs) : ∃ x : Mv, cs = mvF x ∧ -9223372036854775808 ≤ x.to ∧ x.to ≤ 9223372036854775807 := by
  match cs, hc with
  | [a, b], _ =>
    obtain ⟨⟨s0, e0, _⟩, ⟨x1, e1, w1⟩, _⟩ := y
    cases e0; cases e1
    simp [Lit.wf, IntKind.min, IntKind.max, IntKind.signed, IntKind.bits] at w1
    exact ⟨⟨s0, x1⟩, rfl, by simp only; omega⟩
end Go.Proofs.YtihncgfghpbhdaaGreat
/- Maps: what a map of one's own does, as a list of keys and values. -/
namespace Go.Sep
open Go Go.RowKit Go.MapKept
set_option linter.unusedSimpArgs false
set_option linter.unusedVariables false
set_option linter.unusedSectionVars false

section
variable {α β : Type} [DecidableEq α]
def mget (k : α) : List (α × β) → Option β
  | [] => none
  | p :: m => if k = p.1 then some p.2 else mget k m
def mset (k : α) (v : β) : List (α × β) → List (α × β)
  | [] => [(k, v)]
  | p :: m => if k = p.1 then (k, v) :: m else p :: mset k v m
def mdel (k : α) : List (α × β) → List (α × β)
  | [] => []
  | p :: m => if k = p.1 then m else p :: mdel k m

theorem mfind (k : α) : ∀ m : List (α × β), (mget k m = none ∧ (∀ v, mset k v m = m ++ [(k, v)]) ∧ mdel k m = m ∧ ∀ p ∈ m, p.1 ≠ k) ∨
    ∃ j x, j < m.length ∧ m[j]? = some (k, x) ∧ (∀ i, i < j → ∀ p, m[i]? = some p → p.1 ≠ k) ∧ mget k m = some x ∧ (∀ v, mset k v m = m.set j (k, v)) ∧ mdel k m = m.eraseIdx j
  | [] => .inl ⟨rfl, fun _ => rfl, rfl, by simp⟩
  | p :: m => by
    by_cases hk : k = p.1
    · refine .inr ⟨0, p.2, by simp, by rw [hk]; rfl, fun i hi => by omega, by simp [mget, hk], fun v => by simp [mset, hk], by simp [mdel, hk]⟩
    · rcases mfind k m with ⟨h1, h2, h3, h4⟩ | ⟨j, x, hj, h0, hb, h1, h2, h3⟩
      · refine .inl ⟨by simp [mget, hk, h1], fun v => by simp [mset, hk, h2], by simp [mdel, hk, h3], fun q hq => ?_⟩
        rcases List.mem_cons.1 hq with rfl | hq
        · exact fun e => hk e.symm
        · exact h4 q hq
      · refine .inr ⟨j + 1, x, by simpa using hj, by simpa using h0, fun i hi q hq => ?_, by simp [mget, hk, h1], fun v => by simp [mset, hk, h2], by simp [mdel, hk, h3]⟩
        cases i with
        | zero => simp at hq; subst hq; exact fun e => hk e.symm
        | succ i => exact hb i (by omega) q (by simpa using hq)
end

/-- A way to write keys. -/
structure KeyE {α : Type} (d : TypeDesc) (enc : α → Value) : Prop where
  key : ∀ a, IsKey d (enc a)
  inj : ∀ a b, enc a = enc b → a = b
  bits : ∀ a, Instr.sameBits 10000 (enc a) (enc a) = true
theorem keyE_int (k : IntKind) : KeyE (.int k) (Value.int k) := ⟨fun _ => rfl, fun a b h => by injection h, fun a => by simp [Instr.sameBits]⟩
theorem keyE_string : KeyE .string Value.string := ⟨fun _ => trivial, fun a b h => by injection h, fun a => by
  show (a == a) = true
  rw [bytes_beq]⟩

section
variable {α β : Type} [DecidableEq α] {P : Program} {B w : World} {Γ : List HProp} {enc : α → Value} {cV : β → Value}

def mrel (enc : α → Value) (cV : β → Value) (es : Array MapEntry) (m : List (α × β)) : Prop := es.toList.map (fun e => (e.key, e.val)) = m.map fun p => (enc p.1, cV p.2)
/-- The entries' stamps are unlike, and below the clock. -/
def stamps (es : Array MapEntry) (c : Nat) : Prop := (es.toList.map (·.born)).Nodup ∧ ∀ e ∈ es.toList, e.born < c
theorem stamps_nil (c : Nat) : stamps #[] c := ⟨by simp, by simp⟩
theorem stamps_push {es : Array MapEntry} {c : Nat} (h : stamps es c) (k v : Value) : stamps (es.push { key := k, val := v, born := c }) (c + 1) := by
  refine ⟨?_, fun e he => ?_⟩
  · simp only [Array.toList_push, List.map_append, List.map_cons, List.map_nil]
    rw [List.nodup_append]
    refine ⟨h.1, by simp, fun x hx y hy => ?_⟩
    simp only [List.mem_singleton] at hy
    subst hy
    obtain ⟨e, he, rfl⟩ := List.mem_map.1 hx
    have := h.2 e he
    omega
  · simp only [Array.toList_push] at he
    rcases List.mem_append.1 he with he | he
    · have := h.2 e he; omega
    · simp only [List.mem_singleton] at he; subst he; exact Nat.lt_succ_self _
theorem stamps_modify {es : Array MapEntry} {c : Nat} (h : stamps es c) (j : Nat) (k v : Value) : stamps (es.modify j fun e => { e with key := k, val := v }) c := by
  have e1 : (es.modify j fun e => { e with key := k, val := v }).toList.map (·.born) = es.toList.map (·.born) := by
    apply List.ext_getElem?
    intro i
    simp only [List.getElem?_map, Array.getElem?_toList, Array.getElem?_modify]
    split
    · cases es[i]? <;> rfl
    · rfl
  refine ⟨by rw [e1]; exact h.1, fun e he => ?_⟩
  have : e.born ∈ es.toList.map (·.born) := by rw [← e1]; exact List.mem_map_of_mem he
  obtain ⟨e', he', hb⟩ := List.mem_map.1 this
  rw [← hb]; exact h.2 e' he'
theorem stamps_erase {es : Array MapEntry} {c : Nat} (h : stamps es c) (j : Nat) : stamps (es.eraseIdxIfInBounds j) c := by
  have hs : List.Sublist (es.eraseIdxIfInBounds j).toList es.toList := by
    unfold Array.eraseIdxIfInBounds
    split
    · rw [Array.toList_eraseIdx]; exact List.eraseIdx_sublist _ _
    · exact List.Sublist.refl _
  exact ⟨h.1.sublist (hs.map _), fun e he => h.2 e (hs.subset he)⟩
def MapR (enc : α → Value) (cV : β → Value) (b : Nat) (m : List (α × β)) : HProp := ex fun es : Array MapEntry => ex fun c : Nat => fun g => (mrel enc cV es m ∧ stamps es c) ∧ blk b (.map es c) g

theorem MapR.opens {b : Nat} {m : List (α × β)} (h : Holds B (MapR enc cV b m :: Γ) w) : ∃ es c, (mrel enc cV es m ∧ stamps es c) ∧ Holds B (blk b (.map es c) :: Γ) w := by
  obtain ⟨es, h⟩ := Holds.ex.1 h
  obtain ⟨c, h⟩ := Holds.ex.1 h
  exact ⟨es, c, h.fact fun g hg => hg.1, h.imp fun g hg => hg.2⟩
theorem MapR.shuts {b : Nat} {m : List (α × β)} {es : Array MapEntry} {c : Nat} (hr : mrel enc cV es m ∧ stamps es c) (h : Holds B (blk b (.map es c) :: Γ) w) : Holds B (MapR enc cV b m :: Γ) w :=
  Holds.ex.2 ⟨es, Holds.ex.2 ⟨c, h.imp fun g hg => ⟨hr, hg⟩⟩⟩

theorem mrel_at {es : Array MapEntry} {m : List (α × β)} (hr : mrel enc cV es m) (i : Nat) : (es.toList[i]?).map (fun e => (e.key, e.val)) = (m[i]?).map fun p => (enc p.1, cV p.2) := by
  have := congrArg (·[i]?) hr
  simpa using this
theorem mrel_keys {d : TypeDesc} (hE : KeyE d enc) {es : Array MapEntry} {m : List (α × β)} (hr : mrel enc cV es m) : ∀ x ∈ es.toList, IsKey d x.key := by
  intro x hx
  have : (x.key, x.val) ∈ m.map fun p => (enc p.1, cV p.2) := by rw [← hr]; exact List.mem_map_of_mem hx
  obtain ⟨p, _, hp⟩ := List.mem_map.1 this
  have : enc p.1 = x.key := congrArg Prod.fst hp
  rw [← this]; exact hE.key _

/-- Where a key is found. -/
theorem mfound {d : TypeDesc} (hE : KeyE d enc) {es : Array MapEntry} {m : List (α × β)} (hr : mrel enc cV es m) (k : α) :
    (Instr.findNow d (enc k) es.toList 0 = some none ∧ mget k m = none ∧ (∀ v, mset k v m = m ++ [(k, v)]) ∧ mdel k m = m) ∨
    ∃ j x, Instr.findNow d (enc k) es.toList 0 = some (some (j, cV x)) ∧ j < m.length ∧ m[j]? = some (k, x) ∧ mget k m = some x ∧ (∀ v, mset k v m = m.set j (k, v)) ∧ mdel k m = m.eraseIdx j := by
  have hlen : es.toList.length = m.length := by have := congrArg List.length hr; simpa using this
  rcases mfind k m with ⟨h1, h2, h3, h4⟩ | ⟨j, x, hj, h0, hb, h1, h2, h3⟩
  · refine .inl ⟨?_, h1, h2, h3⟩
    rcases findNow_spec (hE.key k) es.toList 0 (mrel_keys hE hr) with ⟨g1, _⟩ | ⟨i, e, g1, g2, g3⟩
    · exact g1
    · have := mrel_at hr i
      rw [g2] at this
      cases hm : m[i]? with
      | none => rw [hm] at this; simp at this
      | some p =>
        rw [hm] at this
        simp only [Option.map_some, Option.some.injEq, Prod.mk.injEq] at this
        exact absurd (hE.inj _ _ (this.1.symm.trans g3)) (h4 p (List.mem_of_getElem? hm))
  · have key : ∀ (l : List MapEntry) (m : List (α × β)) (j i : Nat), l.map (fun e => (e.key, e.val)) = m.map (fun p => (enc p.1, cV p.2)) → m[j]? = some (k, x) → (∀ i, i < j → ∀ p, m[i]? = some p → p.1 ≠ k) →
        Instr.findNow d (enc k) l i = some (some (i + j, cV x)) := by
      intro l
      induction l with
      | nil => intro m j i hr hm _; cases m <;> simp at hr hm
      | cons e l ih =>
        intro m j i hr hm hb
        cases m with
        | nil => simp at hr
        | cons p m =>
          simp only [List.map_cons, List.cons.injEq, Prod.mk.injEq] at hr
          obtain ⟨⟨e1, e2⟩, hr⟩ := hr
          obtain ⟨r, hs, hiff⟩ := sameNow_of_keys (hE.key k) (hE.key p.1)
          unfold Instr.findNow
          rw [e1, hs]
          cases j with
          | zero =>
            simp only [List.getElem?_cons_zero, Option.some.injEq] at hm
            subst hm
            have : r = true := hiff.2 rfl
            subst this
            simp only [e2, Nat.add_zero]
          | succ j =>
            have hne : p.1 ≠ k := hb 0 (by omega) p rfl
            have : r = false := by
              cases r with
              | false => rfl
              | true => exact absurd (hE.inj _ _ (hiff.1 rfl)) (fun e => hne e.symm)
            subst this
            simp only
            rw [ih m j (i + 1) hr (by simpa using hm) (fun i' hi' q hq => hb (i' + 1) (by omega) q (by simpa using hq))]
            congr 3; omega
    refine .inr ⟨j, x, ?_, hj, h0, h1, h2, h3⟩
    have := key es.toList m j 0 hr h0 hb
    rwa [Nat.zero_add] at this

/-- A map type, its key's kind and its element. -/
def mapIs (P : Program) (T : TypeId) (d : TypeDesc) (E : TypeId) : Prop := ∃ kt, P.underlying T = some (.map kt E) ∧ P.underlying kt = some d

theorem r_mkMap {T : TypeId} {d : TypeDesc} {E : TypeId} {k : Option Nat → K} (h : Holds B Γ w) (hk : ∀ b w, Holds B (MapR enc cV b [] :: Γ) w → k (some b) w) :
    Do P (Instr.makeMap T none) Value.map k w := by
  refine ⟨some w.heap.size, { w with heap := w.heap.push (.map #[] 0) }, rfl, hk _ _ (MapR.shuts (es := #[]) (c := 0) ⟨rfl, stamps_nil 0⟩ (h.alloc _))⟩

theorem run_look {T E : TypeId} {d : TypeDesc} {b : Nat} {m : List (α × β)} {z : β} {a : α} (hT : mapIs P T d E) (hE : KeyE d enc) (hz : zeroT P E (cV z)) {es : Array MapEntry} {c : Nat} (hb : w.heap[b]? = some (.map es c)) (hr : mrel enc cV es m) (ok : Bool) :
    (Instr.lookup T (.map (some b)) (enc a) ok).run P w = .ok (if ok then .tuple #[cV ((mget a m).getD z), .bool (mget a m).isSome] else cV ((mget a m).getD z)) w := by
  obtain ⟨kt, hT, hd⟩ := hT
  unfold Instr.lookup
  simp only [Sem.run_bind, run_underlying hT, Result.andThen, MapKept.run_getObj_map hb, run_checkKey hd (hE.key a), Sem.run_pure]
  rcases mfound hE hr a with ⟨h1, h2, _⟩ | ⟨j, x, h1, _, _, h2, _⟩
  · simp only [run_findKey hd h1, Result.andThen, Sem.run_bind, zeroT_spec hz, Sem.run_pure, h2]
    cases ok <;> rfl
  · simp only [run_findKey hd h1, Result.andThen, Sem.run_bind, Sem.run_pure, h2]
    cases ok <;> rfl

theorem r_look2 {T E : TypeId} {d : TypeDesc} {b : Nat} {m : List (α × β)} {z : β} {a : α} {k : β → Bool → K} (hT : mapIs P T d E) (hE : KeyE d enc) (hz : zeroT P E (cV z)) (h : Holds B (MapR enc cV b m :: Γ) w)
    (hk : k ((mget a m).getD z) (mget a m).isSome w) : Rd2 P (Instr.lookup T (.map (some b)) (enc a) true) (fun x y => .tuple #[cV x, .bool y]) k w := by
  obtain ⟨es, c, ⟨hr, hst⟩, h⟩ := MapR.opens h
  exact ⟨_, _, run_look hT hE hz h.block hr true, hk⟩
theorem r_look1 {T E : TypeId} {d : TypeDesc} {b : Nat} {m : List (α × β)} {z : β} {a : α} {k : β → K} (hT : mapIs P T d E) (hE : KeyE d enc) (hz : zeroT P E (cV z)) (h : Holds B (MapR enc cV b m :: Γ) w)
    (hk : k ((mget a m).getD z) w) : Rd P (Instr.lookup T (.map (some b)) (enc a) false) cV k w := by
  obtain ⟨es, c, ⟨hr, hst⟩, h⟩ := MapR.opens h
  exact ⟨_, run_look hT hE hz h.block hr false, hk⟩

theorem Holds.setMap {b : Nat} {es es' : Array MapEntry} {c c' : Nat} (h : Holds B (blk b (.map es c) :: Γ) w) : (setObj b (.map es' c')).run P w = .ok () { w with heap := w.heap.setIfInBounds b (.map es' c') } ∧
    Holds B (blk b (.map es' c') :: Γ) { w with heap := w.heap.setIfInBounds b (.map es' c') } :=
  ⟨run_setObj_map _ h.block, h.setBlock rfl⟩

theorem r_look2g {γ : Type} {cG : γ → Value} {g : β → γ} {T E : TypeId} {d : TypeDesc} {b : Nat} {m : List (α × β)} {z : β} {a : α} {k : γ → Bool → K} (hc : ∀ x, cV x = cG (g x)) (hT : mapIs P T d E) (hE : KeyE d enc) (hz : zeroT P E (cV z)) (h : Holds B (MapR enc cV b m :: Γ) w)
    (hk : k (g ((mget a m).getD z)) (mget a m).isSome w) : Rd2 P (Instr.lookup T (.map (some b)) (enc a) true) (fun x y => .tuple #[cG x, .bool y]) k w := by
  obtain ⟨es, c, ⟨hr, hst⟩, h⟩ := MapR.opens h
  have := run_look (a := a) hT hE hz h.block hr true
  exact ⟨g ((mget a m).getD z), _, by rw [hc] at this; exact this, hk⟩

theorem r_upd {T E : TypeId} {d : TypeDesc} {b : Nat} {m : List (α × β)} {a : α} {v : β} {k : K} (hT : mapIs P T d E) (hE : KeyE d enc) (h : Holds B (MapR enc cV b m :: Γ) w)
    (hk : ∀ w', Holds B (MapR enc cV b (mset a v m) :: Γ) w' → k w') : DoU P (Instr.mapUpdate T (.map (some b)) (enc a) (cV v)) k w := by
  obtain ⟨kt, hT, hd⟩ := hT
  obtain ⟨es, c, ⟨hr, hst⟩, h⟩ := MapR.opens h
  have hb := h.block
  have hlen : es.size = m.length := by have := congrArg List.length hr; simpa using this
  unfold Instr.mapUpdate DoU
  simp only [Sem.run_bind, run_underlying hT, Result.andThen, MapKept.run_getObj_map hb, run_checkKey hd (hE.key a)]
  rcases mfound hE hr a with ⟨h1, _, h2, _⟩ | ⟨j, x, h1, hj, h0, _, h2, _⟩
  · simp only [run_findKey hd h1, Result.andThen]
    obtain ⟨e1, h3⟩ := h.setMap (P := P) (es' := es.push { key := enc a, val := cV v, born := c }) (c' := c + 1)
    refine ⟨_, _, e1, hk _ (MapR.shuts ⟨?_, stamps_push hst _ _⟩ h3)⟩
    rw [h2]
    simp only [mrel, Array.toList_push, List.map_append, List.map_cons, List.map_nil]
    rw [show es.toList.map (fun e => (e.key, e.val)) = _ from hr]
  · have hes : ∃ e, es.toList[j]? = some e ∧ e.key = enc a := by
      have := mrel_at hr j
      rw [h0] at this
      cases he : es.toList[j]? with
      | none => rw [he] at this; simp at this
      | some e =>
        rw [he] at this
        simp only [Option.map_some, Option.some.injEq, Prod.mk.injEq] at this
        exact ⟨e, rfl, this.1⟩
    obtain ⟨e, he, hek⟩ := hes
    have he2 : es[j]? = some e := by rw [← he, Array.getElem?_toList]
    simp only [run_findKey hd h1, Result.andThen, Sem.run_bind, he2, Option.map_some, Option.getD_some, hek, Instr.keyThatStays, hE.bits, if_true, Sem.run_pure]
    obtain ⟨e1, h3⟩ := h.setMap (P := P) (es' := es.modify j fun e => { e with key := enc a, val := cV v }) (c' := c)
    refine ⟨_, _, e1, hk _ (MapR.shuts ⟨?_, stamps_modify hst _ _ _⟩ h3)⟩
    rw [h2]
    simp only [mrel]
    apply List.ext_getElem?
    intro i
    have hi := mrel_at hr i
    simp only [List.getElem?_map, Array.getElem?_toList, Array.getElem?_modify] at hi ⊢
    by_cases hij : j = i
    · subst hij
      rw [List.getElem?_set_self hj, he2]
      simp
    · rw [List.getElem?_set_ne hij, if_neg hij]
      exact hi

theorem r_mdelete {T KT E t : TypeId} {d : TypeDesc} {b : Nat} {m : List (α × β)} {a : α} {k : Value → K} (hT : mapIs P T d E) (hE : KeyE d enc) (h : Holds B (MapR enc cV b m :: Γ) w)
    (hk : ∀ w', Holds B (MapR enc cV b (mdel a m) :: Γ) w' → k (.tuple #[]) w') : Do P (Builtin.delete_ #[T, KT] t #[.map (some b), enc a]) id k w := by
  obtain ⟨kt, hT, hd⟩ := hT
  obtain ⟨es, c, ⟨hr, hst⟩, h⟩ := MapR.opens h
  have hb := h.block
  have hlen : es.size = m.length := by have := congrArg List.length hr; simpa using this
  have e0 : #[T, KT][0]? = some T := rfl
  have e1 : #[Value.map (some b), enc a][0]? = some (.map (some b)) := rfl
  have e2 : #[Value.map (some b), enc a][1]? = some (enc a) := rfl
  unfold Builtin.delete_ Do
  simp only [e0, e1, e2, Sem.run_bind, run_underlying hT, Result.andThen, MapKept.run_getObj_map hb, run_checkKey hd (hE.key a)]
  rcases mfound hE hr a with ⟨h1, _, _, h2⟩ | ⟨j, x, h1, hj, h0, _, _, h2⟩
  · simp only [run_findKey hd h1, Result.andThen, Sem.run_bind]
    obtain ⟨e3, h3⟩ := h.setMap (P := P) (es' := es) (c' := c)
    refine ⟨.tuple #[], _, ?_, hk _ (MapR.shuts ⟨?_, hst⟩ h3)⟩
    · simp only [Sem.run_bind, e3, Result.andThen, Sem.run_pure]; rfl
    rw [h2]; exact hr
  · simp only [run_findKey hd h1, Result.andThen, Sem.run_bind]
    obtain ⟨e3, h3⟩ := h.setMap (P := P) (es' := es.eraseIdxIfInBounds j) (c' := c)
    refine ⟨.tuple #[], _, ?_, hk _ (MapR.shuts ⟨?_, stamps_erase hst _⟩ h3)⟩
    · simp only [Sem.run_bind, e3, Result.andThen, Sem.run_pure]; rfl
    rw [h2]
    have hjs : j < es.size := by omega
    simp only [mrel, Array.eraseIdxIfInBounds, dif_pos hjs, Array.toList_eraseIdx]
    have mape : ∀ {α β : Type} (f : α → β) (l : List α) (i : Nat), (l.eraseIdx i).map f = (l.map f).eraseIdx i := by
      intro α β f l
      induction l with
      | nil => intro i; simp
      | cons x l ih => intro i; cases i <;> simp [ih]
    rw [mape, mape, show es.toList.map (fun e => (e.key, e.val)) = _ from hr]

theorem r_mclear {T t : TypeId} {d : TypeDesc} {E : TypeId} {b : Nat} {m : List (α × β)} {k : Value → K} (hT : mapIs P T d E) (h : Holds B (MapR enc cV b m :: Γ) w)
    (hk : ∀ w', Holds B (MapR enc cV b [] :: Γ) w' → k (.tuple #[]) w') : Do P (Builtin.clear_ #[T] t #[.map (some b)]) id k w := by
  obtain ⟨kt, hT, hd⟩ := hT
  obtain ⟨es, c, ⟨hr, hst⟩, h⟩ := MapR.opens h
  have hb := h.block
  have e0 : #[T][0]? = some T := rfl
  have e1 : #[Value.map (some b)][0]? = some (.map (some b)) := rfl
  unfold Builtin.clear_ Do
  simp only [e0, e1, Sem.run_bind, run_underlying hT, Result.andThen, MapKept.run_getObj_map hb]
  obtain ⟨e3, h3⟩ := h.setMap (P := P) (es' := #[]) (c' := c)
  exact ⟨.tuple #[], _, by simp only [Sem.run_bind, e3, Result.andThen, Sem.run_pure]; rfl, hk _ (MapR.shuts (es := #[]) (m := []) ⟨rfl, stamps_nil _⟩ h3)⟩
end
section
variable {α β γ : Type} [DecidableEq α]
theorem mget_map (g : β → γ) (k : α) : ∀ m : List (α × β), mget k (m.map fun p => (p.1, g p.2)) = (mget k m).map g
  | [] => rfl
  | p :: m => by
    simp only [List.map_cons, mget]
    split
    · rfl
    · exact mget_map g k m
theorem mdel_map (g : β → γ) (k : α) : ∀ m : List (α × β), mdel k (m.map fun p => (p.1, g p.2)) = (mdel k m).map fun p => (p.1, g p.2)
  | [] => rfl
  | p :: m => by
    simp only [List.map_cons, mdel]
    split
    · rfl
    · rw [List.map_cons, mdel_map g k m]
theorem mset_map (g : β → γ) (k : α) (v : β) : ∀ m : List (α × β), mset k (g v) (m.map fun p => (p.1, g p.2)) = (mset k v m).map fun p => (p.1, g p.2)
  | [] => rfl
  | p :: m => by
    simp only [List.map_cons, mset]
    split
    · rfl
    · rw [List.map_cons, mset_map g k v m]
theorem mset_none {k : α} {v : β} {m : List (α × β)} (h : mget k m = none) : mset k v m = m ++ [(k, v)] := by
  rcases mfind k m with ⟨_, h2, _⟩ | ⟨_, _, _, _, _, h1, _⟩
  · exact h2 v
  · rw [h] at h1; cases h1
theorem mdel_len {k : α} {m : List (α × β)} {x : β} (h : mget k m = some x) : (mdel k m).length + 1 = m.length := by
  rcases mfind k m with ⟨h1, _⟩ | ⟨j, _, hj, _, _, _, _, h2⟩
  · rw [h] at h1; cases h1
  · rw [h2, List.length_eraseIdx, if_pos hj]; omega
end
end Go.Sep
/- Maps of one's own, and lists of what is owned. Holds for every program. -/
namespace Go.Sep
open Go Go.RowKit
set_option linter.unusedSimpArgs false
set_option linter.unusedVariables false
section
variable {α β : Type} [DecidableEq α] {P : Program} {B w : World} {Γ Δ : List HProp} {enc : α → Value} {cV : β → Value} {k : K}
instance (priority := high) own_map {α β : Type} [DecidableEq α] {enc : α → Value} {cV : β → Value} {b : Nat} {m : List (α × β)} {Γ : List HProp} : Own b (MapR enc cV b m :: Γ) (MapR enc cV b m) Γ := ⟨.refl _⟩
theorem s_mkMap {T : TypeId} {k : Option Nat → K} (h : ∀ b, HG B (MapR enc cV b [] :: Γ) (k (some b))) : HG B Γ (Do P (Instr.makeMap T none) Value.map k) := fun w hw => by
  refine ⟨some w.heap.size, { w with heap := w.heap.push (.map #[] 0) }, rfl, h _ _ (MapR.shuts (es := #[]) (c := 0) ⟨rfl, stamps_nil 0⟩ (hw.alloc _))⟩
theorem s_look2 {γ : Type} {cG : γ → Value} {g : β → γ} {T E : TypeId} {d : TypeDesc} {b : Nat} {m : List (α × β)} {z : β} {a : α} {k : γ → Bool → K} (hc : ∀ x, cV x = cG (g x)) (hT : mapIs P T d E) (hE : KeyE d enc) (hz : zeroT P E (cV z)) (h : HG B Γ (k (g ((mget a m).getD z)) (mget a m).isSome)) [p : Own b Γ (MapR enc cV b m) Δ] :
    HG B Γ (Rd2 P (Instr.lookup T (.map (some b)) (enc a) true) (fun x y => .tuple #[cG x, .bool y]) k) := fun w hw => r_look2g hc hT hE hz (hw.perm p.perm) (h w hw)
theorem s_look1 {γ : Type} {cG : γ → Value} {g : β → γ} {T E : TypeId} {d : TypeDesc} {b : Nat} {m : List (α × β)} {z : β} {a : α} {k : γ → K} (hc : ∀ x, cV x = cG (g x)) (hT : mapIs P T d E) (hE : KeyE d enc) (hz : zeroT P E (cV z)) (h : HG B Γ (k (g ((mget a m).getD z)))) [p : Own b Γ (MapR enc cV b m) Δ] :
    HG B Γ (Rd P (Instr.lookup T (.map (some b)) (enc a) false) cG k) := fun w hw => by
  obtain ⟨x, hx, hk⟩ := r_look1 (P := P) (T := T) (a := a) (k := fun y w => y = (mget a m).getD z ∧ k (g y) w) hT hE hz (hw.perm p.perm) ⟨rfl, h w hw⟩
  obtain ⟨rfl, hk⟩ := hk
  exact ⟨_, by rw [hx, hc], hk⟩
theorem s_upd {γ : Type} {cG : γ → Value} {T E : TypeId} {d : TypeDesc} {b : Nat} {m : List (α × β)} {a : α} {v : β} {x : Value} (hx : x = cV v) (hT : mapIs P T d E) (hE : KeyE d enc) (h : HG B (MapR enc cV b (mset a v m) :: Δ) k) [p : Own b Γ (MapR enc cV b m) Δ] :
    HG B Γ (DoU P (Instr.mapUpdate T (.map (some b)) (enc a) x) k) := fun w hw => by subst hx; exact r_upd hT hE (hw.perm p.perm) fun w' h' => h w' h'
theorem s_mdelete {T KT E t : TypeId} {d : TypeDesc} {b : Nat} {m : List (α × β)} {a : α} {k : Value → K} (hT : mapIs P T d E) (hE : KeyE d enc) (h : HG B (MapR enc cV b (mdel a m) :: Δ) (k (.tuple #[]))) [p : Own b Γ (MapR enc cV b m) Δ] :
    HG B Γ (Do P (Builtin.delete_ #[T, KT] t #[.map (some b), enc a]) id k) := fun w hw => r_mdelete hT hE (hw.perm p.perm) fun w' h' => h w' h'
theorem s_bldF {zero : Array Value} {pl : Nat → Option (Nat × Nat)} {vs : List (Nat × Value)} {cs : List Value} {k : Array Value → K} (h : HG B Γ (k cs.toArray)) (hc : Instr.fill pl zero vs = some cs.toArray := by rfl) : HG B Γ (Bld zero pl vs k) := fun w hw => ⟨_, hc, h w hw⟩
/-- What is owned of each entry, when one is set. -/
theorem s_mset {F : α × β → HProp} {m : List (α × β)} {a : α} {v : β} (h : HG B (Sep.stars ((mset a v m).map F) :: Γ) k) : HG B (F (a, v) :: Sep.stars (m.map F) :: Γ) k := by
  rcases mfind a m with ⟨_, h2, _, _⟩ | ⟨j, x, hj, h0, _, _, h2, _⟩
  · rw [h2 v] at h
    have e : m = m ++ [] := by simp
    rw [e]
    exact s_unmid (A := m) (C := []) (x := (a, v)) h
  · rw [h2 v] at h
    have hj' := List.getElem?_eq_some_iff.1 h0
    have e1 : m = m.take j ++ (a, x) :: m.drop (j + 1) := by
      obtain ⟨h3, h4⟩ := hj'
      rw [← h4, ← List.drop_eq_getElem_cons h3, List.take_append_drop]
    have e2 : m.set j (a, v) = m.take j ++ (a, v) :: m.drop (j + 1) := by
      rw [List.set_eq_take_append_cons_drop, if_pos hj]
    rw [e2] at h
    rw [e1]
    refine s_swap ?_
    refine s_mid ?_
    refine s_end (Δ := F (a, v) :: Sep.stars ((m.take j ++ m.drop (j + 1)).map F) :: Γ) ?_
    exact s_unmid h
theorem mget_mset (m : List (α × β)) (a a' : α) (v : β) : mget a' (mset a v m) = if a' = a then some v else mget a' m := by
  induction m with
  | nil => simp [mset, mget]
  | cons p m ih =>
    unfold mset
    split
    · rename_i h
      subst h
      by_cases h2 : a' = p.1 <;> simp [mget, h2]
    · rename_i h
      by_cases h2 : a' = p.1
      · simp [mget, h2]
        intro h3; exact absurd h3.symm h
      · simp [mget, h2, ih]
theorem mset_keys (m : List (α × β)) (a : α) (v : β) : (mset a v m).map Prod.fst = if a ∈ m.map Prod.fst then m.map Prod.fst else m.map Prod.fst ++ [a] := by
  induction m with
  | nil => simp [mset]
  | cons p m ih =>
    unfold mset
    split
    · rename_i h; simp [h]
    · rename_i h
      simp only [List.map_cons, ih, List.mem_cons, h, false_or]
      split <;> simp
theorem mget_some {m : List (α × β)} {a : α} {v : β} (h : mget a m = some v) : (a, v) ∈ m := by
  induction m with
  | nil => cases h
  | cons p m ih =>
    unfold mget at h
    split at h
    · rename_i h1; injection h with h; subst h1; subst h; exact List.mem_cons_self
    · exact List.mem_cons_of_mem _ (ih h)
end
end Go.Sep
/- Steps that ask for no word of mine: what a word reads, and what it leaves, is found by classes. Holds for every program. -/
namespace Go.Sep
open Go Go.RowKit
set_option linter.unusedSimpArgs false
set_option linter.unusedVariables false

/-- From k over Γ one step leads to j over Δ. -/
class Nx (B : World) (Γ : List HProp) (k : K) (Δ : outParam (List HProp)) (j : outParam K) : Prop where h : HG B Δ j → HG B Γ k
class NthV (l : List Value) (n : Nat) (v : outParam Value) : Prop where h : nth l n = some v
class Cv {α : Type} (c : α → Value) (v : Value) (x : outParam α) : Prop where h : v = c x
class SetV (l : List Value) (n : Nat) (v : Value) (l' : outParam (List Value)) : Prop where h : l.set n v = l' ∧ n < l.length
class TakeV (l : List Value) (m n : Nat) (l' : outParam (List Value)) : Prop where h : (l.drop m).take n = l' ∧ l'.length = n
class FlatV (v : Value) : Prop where h : flatV v = true
class FlatL (l : List Value) : Prop where h : l.all flatV = true
class LenV (l : List Value) (n : outParam Nat) : Prop where h : l.length = n
class BoolV (b : Bool) (v : outParam Bool) : Prop where h : b = v
instance nthV0 {v : Value} {l : List Value} : NthV (v :: l) 0 v := ⟨rfl⟩
instance nthV1 {v u : Value} {l : List Value} {n : Nat} [h : NthV l n v] : NthV (u :: l) (n + 1) v := ⟨h.h⟩
instance cvBool {b : Bool} : Cv Value.bool (.bool b) b := ⟨rfl⟩
instance cvInt {k : IntKind} {n : Int} : Cv (Value.int k) (.int k n) n := ⟨rfl⟩
instance cvStr {b : ByteArray} : Cv Value.string (.string b) b := ⟨rfl⟩
instance cvPtr {p : Option Addr} : Cv Value.pointer (.pointer p) p := ⟨rfl⟩
instance cvMap {p : Option Nat} : Cv Value.map (.map p) p := ⟨rfl⟩
instance (priority := high) cvSl {s : Sl} : Cv Sl.val s.val s := ⟨rfl⟩
instance cvSl2 {a : Option Addr} {n c : Nat} : Cv Sl.val (.slice a n c) ⟨a, n, c⟩ := ⟨rfl⟩
instance cvId {v : Value} : Cv id v v := ⟨rfl⟩
instance cvAgg {v : Array Value} : Cv Value.agg (.agg v) v := ⟨rfl⟩
instance setV0 {v u : Value} {l : List Value} : SetV (u :: l) 0 v (v :: l) := ⟨⟨rfl, Nat.zero_lt_succ _⟩⟩
instance setV1 {v u : Value} {l l' : List Value} {n : Nat} [h : SetV l n v l'] : SetV (u :: l) (n + 1) v (u :: l') := ⟨⟨by rw [List.set_cons_succ, h.h.1], Nat.succ_lt_succ h.h.2⟩⟩
instance takeV0 {l : List Value} : TakeV l 0 0 [] := ⟨⟨rfl, rfl⟩⟩
instance takeV1 {u : Value} {l l' : List Value} {n : Nat} [h : TakeV l 0 n l'] : TakeV (u :: l) 0 (n + 1) (u :: l') := ⟨⟨by have := h.h.1; rw [List.drop_zero] at this ⊢; rw [List.take_succ_cons, this], by rw [List.length_cons, h.h.2]⟩⟩
instance takeV2 {u : Value} {l l' : List Value} {m n : Nat} [h : TakeV l m n l'] : TakeV (u :: l) (m + 1) n l' := ⟨h.h⟩
instance flatVB {b : Bool} : FlatV (.bool b) := ⟨rfl⟩
instance flatVI {k : IntKind} {n : Int} : FlatV (.int k n) := ⟨rfl⟩
instance flatVS {b : ByteArray} : FlatV (.string b) := ⟨rfl⟩
instance flatVP {p : Option Addr} : FlatV (.pointer p) := ⟨rfl⟩
instance flatVM {p : Option Nat} : FlatV (.map p) := ⟨rfl⟩
instance flatVSl {a : Option Addr} {n c : Nat} : FlatV (.slice a n c) := ⟨rfl⟩
instance flatL0 : FlatL [] := ⟨rfl⟩
instance flatL1 {v : Value} {l : List Value} [h : FlatV v] [g : FlatL l] : FlatL (v :: l) := ⟨by rw [List.all_cons, h.h, g.h]; rfl⟩
instance lenV0 : LenV [] 0 := ⟨rfl⟩
instance lenV1 {v : Value} {l : List Value} {n : Nat} [h : LenV l n] : LenV (v :: l) (n + 1) := ⟨by rw [List.length_cons, h.h]⟩
instance boolVT : BoolV true true := ⟨rfl⟩
instance boolVF : BoolV false false := ⟨rfl⟩
instance boolVN1 {b : Bool} [h : BoolV b true] : BoolV (!b) false := ⟨by rw [h.h]; rfl⟩
instance boolVN0 {b : Bool} [h : BoolV b false] : BoolV (!b) true := ⟨by rw [h.h]; rfl⟩
instance boolVS {α : Type} {x : α} : BoolV (some x).isNone false := ⟨rfl⟩
instance boolV0 {α : Type} : BoolV (none : Option α).isNone true := ⟨rfl⟩
instance (priority := high) adr_add0 {b n : Nat} : AdrIs ((⟨b, 0, none⟩ : Addr).add n) b n := ⟨by rw [add_mk, Nat.zero_add]⟩

section
variable {B : World} {Γ Δ Γ0 : List HProp} {k j : K}
theorem s_wsD {k : (World → Prop) → K} (Γ0 : List HProp) (h : HG B Γ (k (Holds B Γ0))) [d : Drops Γ Γ0] : HG B Γ (WithS k) := fun w hw => ⟨Holds B Γ0, hw.drops, h w hw⟩
theorem s_nx (h : HG B Δ j) [n : Nx B Γ k Δ j] : HG B Γ k := n.h h
instance nx_nn {a : Addr} {k : Addr → K} : Nx B Γ (Nn (some a) k) Γ (k a) := ⟨s_nn⟩
instance nx_dr : Nx B Γ (Dr k) Γ k := ⟨s_dr⟩
instance nx_ws {k : (World → Prop) → K} : Nx B Γ (WithS k) Γ (k (Holds B Γ)) := ⟨s_ws⟩
instance nx_sv [d : Drops Γ Δ] : Nx B Γ (Sv (Holds B Δ) k) Γ k := ⟨fun h => s_sv h⟩
instance nx_ld {α : Type} {a : Addr} {b off : Nat} {l : List Value} {T : TypeId} {fz : Nat × Nat} {c : α → Value} {v : Value} {x : α} {k : α → K} [ad : AdrIs a b off] [p : Own b Γ (blk b (.cells l.toArray T fz)) Δ] [n : NthV l off v] [e : Cv c v x] : Nx B Γ (Ld a c k) Γ (k x) := ⟨fun h => s_ld h (by rw [n.h, e.h])⟩
instance nx_ldS {α : Type} {a : Addr} {b off : Nat} {l : List Value} {T : TypeId} {fz : Nat × Nat} {c : α → Value} {v : Value} {x : α} {k : α → K} [ad : AdrIs a b off] [p : Own b Γ0 (blk b (.cells l.toArray T fz)) Δ] [n : NthV l off v] [e : Cv c v x] : Nx B Γ (LdS (Holds B Γ0) a c k) Γ (k x) := ⟨fun h => s_ldS h (by rw [n.h, e.h])⟩
instance nx_ldN {a : Addr} {b off n : Nat} {l l' : List Value} {T : TypeId} {fz : Nat × Nat} {k : Array Value → K} [ad : AdrIs a b off] [p : Own b Γ (blk b (.cells l.toArray T fz)) Δ] [t : TakeV l off n l'] : Nx B Γ (LdN a n k) Γ (k l'.toArray) := ⟨fun h => s_ldN h t.h.1 t.h.2⟩
instance nx_ldNS {a : Addr} {b off n : Nat} {l l' : List Value} {T : TypeId} {fz : Nat × Nat} {k : Array Value → K} [ad : AdrIs a b off] [p : Own b Γ0 (blk b (.cells l.toArray T fz)) Δ] [t : TakeV l off n l'] : Nx B Γ (LdNS (Holds B Γ0) a n k) Γ (k l'.toArray) := ⟨fun h => s_ldNS h t.h.1 t.h.2⟩
instance nx_st {a : Addr} {b off : Nat} {l l' : List Value} {T : TypeId} {v : Value} [ad : AdrIs a b off] [p : Own b Γ (blk b (.cells l.toArray T (0, 0))) Δ] [s : SetV l off v l'] [f : FlatV v] : Nx B Γ (St a v k) (blk b (.cells l'.toArray T (0, 0)) :: Δ) k := ⟨fun h => s_st h (Nat.ble_eq_true_of_le s.h.2) s.h.1 f.h⟩
instance nx_stN {a : Addr} {b n : Nat} {l l' : List Value} {T : TypeId} [ad : AdrIs a b 0] [p : Own b Γ (blk b (.cells l.toArray T (0, 0))) Δ] [h1 : LenV l n] [h2 : LenV l' n] [f : FlatL l'] : Nx B Γ (StN a n l'.toArray k) (blk b (.cells l'.toArray T (0, 0)) :: Δ) k := ⟨fun h => s_stN h h1.h h2.h f.h⟩
instance nx_fld {α : Type} {l : List Value} {off : Nat} {c : α → Value} {v : Value} {x : α} {k : α → K} [n : NthV l off v] [e : Cv c v x] : Nx B Γ (Fld l.toArray off c k) Γ (k x) := ⟨fun h => s_fld h (by rw [n.h, e.h])⟩
instance nx_bld1 {zero cs : List Value} {n : Nat} {k : Array Value → K} [h1 : LenV zero n] [h2 : LenV cs n] : Nx B Γ (Bld zero.toArray (fun i => some (i * n, n)) [(0, .agg cs.toArray)] k) Γ (k cs.toArray) := ⟨fun h => s_bld1 h h1.h h2.h⟩
instance nx_t {b : Bool} {x y : K} [h : BoolV b true] : Nx B Γ (Ite b x y) Γ x := ⟨fun g => s_t g h.h⟩
instance nx_f {b : Bool} {x y : K} [h : BoolV b false] : Nx B Γ (Ite b x y) Γ y := ⟨fun g => s_f g h.h⟩
end
/-! ### structs from parts -/
class CellsV (v : Value) (us : outParam (List Value)) : Prop where h : v.cells = us.toArray
class OverV (z : List Value) (off : Nat) (us : List Value) (z' : outParam (List Value)) : Prop where h : off + us.length ≤ z.length ∧ z' = z.take off ++ us ++ z.drop (off + us.length)
class PlaceV (pl : List (Nat × Nat)) (i : Nat) (off n : outParam Nat) : Prop where h : pl[i]? = some (off, n)
class FillV (pl : List (Nat × Nat)) (z : List Value) (ps : List (Nat × Value)) (cs : outParam (List Value)) : Prop where h : Instr.fill (pl[·]?) z.toArray ps = some cs.toArray
instance cellsVA {l : List Value} : CellsV (.agg l.toArray) l := ⟨rfl⟩
instance cellsVB {b : Bool} : CellsV (.bool b) [.bool b] := ⟨rfl⟩
instance cellsVI {k : IntKind} {n : Int} : CellsV (.int k n) [.int k n] := ⟨rfl⟩
instance cellsVS {b : ByteArray} : CellsV (.string b) [.string b] := ⟨rfl⟩
instance cellsVP {p : Option Addr} : CellsV (.pointer p) [.pointer p] := ⟨rfl⟩
instance cellsVM {p : Option Nat} : CellsV (.map p) [.map p] := ⟨rfl⟩
instance cellsVSl {a : Option Addr} {n c : Nat} : CellsV (.slice a n c) [.slice a n c] := ⟨rfl⟩
instance overV0 {z : List Value} : OverV z 0 [] z := ⟨⟨by simp, by simp⟩⟩
instance overV1 {v u : Value} {z us z' : List Value} [h : OverV z 0 us z'] : OverV (v :: z) 0 (u :: us) (u :: z') := ⟨by
  obtain ⟨h1, h2⟩ := h.h
  simp only [Nat.zero_add, List.take_zero, List.nil_append] at h1 h2
  refine ⟨by simp; omega, ?_⟩
  simp only [List.length_cons, Nat.zero_add, List.take_zero, List.nil_append, List.drop_succ_cons, List.cons_append]
  rw [h2]⟩
instance overV2 {v : Value} {z us z' : List Value} {off : Nat} [h : OverV z off us z'] : OverV (v :: z) (off + 1) us (v :: z') := ⟨by
  obtain ⟨h1, h2⟩ := h.h
  refine ⟨by simp; omega, ?_⟩
  rw [h2, show off + 1 + us.length = (off + us.length) + 1 by omega]
  simp⟩
instance placeV0 {o n : Nat} {pl : List (Nat × Nat)} : PlaceV ((o, n) :: pl) 0 o n := ⟨rfl⟩
instance placeV1 {x : Nat × Nat} {o n i : Nat} {pl : List (Nat × Nat)} [h : PlaceV pl i o n] : PlaceV (x :: pl) (i + 1) o n := ⟨h.h⟩
instance fillV0 {pl : List (Nat × Nat)} {z : List Value} : FillV pl z [] z := ⟨rfl⟩
theorem fill_part {pl : Nat → Option (Nat × Nat)} {z us z' : List Value} {i off : Nat} {v : Value} {ps : List (Nat × Value)} (hp : pl i = some (off, us.length)) (hc : v.cells = us.toArray) (h : off + us.length ≤ z.length ∧ z' = z.take off ++ us ++ z.drop (off + us.length)) :
    Instr.fill pl z.toArray ((i, v) :: ps) = Instr.fill pl z'.toArray ps := by
  obtain ⟨h1, rfl⟩ := h
  rw [Instr.fill, hp, hc]
  simp only [List.size_toArray]
  rw [if_neg (by simp; omega)]
  congr 1
  have hl : (z.take off).length = off := by rw [List.length_take]; omega
  have key : ∀ (us m pre C : List Value), pre.length = off → m.length = us.length → ∀ (o : Nat) (pre2 : List Value), pre2.length = off + o → (us.zipIdx o).foldl (fun (cs : Array Value) (p : Value × Nat) => cs.setIfInBounds (off + p.2) p.1) (pre2 ++ m ++ C).toArray = (pre2 ++ us ++ C).toArray := by
    intro us
    induction us with
    | nil => intro m pre C _ hm o pre2 _; rw [List.length_eq_zero_iff.1 hm]; rfl
    | cons u us ih =>
      intro m pre C hp hm o pre2 hp2
      cases m with
      | nil => simp at hm
      | cons x m =>
        simp only [List.zipIdx_cons, List.foldl_cons]
        have e : (pre2 ++ x :: m ++ C).toArray.setIfInBounds (off + o) u = ((pre2 ++ [u]) ++ m ++ C).toArray := by
          apply Array.ext'
          rw [← hp2]
          simp
        rw [e, ih m pre C hp (by simpa using hm) (o + 1) (pre2 ++ [u]) (by simp; omega)]
        simp
  have e : z = z.take off ++ (z.drop off).take us.length ++ z.drop (off + us.length) := by
    rw [← List.drop_drop, List.append_assoc, List.take_append_drop, List.take_append_drop]
  have h3 := key us ((z.drop off).take us.length) (z.take off) (z.drop (off + us.length)) hl (by rw [List.length_take, List.length_drop]; omega) 0 (z.take off) (by omega)
  rw [← e] at h3
  rw [← Array.foldl_toList, Array.toList_zipIdx]
  exact h3
instance fillV1 {pl : List (Nat × Nat)} {z z' us cs : List Value} {i off n : Nat} {v : Value} {ps : List (Nat × Value)} [p : PlaceV pl i off n] [c : CellsV v us] [l : LenV us n] [o : OverV z off us z'] [f : FillV pl z' ps cs] : FillV pl z ((i, v) :: ps) cs :=
  ⟨by rw [fill_part (by rw [l.h]; exact p.h) c.h o.h]; exact f.h⟩
instance nx_bld {pl : List (Nat × Nat)} {B : World} {Γ : List HProp} {z cs : List Value} {ps : List (Nat × Value)} {k : Array Value → K} [f : FillV pl z ps cs] : Nx B Γ (Bld z.toArray (pl[·]?) ps k) Γ (k cs.toArray) := ⟨fun h w hw => ⟨_, f.h, h w hw⟩⟩
end Go.Sep
/- A range over a map of one's own: every entry comes once, in whatever order. Holds for every program. -/
namespace Go.Sep
open Go Go.RowKit Go.MapKept
set_option linter.unusedSimpArgs false
set_option linter.unusedVariables false
set_option linter.unusedSectionVars false

section
variable {α β : Type} [DecidableEq α] {P : Program} {B w : World} {Γ : List HProp} {enc : α → Value} {cV : β → Value}

/-- What is still to come, by the stamps that came. -/
def itLeft (es : Array MapEntry) (seen : Array Nat) (m : List (α × β)) : List (α × β) := ((es.toList.zip m).filter fun p => !seen.contains p.1.born).map Prod.snd
structure ItF (enc : α → Value) (cV : β → Value) (es : Array MapEntry) (c : Nat) (seen : Array Nat) (m left : List (α × β)) (cur : Option (α × β)) : Prop where
  rel : mrel enc cV es m
  st : stamps es c
  lf : left = itLeft es seen m
  cnt : seen.size + left.length = m.length
  cur : ∀ p, cur = some p → ∃ (seen' : Array Nat) (e : MapEntry), seen = seen'.push e.born ∧ e ∈ es.toList ∧ e.key = enc p.1 ∧ e.val = cV p.2
/-- A map, and a range over it that is under way. -/
def MapIt (enc : α → Value) (cV : β → Value) (b r : Nat) (m left : List (α × β)) (cur : Option (α × β)) : HProp := ex fun es : Array MapEntry => ex fun c : Nat => ex fun seen : Array Nat =>
  stars [pur (ItF enc cV es c seen m left cur), blk b (.map es c), blk r (.mapIter (some b) c seen c)]

theorem MapIt.opens {b r : Nat} {m left : List (α × β)} {cur : Option (α × β)} (h : Holds B (MapIt enc cV b r m left cur :: Γ) w) : ∃ es c seen, ItF enc cV es c seen m left cur ∧ Holds B (blk b (.map es c) :: blk r (.mapIter (some b) c seen c) :: Γ) w := by
  obtain ⟨es, h⟩ := Holds.ex.1 h
  obtain ⟨c, h⟩ := Holds.ex.1 h
  obtain ⟨seen, h⟩ := Holds.ex.1 h
  obtain ⟨hp, h⟩ := Holds.pur.1 (Holds.flat.1 h)
  exact ⟨es, c, seen, hp, h⟩
theorem MapIt.shuts {b r : Nat} {m left : List (α × β)} {cur : Option (α × β)} {es : Array MapEntry} {c : Nat} {seen : Array Nat} (hp : ItF enc cV es c seen m left cur) (h : Holds B (blk b (.map es c) :: blk r (.mapIter (some b) c seen c) :: Γ) w) : Holds B (MapIt enc cV b r m left cur :: Γ) w :=
  Holds.ex.2 ⟨es, Holds.ex.2 ⟨c, Holds.ex.2 ⟨seen, Holds.flat.2 (Holds.pur.2 ⟨hp, h⟩)⟩⟩⟩
theorem MapIt.ends {b r : Nat} {m left : List (α × β)} {cur : Option (α × β)} (h : Holds B (MapIt enc cV b r m left cur :: Γ) w) : Holds B (MapR enc cV b m :: Γ) w := by
  obtain ⟨es, c, seen, hp, h⟩ := MapIt.opens h
  exact MapR.shuts ⟨hp.rel, hp.st⟩ (h.del 1 rfl)

theorem mrel_len {es : Array MapEntry} {m : List (α × β)} (h : mrel enc cV es m) : es.toList.length = m.length := by have := congrArg List.length h; simpa using this
theorem mrel_zip {es : Array MapEntry} {m : List (α × β)} (h : mrel enc cV es m) : ∀ p ∈ es.toList.zip m, p.1.key = enc p.2.1 ∧ p.1.val = cV p.2.2 := by
  intro p hp
  obtain ⟨i, hi⟩ := List.getElem?_of_mem hp
  rw [List.getElem?_zip_eq_some] at hi
  have := mrel_at h i
  rw [hi.1, hi.2] at this
  simp only [Option.map_some, Option.some.injEq, Prod.mk.injEq] at this
  exact this

theorem r_range {T E : TypeId} {d : TypeDesc} {b : Nat} {m : List (α × β)} {k : Option Addr → K} (hT : mapIs P T d E) (h : Holds B (MapR enc cV b m :: Γ) w) (hk : ∀ r w, Holds B (MapIt enc cV b r m m none :: Γ) w → k (some ⟨r, 0, none⟩) w) :
    Do P (Instr.range T (.map (some b))) Value.pointer k w := by
  obtain ⟨kt, hT, hd⟩ := hT
  obtain ⟨es, c, ⟨hr, hst⟩, h⟩ := MapR.opens h
  have hb := h.block
  refine ⟨some ⟨w.heap.size, 0, none⟩, { w with heap := w.heap.push (.mapIter (some b) c #[] c) }, ?_, hk _ _ (MapIt.shuts (seen := #[]) ⟨hr, hst, ?_, by simp, fun p hp => by cases hp⟩ (h.alloc _).swap)⟩
  · unfold Instr.range
    simp only [Sem.run_bind, run_underlying hT, Result.andThen, MapKept.run_getObj_map hb, Sem.run_pure]
    rfl
  · unfold itLeft
    have e : (es.toList.zip m).filter (fun p => !(#[] : Array Nat).contains p.1.born) = es.toList.zip m := List.filter_eq_self.2 (fun p _ => by simp)
    rw [e, List.map_snd_zip (by rw [mrel_len hr]; exact Nat.le_refl _)]

theorem zip_filter_split {es : List MapEntry} {m : List (α × β)} (seen : Array Nat) (hn : (es.map (·.born)).Nodup) (hl : es.length = m.length) {e : MapEntry} (he : e ∈ es.filter (fun e => !seen.contains e.born)) :
    ∃ l1 p l2, (e, p) ∈ es.zip m ∧ ((es.zip m).filter fun p => !seen.contains p.1.born).map Prod.snd = l1 ++ p :: l2 ∧ ((es.zip m).filter fun p => !(seen.push e.born).contains p.1.born).map Prod.snd = l1 ++ l2 := by
  induction es generalizing m with
  | nil => simp at he
  | cons x es ih =>
    cases m with
    | nil => simp at hl
    | cons q m =>
      simp only [List.map_cons, List.nodup_cons] at hn
      simp only [List.zip_cons_cons]
      by_cases hx : x = e
      · subst hx
        have hxs : (!seen.contains x.born) = true := (List.mem_filter.1 he).2
        refine ⟨[], q, ((es.zip m).filter fun p => !seen.contains p.1.born).map Prod.snd, List.mem_cons_self, ?_, ?_⟩
        · simp only [List.filter_cons]; rw [if_pos hxs]; rfl
        · simp only [List.filter_cons]
          rw [if_neg (by simp)]
          simp only [List.nil_append]
          congr 1
          refine List.filter_congr fun p hp => ?_
          have hpe : p.1.born ≠ x.born := fun heq => hn.1 (by rw [← heq]; exact List.mem_map_of_mem (List.of_mem_zip hp).1)
          simp [Array.contains_push, hpe]
      · have he2 : e ∈ es.filter (fun e => !seen.contains e.born) := by
          have h1 := List.mem_filter.1 he
          rcases List.mem_cons.1 h1.1 with h2 | h2
          · exact absurd h2.symm hx
          · exact List.mem_filter.2 ⟨h2, h1.2⟩
        obtain ⟨l1, p, l2, h1, h2, h3⟩ := ih hn.2 (by simpa using hl) he2
        have hxb : x.born ≠ e.born := fun heq => hn.1 (by rw [heq]; exact List.mem_map_of_mem (List.mem_filter.1 he2).1)
        by_cases hs : (!seen.contains x.born) = true
        · refine ⟨q :: l1, p, l2, List.mem_cons_of_mem _ h1, ?_, ?_⟩
          · simp only [List.filter_cons]
            rw [if_pos hs, List.map_cons, h2]; rfl
          · simp only [List.filter_cons]
            rw [if_pos (by simp [Array.contains_push, hxb] at hs ⊢; exact hs), List.map_cons, h3]; rfl
        · refine ⟨l1, p, l2, List.mem_cons_of_mem _ h1, ?_, ?_⟩
          · simp only [List.filter_cons]
            rw [if_neg hs, h2]
          · simp only [List.filter_cons]
            rw [if_neg (by simp [Array.contains_push, hxb] at hs ⊢; exact hs), h3]

theorem r_next {b r : Nat} {m left : List (α × β)} {cur : Option (α × β)} {k : Value → K} (h : Holds B (MapIt enc cV b r m left cur :: Γ) w)
    (h0 : left = [] → ∀ w, Holds B (MapR enc cV b m :: Γ) w → k (.tuple #[.bool false]) w)
    (h1 : ∀ l1 p l2 w, left = l1 ++ p :: l2 → p ∈ m → Holds B (MapIt enc cV b r m (l1 ++ l2) (some p) :: Γ) w → k (.tuple #[.bool true, enc p.1, cV p.2]) w) :
    Do P (Instr.next (.pointer (some ⟨r, 0, none⟩)) false 0) id k w := by
  have hend := MapIt.ends h
  obtain ⟨es, c, seen, hp, h⟩ := MapIt.opens h
  have hb := h.block
  have hr := h.tail.block
  rcases run_next_at (P := P) w 0 r b c c seen es c hr hb hp.st.2 (Nat.le_refl _) with ⟨hz, hrun⟩ | ⟨e, he, w1, hw1, hrun⟩
  · refine ⟨_, w, hrun, h0 ?_ w hend⟩
    rw [hp.lf]
    unfold itLeft
    have hnone : es.toList.filter (fun e => !seen.contains e.born) = [] := by
      have : (leftOf es seen).toList.length = 0 := by simpa using hz
      unfold leftOf at this
      rw [Array.toList_filter] at this
      exact List.length_eq_zero_iff.1 this
    have : (es.toList.zip m).filter (fun p => !seen.contains p.1.born) = [] := by
      rw [List.filter_eq_nil_iff] at hnone ⊢
      intro p hpz
      exact hnone p.1 (List.of_mem_zip hpz).1
    rw [this]; rfl
  · have he2 : e ∈ es.toList.filter (fun e => !seen.contains e.born) := by
      unfold leftOf at he
      rw [Array.toList_filter] at he
      exact he
    obtain ⟨l1, p, l2, hz, hl, hl2⟩ := zip_filter_split seen hp.st.1 (mrel_len hp.rel) he2
    have hkv := mrel_zip hp.rel _ hz
    simp only at hkv
    refine ⟨_, _, hrun, ?_⟩
    show k (.tuple #[.bool true, e.key, e.val]) _
    rw [hkv.1, hkv.2]
    have hw : ∃ w', w1 = w' ∧ Holds B (blk b (.map es c) :: blk r (.mapIter (some b) c seen c) :: Γ) w' := by
      rcases hw1 with rfl | rfl
      · exact ⟨_, rfl, h⟩
      · exact ⟨_, rfl, h.drew _⟩
    obtain ⟨w', rfl, h⟩ := hw
    refine h1 l1 p l2 _ (by rw [hp.lf]; exact hl) (List.of_mem_zip hz).2 (MapIt.shuts (es := es) (c := c) (seen := seen.push e.born) ⟨hp.rel, hp.st, hl2.symm, ?_, fun q hq => ?_⟩ ?_)
    · have h3 := hp.cnt
      have h4 : left = l1 ++ p :: l2 := by rw [hp.lf]; exact hl
      rw [h4] at h3
      simp only [List.length_append, List.length_cons, Array.size_push] at h3 ⊢
      omega
    · cases hq
      exact ⟨seen, e, rfl, (List.of_mem_zip hz).1, hkv.1, hkv.2⟩
    · exact (h.swap.setBlock (o' := .mapIter (some b) c (seen.push e.born) c) rfl).swap

/-- How many are still to come, as the world tells. -/
def itCount (r n : Nat) (w : World) : Nat := match w.heap[r]? with
  | some (.mapIter _ _ seen _) => n - seen.size
  | _ => 0
theorem it_count {b r : Nat} {m left : List (α × β)} {cur : Option (α × β)} (h : Holds B (MapIt enc cV b r m left cur :: Γ) w) : itCount r m.length w = left.length := by
  obtain ⟨es, c, seen, hp, h⟩ := MapIt.opens h
  have := hp.cnt
  unfold itCount
  rw [h.tail.block]
  simp only
  omega
theorem r_entry {b r : Nat} {m left : List (α × β)} {p : α × β} {k : Value → K} (h : Holds B (MapIt enc cV b r m left (some p) :: Γ) w) (hk : k (.tuple #[enc p.1, cV p.2]) w) :
    Do P (Instr.entry (.pointer (some ⟨r, 0, none⟩))) id k w := by
  obtain ⟨es, c, seen, hp, h⟩ := MapIt.opens h
  obtain ⟨seen', e, hs, he, hk1, hk2⟩ := hp.cur p rfl
  subst hs
  refine ⟨_, w, run_entry_at (P := P) w r b c seen' es c e h.tail.block h.block he hp.st.1, ?_⟩
  show k (.tuple #[e.key, e.val]) w
  rw [hk1, hk2]
  exact hk
theorem run_lookZ {zv : Value} {T E : TypeId} {d : TypeDesc} {b : Nat} {m : List (α × β)} {a : α} (hT : mapIs P T d E) (hE : KeyE d enc) (hz : zeroT P E zv) {es : Array MapEntry} {c : Nat} (hb : w.heap[b]? = some (.map es c)) (hr : mrel enc cV es m) (ok : Bool) :
    (Instr.lookup T (.map (some b)) (enc a) ok).run P w = .ok (if ok then .tuple #[((mget a m).map cV).getD zv, .bool (mget a m).isSome] else ((mget a m).map cV).getD zv) w := by
  obtain ⟨kt, hT, hd⟩ := hT
  unfold Instr.lookup
  simp only [Sem.run_bind, run_underlying hT, Result.andThen, MapKept.run_getObj_map hb, run_checkKey hd (hE.key a), Sem.run_pure]
  rcases mfound hE hr a with ⟨h1, h2, _⟩ | ⟨j, x, h1, _, _, h2, _⟩
  · simp only [run_findKey hd h1, Result.andThen, Sem.run_bind, zeroT_spec hz, Sem.run_pure, h2]
    cases ok <;> rfl
  · simp only [run_findKey hd h1, Result.andThen, Sem.run_bind, Sem.run_pure, h2]
    cases ok <;> rfl
end
end Go.Sep
/- Structs of numbers, strings and truths are compared, and are keys of maps. Holds for every program. -/
namespace Go.Sep
open Go Go.RowKit
set_option linter.unusedSimpArgs false
set_option linter.unusedVariables false
set_option linter.unusedSectionVars false

/-- A cell that can be compared. -/
inductive Ck where
  | int (k : IntKind)
  | str
  | bool
def Ck.fit : Ck → Value → Bool
  | .int k, .int k' _ => k' == k
  | .str, .string _ => true
  | .bool, .bool _ => true
  | _, _ => false
def fits : List Ck → List Value → Bool
  | [], [] => true
  | c :: cs, v :: vs => c.fit v && fits cs vs
  | _, _ => false
def cksF (P : Program) (f : TypeId → Option (List Ck)) : List Field → Nat → Option (List Ck)
  | [], _ => some []
  | x :: fs, off => match f x.type with
    | none => none
    | some ks => if x.name != "_" && Nat.beq x.offset off && sizeT P x.type ks.length then (cksF P f fs (off + ks.length)).map (ks ++ ·) else none
def cksT (P : Program) : Nat → TypeId → Option (List Ck)
  | 0, _ => none
  | d + 1, t => match P.underlying t with
    | some (.int k) => some [.int k]
    | some .string => some [.str]
    | some .bool => some [.bool]
    | some (.struct fs) => if P.stoodInHeld t then none else cksF P (cksT P d) fs.toList 0
    | _ => none
def isStT (P : Program) (t : TypeId) : Bool := match P.underlying t with
  | some (.struct _) => true
  | _ => false
/-- Cells as a value of a type. -/
def cellsV (P : Program) (t : TypeId) (vs : List Value) : Value := if isStT P t then .agg vs.toArray else vs.headD .nilIface

theorem fit_int {k : IntKind} {v : Value} (h : (Ck.int k).fit v = true) : ∃ n, v = .int k n := by
  cases v <;> simp [Ck.fit] at h
  subst h; exact ⟨_, rfl⟩
theorem fit_str {v : Value} (h : Ck.str.fit v = true) : ∃ n, v = .string n := by
  cases v <;> simp [Ck.fit] at h
  exact ⟨_, rfl⟩
theorem fit_bool {v : Value} (h : Ck.bool.fit v = true) : ∃ n, v = .bool n := by
  cases v <;> simp [Ck.fit] at h
  exact ⟨_, rfl⟩
theorem fits_len : ∀ {ks : List Ck} {vs : List Value}, fits ks vs = true → vs.length = ks.length
  | [], [], _ => rfl
  | c :: ks, v :: vs, h => by
    simp only [fits, Bool.and_eq_true] at h
    simp [fits_len h.2]
  | [], _ :: _, h => by simp [fits] at h
  | _ :: _, [], h => by simp [fits] at h
theorem fits_app : ∀ {ks ks' : List Ck} {vs : List Value}, fits (ks ++ ks') vs = true → fits ks (vs.take ks.length) = true ∧ fits ks' (vs.drop ks.length) = true
  | [], ks', vs, h => by simpa [fits] using h
  | c :: ks, ks', [], h => by simp [fits] at h
  | c :: ks, ks', v :: vs, h => by
    simp only [List.cons_append, fits, Bool.and_eq_true] at h
    obtain ⟨h1, h2⟩ := fits_app h.2
    simp only [List.length_cons, List.take_succ_cons, List.drop_succ_cons, fits, Bool.and_eq_true]
    exact ⟨⟨h.1, h1⟩, h2⟩
section
variable {P : Program}
theorem run_isAgg {t : TypeId} {d : Nat} {ks : List Ck} (h : cksT P d t = some ks) (w : World) : (isAgg t).run P w = .ok (isStT P t) w := by
  cases d with
  | zero => cases h
  | succ d =>
    unfold cksT at h
    unfold isAgg isStT
    split at h <;> rename_i hu
    · simp [run_underlying hu, hu]
    · simp [run_underlying hu, hu]
    · simp [run_underlying hu, hu]
    · simp [run_underlying hu, hu]
    · cases h
theorem one_of {t : TypeId} {d : Nat} {ks : List Ck} (h : cksT P d t = some ks) (hs : isStT P t = false) : ∃ c, ks = [c] := by
  cases d with
  | zero => cases h
  | succ d =>
    unfold cksT at h
    unfold isStT at hs
    split at h <;> rename_i hu
    · exact ⟨_, (Option.some.inj h).symm⟩
    · exact ⟨_, (Option.some.inj h).symm⟩
    · exact ⟨_, (Option.some.inj h).symm⟩
    · rw [hu] at hs; cases hs
    · cases h
theorem run_part_flat {t : TypeId} {d : Nat} {ks : List Ck} (h : cksT P d t = some ks) (hz : sizeT P t ks.length = true) {cs : List Value} {off : Nat} (hl : off + ks.length ≤ cs.length) (w : World) :
    (part t cs.toArray off).run P w = .ok (cellsV P t ((cs.drop off).take ks.length)) w := by
  unfold part cellsV
  simp only [Sem.run_bind, run_isAgg h, Result.andThen]
  cases hs : isStT P t with
  | true =>
    simp only [if_true, Sem.run_bind, sizeT_spec hz, Result.andThen, Sem.run_pure]
    congr 2
    apply Array.ext'
    simp [List.extract]
  | false =>
    obtain ⟨c, rfl⟩ := one_of h hs
    simp only [List.length_cons, List.length_nil, Nat.zero_add] at hl ⊢
    have hlt : off < cs.length := by omega
    have e : cs.toArray[off]? = some cs[off] := by simp [hlt]
    simp only [Bool.false_eq_true, if_false, e, Sem.run_pure]
    rw [List.drop_eq_getElem_cons hlt]
    rfl

/-! ### equality -/
theorem run_eqF {D d : Nat} (ih : ∀ t ks xs ys, cksT P d t = some ks → fits ks xs = true → fits ks ys = true → ∀ w, ∃ r : Bool, (Op.equalIn D t (cellsV P t xs) (cellsV P t ys)).run P w = .ok r w ∧ (r = true ↔ xs = ys)) (xs ys : List Value) :
    ∀ (fs : List Field) (off : Nat) (ks : List Ck), cksF P (cksT P d) fs off = some ks → off ≤ xs.length → off ≤ ys.length → fits ks (xs.drop off) = true → fits ks (ys.drop off) = true → ∀ w, ∃ r : Bool, (Op.eqFields D xs.toArray ys.toArray fs).run P w = .ok r w ∧ (r = true ↔ xs.drop off = ys.drop off)
  | [], off, ks, h, _, _, hx, hy, w => by
    simp only [cksF, Option.some.injEq] at h
    subst h
    have h1 := List.length_eq_zero_iff.1 (fits_len hx)
    have h2 := List.length_eq_zero_iff.1 (fits_len hy)
    exact ⟨true, by simp [Op.eqFields], by simp [h1, h2]⟩
  | f :: fs, off, ks, h, lx, ly, hx, hy, w => by
    unfold cksF at h
    split at h
    · cases h
    rename_i k1 hk1
    split at h
    · rename_i hc
      simp only [Bool.and_eq_true, bne_iff_ne, ne_eq, Nat.beq_eq] at hc
      obtain ⟨⟨hn, rfl⟩, hz⟩ := hc
      simp only [Option.map_eq_some_iff] at h
      obtain ⟨k2, hk2, rfl⟩ := h
      have ax := fits_app hx
      have ay := fits_app hy
      have cx := fits_len hx
      have cy := fits_len hy
      simp only [List.length_append, List.length_drop] at cx cy
      obtain ⟨r, hr, hiff⟩ := ih f.type k1 _ _ hk1 ax.1 ay.1 w
      obtain ⟨r2, hr2, hiff2⟩ := run_eqF ih xs ys fs _ k2 hk2 (by omega) (by omega) (by rw [← List.drop_drop]; exact ax.2) (by rw [← List.drop_drop]; exact ay.2) w
      unfold Op.eqFields
      rw [if_pos hn]
      simp only [Sem.run_bind, run_part_flat hk1 hz (show f.offset + k1.length ≤ xs.length by omega), run_part_flat hk1 hz (show f.offset + k1.length ≤ ys.length by omega), Result.andThen, hr]
      have hsp : xs.drop f.offset = ys.drop f.offset ↔ ((xs.drop f.offset).take k1.length = (ys.drop f.offset).take k1.length ∧ xs.drop (f.offset + k1.length) = ys.drop (f.offset + k1.length)) := by
        constructor
        · intro e; rw [e, ← List.drop_drop, ← List.drop_drop, e]; exact ⟨rfl, rfl⟩
        · rintro ⟨e1, e2⟩
          rw [← List.take_append_drop k1.length (xs.drop f.offset), ← List.take_append_drop k1.length (ys.drop f.offset), e1, List.drop_drop, List.drop_drop, e2]
      cases r with
      | false =>
        refine ⟨false, by simp, ?_⟩
        rw [hsp, ← hiff]; simp
      | true =>
        refine ⟨r2, by simpa using hr2, ?_⟩
        rw [hsp, ← hiff, hiff2]; simp
    · cases h
theorem str_inj {a b : ByteArray} : (a.toList == b.toList) = true ↔ a = b := by
  obtain ⟨x, rfl⟩ := bs_of a
  obtain ⟨y, rfl⟩ := bs_of b
  rw [bs_list, bs_list, beq_iff_eq]
  exact ⟨fun h => by rw [h], fun h => by have := congrArg ByteArray.toList h; rwa [bs_list, bs_list] at this⟩
theorem run_eq_flat (D : Nat) : ∀ (d : Nat) (t : TypeId) (ks : List Ck) (xs ys : List Value), cksT P d t = some ks → fits ks xs = true → fits ks ys = true → ∀ w, ∃ r : Bool, (Op.equalIn (D + d) t (cellsV P t xs) (cellsV P t ys)).run P w = .ok r w ∧ (r = true ↔ xs = ys)
  | 0, t, ks, xs, ys, h, _, _, w => by cases h
  | d + 1, t, ks, xs, ys, h, hx, hy, w => by
    unfold cksT at h
    have lx := fits_len hx
    have ly := fits_len hy
    split at h <;> rename_i hu
    · injection h with h; subst h
      obtain ⟨x, rfl⟩ := List.length_eq_one_iff.1 lx
      obtain ⟨y, rfl⟩ := List.length_eq_one_iff.1 ly
      simp only [fits, Bool.and_true] at hx hy
      have hs : isStT P t = false := by unfold isStT; rw [hu]
      obtain ⟨a, rfl⟩ := fit_int hx
      obtain ⟨b, rfl⟩ := fit_int hy
      refine ⟨a == b, ?_, by simp⟩
      simp only [cellsV, hs, Bool.false_eq_true, if_false, List.headD_cons]
      exact run_equalIn_int w (D + d) t _ _ _ _ hu
    · injection h with h; subst h
      obtain ⟨x, rfl⟩ := List.length_eq_one_iff.1 lx
      obtain ⟨y, rfl⟩ := List.length_eq_one_iff.1 ly
      simp only [fits, Bool.and_true] at hx hy
      have hs : isStT P t = false := by unfold isStT; rw [hu]
      obtain ⟨a, rfl⟩ := fit_str hx
      obtain ⟨b, rfl⟩ := fit_str hy
      refine ⟨a.toList == b.toList, ?_, by rw [str_inj]; simp⟩
      simp only [cellsV, hs, Bool.false_eq_true, if_false, List.headD_cons]
      exact run_equalIn_string w (D + d) t _ _ hu
    · injection h with h; subst h
      obtain ⟨x, rfl⟩ := List.length_eq_one_iff.1 lx
      obtain ⟨y, rfl⟩ := List.length_eq_one_iff.1 ly
      simp only [fits, Bool.and_true] at hx hy
      have hs : isStT P t = false := by unfold isStT; rw [hu]
      obtain ⟨a, rfl⟩ := fit_bool hx
      obtain ⟨b, rfl⟩ := fit_bool hy
      refine ⟨a == b, ?_, by simp⟩
      simp only [cellsV, hs, Bool.false_eq_true, if_false, List.headD_cons]
      exact run_equalIn_bool' w (D + d) t _ _ hu
    · rename_i fs
      split at h
      · cases h
      rename_i hst
      have hs : isStT P t = true := by unfold isStT; rw [hu]
      have hf : P.fieldsOf t = fs := by unfold Program.fieldsOf; rw [hu]
      simp only [cellsV, hs, if_true]
      rw [show D + (d + 1) = (D + d) + 1 by omega, run_equalIn_agg w (D + d) t _ _ (by rw [hf, hu]) (by simpa using hst), hf]
      have := run_eqF (D := D + d) (fun t ks xs ys h1 h2 h3 w => run_eq_flat D d t ks xs ys h1 h2 h3 w) xs ys fs.toList 0 ks h (Nat.zero_le _) (Nat.zero_le _) (by simpa using hx) (by simpa using hy) w
      simpa using this
    · cases h
theorem run_equal_flat {d : Nat} (hd : d ≤ 10000) {t : TypeId} {ks : List Ck} {xs ys : List Value} (h : cksT P d t = some ks) (hs : isStT P t = true) (hx : fits ks xs = true) (hy : fits ks ys = true) (w : World) : ∃ r : Bool, (Op.equal t (.agg xs.toArray) (.agg ys.toArray)).run P w = .ok r w ∧ (r = true ↔ xs = ys) := by
  have := run_eq_flat (10000 - d) d t ks xs ys h hx hy w
  rw [show 10000 - d + d = 10000 by omega] at this
  unfold Op.equal Op.maxDepth
  simpa only [cellsV, hs, if_true] using this

/-- Two structs are compared. -/
theorem s_eqS {B : World} {Γ : List HProp} {T : TypeId} {ks : List Ck} {xs ys : List Value} {p : Prop} [Decidable p] {x y : Operand} {k : Bool → K} (hp : xs = ys ↔ p) (h : HG B Γ (k (decide p))) (hc : cksT P 9 T = some ks := by kernel_rfl) (hs : isStT P T = true := by kernel_rfl) (hg : P.eqGuardType P.depth T = false := by kernel_rfl) (hx : fits ks xs = true := by rfl) (hy : fits ks ys = true := by rfl) :
    HG B Γ (Pu P (do eqGuard .eql T x y (.agg xs.toArray) (.agg ys.toArray); binOp .eql T (.agg xs.toArray) (.agg ys.toArray) : Sem Value) Value.bool k) := fun w hw => by
  refine ⟨decide p, fun w => ?_, h w hw⟩
  obtain ⟨r, hr, hiff⟩ := run_equal_flat (by omega) hc hs hx hy w
  have e : r = decide p := by rw [Bool.eq_iff_iff, hiff, hp]; simp
  subst e
  simp only [Op.equal, Op.maxDepth] at hr
  simp only [Sem.run_bind, run_eqGuard_agg w _ _ _ _ _ _ hg, Result.andThen, run_eql_struct, hr]
theorem s_neS {B : World} {Γ : List HProp} {T : TypeId} {ks : List Ck} {xs ys : List Value} {p : Prop} [Decidable p] {x y : Operand} {k : Bool → K} (hp : xs = ys ↔ p) (h : HG B Γ (k (!decide p))) (hc : cksT P 9 T = some ks := by kernel_rfl) (hs : isStT P T = true := by kernel_rfl) (hg : P.eqGuardType P.depth T = false := by kernel_rfl) (hx : fits ks xs = true := by rfl) (hy : fits ks ys = true := by rfl) :
    HG B Γ (Pu P (do eqGuard .neq T x y (.agg xs.toArray) (.agg ys.toArray); binOp .neq T (.agg xs.toArray) (.agg ys.toArray) : Sem Value) Value.bool k) := fun w hw => by
  refine ⟨!decide p, fun w => ?_, h w hw⟩
  obtain ⟨r, hr, hiff⟩ := run_equal_flat (by omega) hc hs hx hy w
  have e : r = decide p := by rw [Bool.eq_iff_iff, hiff, hp]; simp
  subst e
  simp only [Op.equal, Op.maxDepth] at hr
  simp only [Sem.run_bind, run_eqGuard_agg w _ _ _ _ _ _ hg, Result.andThen, run_neq_struct, hr]

/-! ### structs as keys -/
theorem run_chkF {D d : Nat} {e : Bool} (ih : ∀ t ks xs, cksT P d t = some ks → fits ks xs = true → ∀ w, (Instr.checkKey e D t (cellsV P t xs)).run P w = .ok () w) (xs : List Value) {body : Field → PUnit → Sem (ForInStep PUnit)}
    (hb : ∀ f v w, f.name ≠ "_" → (part f.type xs.toArray f.offset).run P w = .ok v w → (Instr.checkKey e D f.type v).run P w = .ok () w → (body f PUnit.unit).run P w = .ok (.yield PUnit.unit) w) :
    ∀ (fs : List Field) (off : Nat) (ks : List Ck), cksF P (cksT P d) fs off = some ks → off ≤ xs.length → fits ks (xs.drop off) = true → ∀ w, (forIn fs PUnit.unit body).run P w = .ok PUnit.unit w
  | [], off, ks, h, _, hx, w => by simp
  | f :: fs, off, ks, h, lx, hx, w => by
    unfold cksF at h
    split at h
    · cases h
    rename_i k1 hk1
    split at h
    · rename_i hc
      simp only [Bool.and_eq_true, bne_iff_ne, ne_eq, Nat.beq_eq] at hc
      obtain ⟨⟨hn, rfl⟩, hz⟩ := hc
      simp only [Option.map_eq_some_iff] at h
      obtain ⟨k2, hk2, rfl⟩ := h
      have ax := fits_app hx
      have cx := fits_len hx
      simp only [List.length_append, List.length_drop] at cx
      have h2 := run_chkF ih xs hb fs _ k2 hk2 (by omega) (by rw [← List.drop_drop]; exact ax.2) w
      have h3 := hb f _ w hn (run_part_flat hk1 hz (show f.offset + k1.length ≤ xs.length by omega) w) (ih f.type k1 _ hk1 ax.1 w)
      simp only [List.forIn_cons, Sem.run_bind, h3, Result.andThen]
      exact h2
    · cases h
theorem run_chk_flat (D : Nat) {e : Bool} : ∀ (d : Nat) (t : TypeId) (ks : List Ck) (xs : List Value), cksT P d t = some ks → fits ks xs = true → ∀ w, (Instr.checkKey e (D + d) t (cellsV P t xs)).run P w = .ok () w
  | 0, t, ks, xs, h, _, w => by cases h
  | d + 1, t, ks, xs, h, hx, w => by
    unfold cksT at h
    have lx := fits_len hx
    rw [show D + (d + 1) = (D + d) + 1 by omega]
    split at h <;> rename_i hu
    · injection h with h; subst h
      obtain ⟨x, rfl⟩ := List.length_eq_one_iff.1 lx
      have hs : isStT P t = false := by unfold isStT; rw [hu]
      simp only [cellsV, hs, Bool.false_eq_true, if_false, List.headD_cons]
      unfold Instr.checkKey
      simp [run_underlying hu, Result.andThen]
    · injection h with h; subst h
      obtain ⟨x, rfl⟩ := List.length_eq_one_iff.1 lx
      have hs : isStT P t = false := by unfold isStT; rw [hu]
      simp only [cellsV, hs, Bool.false_eq_true, if_false, List.headD_cons]
      unfold Instr.checkKey
      simp [run_underlying hu, Result.andThen]
    · injection h with h; subst h
      obtain ⟨x, rfl⟩ := List.length_eq_one_iff.1 lx
      have hs : isStT P t = false := by unfold isStT; rw [hu]
      simp only [cellsV, hs, Bool.false_eq_true, if_false, List.headD_cons]
      unfold Instr.checkKey
      simp [run_underlying hu, Result.andThen]
    · rename_i fs
      split at h
      · cases h
      have hs : isStT P t = true := by unfold isStT; rw [hu]
      simp only [cellsV, hs, if_true]
      unfold Instr.checkKey
      simp only [Sem.run_bind, run_underlying hu, Result.andThen]
      rw [← Array.forIn_toList]
      rw [run_chkF (D := D + d) (e := e) (fun t ks xs h1 h2 w => run_chk_flat D d t ks xs h1 h2 w) xs (fun f v w h1 h2 h3 => by rw [if_pos h1]; simp only [Sem.run_bind, h2, h3, Result.andThen, Sem.run_pure]) fs.toList 0 ks h (Nat.zero_le _) (by simpa using hx) w]
      simp
    · cases h

/-- A way to write keys that are structs. -/
structure KeyS {α : Type} (P : Program) (kt : TypeId) (cel : α → List Value) : Prop where
  st : isStT P kt = true
  ks : ∃ ks, cksT P 9 kt = some ks ∧ ∀ a, fits ks (cel a) = true
  inj : ∀ a b, cel a = cel b → a = b
  bits : ∀ a, Instr.sameBits 10000 (.agg (cel a).toArray) (.agg (cel a).toArray) = true
abbrev kyS {α : Type} (cel : α → List Value) (a : α) : Value := .agg (cel a).toArray
section
variable {α β : Type} [DecidableEq α] {B w : World} {Γ Δ : List HProp} {kt : TypeId} {cel : α → List Value} {cV : β → Value} {k : K}
theorem KeyS.chk (hE : KeyS P kt cel) (a : α) (e : Bool) (w : World) : (Instr.checkKey e 10000 kt (kyS cel a)).run P w = .ok () w := by
  obtain ⟨ks, h1, h2⟩ := hE.ks
  have := run_chk_flat 9991 (e := e) 9 kt ks (cel a) h1 (h2 a) w
  simpa only [cellsV, hE.st, if_true] using this
theorem KeyS.eq (hE : KeyS P kt cel) (a b : α) (w : World) : (Op.equal kt (kyS cel a) (kyS cel b)).run P w = .ok (decide (a = b)) w := by
  obtain ⟨ks, h1, h2⟩ := hE.ks
  obtain ⟨r, hr, hiff⟩ := run_equal_flat (d := 9) (by omega) h1 hE.st (h2 a) (h2 b) w
  have e : r = decide (a = b) := by rw [Bool.eq_iff_iff, hiff]; simp; exact ⟨hE.inj a b, fun h => by rw [h]⟩
  rw [← e]; exact hr
theorem run_ask (hE : KeyS P kt cel) (a : α) (w : World) : ∀ (l : List MapEntry) (m : List (α × β)) (i : Nat), l.map (fun e => (e.key, e.val)) = m.map (fun p => (kyS cel p.1, cV p.2)) →
    (mget a m = none ∧ (Instr.findAsking kt (kyS cel a) l i).run P w = .ok none w) ∨ ∃ j x, m[j]? = some (a, x) ∧ (∀ i, i < j → ∀ p, m[i]? = some p → p.1 ≠ a) ∧ (Instr.findAsking kt (kyS cel a) l i).run P w = .ok (some (i + j, cV x)) w
  | [], [], i, _ => .inl ⟨rfl, by simp [Instr.findAsking]⟩
  | [], _ :: _, i, h => by simp at h
  | _ :: _, [], i, h => by simp at h
  | e :: l, p :: m, i, h => by
    simp only [List.map_cons, List.cons.injEq, Prod.mk.injEq] at h
    obtain ⟨⟨e1, e2⟩, h⟩ := h
    unfold Instr.findAsking
    simp only [Sem.run_bind, e1, hE.eq, Result.andThen]
    by_cases hp : a = p.1
    · right
      refine ⟨0, p.2, by rw [hp]; rfl, fun i hi => absurd hi (by omega), ?_⟩
      simp [hp, e2]
    · rcases run_ask hE a w l m (i + 1) h with ⟨h1, h2⟩ | ⟨j, x, h1, h2, h3⟩
      · left
        refine ⟨?_, ?_⟩
        · unfold mget; rw [if_neg hp]; exact h1
        · simpa [hp] using h2
      · right
        refine ⟨j + 1, x, by simpa using h1, fun i' hi q hq => ?_, ?_⟩
        · cases i' with
          | zero => simp at hq; subst hq; exact fun e => hp e.symm
          | succ i' => exact h2 i' (by omega) q (by simpa using hq)
        · simp only [hp, decide_false, Bool.false_eq_true, if_false, h3]
          congr 3; omega
theorem run_findS (hE : KeyS P kt cel) {es : Array MapEntry} {m : List (α × β)} (hr : mrel (kyS cel) cV es m) (a : α) (w : World) :
    ((Instr.findKey kt (kyS cel a) es.toList).run P w = .ok none w ∧ mget a m = none ∧ (∀ v, mset a v m = m ++ [(a, v)]) ∧ mdel a m = m) ∨
    ∃ j x, (Instr.findKey kt (kyS cel a) es.toList).run P w = .ok (some (j, cV x)) w ∧ j < m.length ∧ m[j]? = some (a, x) ∧ mget a m = some x ∧ (∀ v, mset a v m = m.set j (a, v)) ∧ mdel a m = m.eraseIdx j := by
  obtain ⟨fs, hu⟩ : ∃ fs, P.underlying kt = some (.struct fs) := by
    have h1 := hE.st
    unfold isStT at h1
    split at h1
    · rename_i fs hu; exact ⟨fs, hu⟩
    · cases h1
  have hfk : (Instr.findKey kt (kyS cel a) es.toList).run P w = (Instr.findAsking kt (kyS cel a) es.toList 0).run P w := by
    unfold Instr.findKey
    simp only [Sem.run_bind, run_underlying hu, Result.andThen]
    cases es.toList with
    | nil => simp [Instr.findNow, Instr.findAsking]
    | cons e l => simp [Instr.findNow, Instr.sameNow]
  rw [hfk]
  rcases mfind a m with ⟨h1, h2, h3, h4⟩ | ⟨j, x, hj, h0, hb, h1, h2, h3⟩
  · rcases run_ask hE a w es.toList m 0 hr with ⟨_, g2⟩ | ⟨j, x, g1, _, _⟩
    · exact .inl ⟨g2, h1, h2, h3⟩
    · exact absurd rfl (h4 _ (List.mem_of_getElem? g1))
  · rcases run_ask hE a w es.toList m 0 hr with ⟨g1, _⟩ | ⟨j', x', g1, g2, g3⟩
    · rw [g1] at h1; cases h1
    · have hjj : j = j' := by
        rcases Nat.lt_trichotomy j j' with h | h | h
        · exact absurd rfl (g2 j h _ h0)
        · exact h
        · exact absurd rfl (hb j' h _ g1)
      subst hjj
      rw [h0] at g1
      simp only [Option.some.injEq, Prod.mk.injEq, true_and] at g1
      subst g1
      exact .inr ⟨j, x, by simpa using g3, hj, h0, h1, h2, h3⟩
theorem s_look1S {T E : TypeId} {b : Nat} {m : List (α × β)} {z : β} {a : α} {k : β → K} (hE : KeyS P kt cel) (hz : zeroT P E (cV z)) (h : HG B Γ (k ((mget a m).getD z))) (hT : P.underlying T = some (.map kt E) := by kernel_rfl) [p : Own b Γ (MapR (kyS cel) cV b m) Δ] :
    HG B Γ (Rd P (Instr.lookup T (.map (some b)) (kyS cel a) false) cV k) := fun w hw => by
  obtain ⟨es, c, ⟨hr, hst⟩, h1⟩ := MapR.opens (hw.perm p.perm)
  have hb := h1.block
  refine ⟨_, ?_, h w hw⟩
  unfold Instr.lookup
  simp only [Sem.run_bind, run_underlying hT, Result.andThen, MapKept.run_getObj_map hb, hE.chk, Sem.run_pure]
  rcases run_findS hE hr a w with ⟨g1, g2, _⟩ | ⟨j, x, g1, _, _, g2, _⟩
  · simp only [g1, Result.andThen, Sem.run_bind, zeroT_spec hz, Sem.run_pure, g2]; rfl
  · simp only [g1, Result.andThen, Sem.run_bind, Sem.run_pure, g2]; rfl
theorem s_look2S {T E : TypeId} {b : Nat} {m : List (α × β)} {z : β} {a : α} {k : β → Bool → K} (hE : KeyS P kt cel) (hz : zeroT P E (cV z)) (h : HG B Γ (k ((mget a m).getD z) (mget a m).isSome)) (hT : P.underlying T = some (.map kt E) := by kernel_rfl) [p : Own b Γ (MapR (kyS cel) cV b m) Δ] :
    HG B Γ (Rd2 P (Instr.lookup T (.map (some b)) (kyS cel a) true) (fun x y => .tuple #[cV x, .bool y]) k) := fun w hw => by
  obtain ⟨es, c, ⟨hr, hst⟩, h1⟩ := MapR.opens (hw.perm p.perm)
  have hb := h1.block
  refine ⟨_, _, ?_, h w hw⟩
  unfold Instr.lookup
  simp only [Sem.run_bind, run_underlying hT, Result.andThen, MapKept.run_getObj_map hb, hE.chk, Sem.run_pure]
  rcases run_findS hE hr a w with ⟨g1, g2, _⟩ | ⟨j, x, g1, _, _, g2, _⟩
  · simp only [g1, Result.andThen, Sem.run_bind, zeroT_spec hz, Sem.run_pure, g2]; rfl
  · simp only [g1, Result.andThen, Sem.run_bind, Sem.run_pure, g2]; rfl
theorem s_updS {T E : TypeId} {b : Nat} {m : List (α × β)} {a : α} {v : β} {x : Value} (hE : KeyS P kt cel) (hx : x = cV v) (h : HG B (MapR (kyS cel) cV b (mset a v m) :: Δ) k) (hT : P.underlying T = some (.map kt E) := by kernel_rfl) [p : Own b Γ (MapR (kyS cel) cV b m) Δ] :
    HG B Γ (DoU P (Instr.mapUpdate T (.map (some b)) (kyS cel a) x) k) := fun w hw => by
  subst hx
  obtain ⟨es, c, ⟨hr, hst⟩, h1⟩ := MapR.opens (hw.perm p.perm)
  have hb := h1.block
  have hlen : es.size = m.length := by have := congrArg List.length hr; simpa using this
  unfold Instr.mapUpdate DoU
  simp only [Sem.run_bind, run_underlying hT, Result.andThen, MapKept.run_getObj_map hb, hE.chk]
  rcases run_findS hE hr a w with ⟨g1, _, h2, _⟩ | ⟨j, x, g1, hj, h0, _, h2, _⟩
  · simp only [g1, Result.andThen]
    obtain ⟨e1, h3⟩ := h1.setMap (P := P) (es' := es.push { key := kyS cel a, val := cV v, born := c }) (c' := c + 1)
    refine ⟨_, _, e1, h _ (MapR.shuts ⟨?_, stamps_push hst _ _⟩ h3)⟩
    rw [h2]
    simp only [mrel, Array.toList_push, List.map_append, List.map_cons, List.map_nil]
    rw [show es.toList.map (fun e => (e.key, e.val)) = _ from hr]
  · have hes : ∃ e, es.toList[j]? = some e ∧ e.key = kyS cel a := by
      have := mrel_at hr j
      rw [h0] at this
      cases he : es.toList[j]? with
      | none => rw [he] at this; simp at this
      | some e =>
        rw [he] at this
        simp only [Option.map_some, Option.some.injEq, Prod.mk.injEq] at this
        exact ⟨e, rfl, this.1⟩
    obtain ⟨e, he, hek⟩ := hes
    have he2 : es[j]? = some e := by rw [← he, Array.getElem?_toList]
    simp only [g1, Result.andThen, Sem.run_bind, he2, Option.map_some, Option.getD_some, hek, Instr.keyThatStays, kyS, hE.bits, if_true, Sem.run_pure]
    obtain ⟨e1, h3⟩ := h1.setMap (P := P) (es' := es.modify j fun e => { e with key := kyS cel a, val := cV v }) (c' := c)
    refine ⟨_, _, e1, h _ (MapR.shuts ⟨?_, stamps_modify hst _ _ _⟩ h3)⟩
    rw [h2]
    simp only [mrel]
    apply List.ext_getElem?
    intro i
    have hi := mrel_at hr i
    simp only [List.getElem?_map, Array.getElem?_toList, Array.getElem?_modify] at hi ⊢
    by_cases hij : j = i
    · subst hij
      rw [List.getElem?_set_self hj, he2]
      simp
    · rw [List.getElem?_set_ne hij, if_neg hij]
      exact hi
theorem s_mdeleteS {T E t : TypeId} {b : Nat} {m : List (α × β)} {a : α} {k : Value → K} (hE : KeyS P kt cel) (h : HG B (MapR (kyS cel) cV b (mdel a m) :: Δ) (k (.tuple #[]))) (hT : P.underlying T = some (.map kt E) := by kernel_rfl) [p : Own b Γ (MapR (kyS cel) cV b m) Δ] :
    HG B Γ (Do P (Builtin.delete_ #[T, kt] t #[.map (some b), kyS cel a]) id k) := fun w hw => by
  obtain ⟨es, c, ⟨hr, hst⟩, h1⟩ := MapR.opens (hw.perm p.perm)
  have hb := h1.block
  have hlen : es.size = m.length := by have := congrArg List.length hr; simpa using this
  have e0 : #[T, kt][0]? = some T := rfl
  have e1 : #[Value.map (some b), kyS cel a][0]? = some (.map (some b)) := rfl
  have e2 : #[Value.map (some b), kyS cel a][1]? = some (kyS cel a) := rfl
  unfold Builtin.delete_ Do
  simp only [e0, e1, e2, Sem.run_bind, run_underlying hT, Result.andThen, MapKept.run_getObj_map hb, hE.chk]
  rcases run_findS hE hr a w with ⟨g1, _, _, h2⟩ | ⟨j, x, g1, hj, h0, _, _, h2⟩
  · simp only [g1, Result.andThen, Sem.run_bind]
    obtain ⟨e3, h3⟩ := h1.setMap (P := P) (es' := es) (c' := c)
    refine ⟨.tuple #[], _, ?_, h _ (MapR.shuts ⟨?_, hst⟩ h3)⟩
    · simp only [Sem.run_bind, e3, Result.andThen, Sem.run_pure]; rfl
    rw [h2]; exact hr
  · simp only [g1, Result.andThen, Sem.run_bind]
    obtain ⟨e3, h3⟩ := h1.setMap (P := P) (es' := es.eraseIdxIfInBounds j) (c' := c)
    refine ⟨.tuple #[], _, ?_, h _ (MapR.shuts ⟨?_, stamps_erase hst _⟩ h3)⟩
    · simp only [Sem.run_bind, e3, Result.andThen, Sem.run_pure]; rfl
    rw [h2]
    have hjs : j < es.size := by omega
    simp only [mrel, Array.eraseIdxIfInBounds, dif_pos hjs, Array.toList_eraseIdx]
    have mape : ∀ {α β : Type} (f : α → β) (l : List α) (i : Nat), (l.eraseIdx i).map f = (l.map f).eraseIdx i := by
      intro α β f l
      induction l with
      | nil => intro i; simp
      | cons x l ih => intro i; cases i <;> simp [ih]
    rw [mape, mape, show es.toList.map (fun e => (e.key, e.val)) = _ from hr]

/-! ### ranges over maps -/
theorem s_range {enc : α → Value} {T E : TypeId} {d : TypeDesc} {b : Nat} {m : List (α × β)} {k : Option Addr → K} (hT : mapIs P T d E) (h : ∀ r, HG B (MapIt enc cV b r m m none :: Δ) (k (some ⟨r, 0, none⟩))) [p : Own b Γ (MapR enc cV b m) Δ] :
    HG B Γ (Do P (Instr.range T (.map (some b))) Value.pointer k) := fun w hw => r_range hT (hw.perm p.perm) fun r w hw => h r w hw
class OwnI (r : Nat) (Γ : List HProp) (A : outParam HProp) (Δ : outParam (List HProp)) : Prop where perm : Γ.Perm (A :: Δ)
instance (priority := low) ownI_tail {r : Nat} {X A : HProp} {Γ Δ : List HProp} [h : OwnI r Γ A Δ] : OwnI r (X :: Γ) A (X :: Δ) := ⟨perm_tail h.perm⟩
instance (priority := high) ownI_it {α β : Type} [DecidableEq α] {enc : α → Value} {cV : β → Value} {b r : Nat} {m left : List (α × β)} {cur : Option (α × β)} {Γ : List HProp} : OwnI r (MapIt enc cV b r m left cur :: Γ) (MapIt enc cV b r m left cur) Γ := ⟨.refl _⟩
theorem s_extr {α : Type} {vs : List Value} {i : Nat} {c : α → Value} {v : Value} {x : α} {k : α → K} (h : HG B Γ (k x)) [n : NthV vs i v] [e : Cv c v x] : HG B Γ (Ext (.tuple vs.toArray) i c k) := fun w hw => ⟨_, x, rfl, by have := n.h; rw [nth_eq] at this; rw [e.h] at this; simpa using this, h w hw⟩
instance nx_ext {α : Type} {vs : List Value} {i : Nat} {c : α → Value} {v : Value} {x : α} {k : α → K} [n : NthV vs i v] [e : Cv c v x] : Nx B Γ (Ext (.tuple vs.toArray) i c k) Γ (k x) := ⟨fun h => s_extr h⟩
theorem s_next {enc : α → Value} {b r : Nat} {m left : List (α × β)} {cur : Option (α × β)} {k : Value → K} (h0 : left = [] → HG B (MapR enc cV b m :: Δ) (k (.tuple #[.bool false])))
    (h1 : ∀ l1 p l2, left = l1 ++ p :: l2 → p ∈ m → HG B (MapIt enc cV b r m (l1 ++ l2) (some p) :: Δ) (k (.tuple #[.bool true, enc p.1, cV p.2]))) [p : OwnI r Γ (MapIt enc cV b r m left cur) Δ] :
    HG B Γ (Do P (Instr.next (.pointer (some ⟨r, 0, none⟩)) false 0) id k) := fun w hw => r_next (hw.perm p.perm) (fun h w hw => h0 h w hw) fun l1 q l2 w e hq hw => h1 l1 q l2 e hq w hw
theorem s_entry {enc : α → Value} {b r : Nat} {m left : List (α × β)} {q : α × β} {k : Value → K} (h : HG B Γ (k (.tuple #[enc q.1, cV q.2]))) [p : OwnI r Γ (MapIt enc cV b r m left (some q)) Δ] :
    HG B Γ (Do P (Instr.entry (.pointer (some ⟨r, 0, none⟩))) id k) := fun w hw => r_entry (hw.perm p.perm) (h w hw)
theorem s_itEnd {enc : α → Value} {b r : Nat} {m left : List (α × β)} {cur : Option (α × β)} (h : HG B (MapR enc cV b m :: Δ) k) [p : OwnI r Γ (MapIt enc cV b r m left cur) Δ] : HG B Γ k := fun w hw => h w (MapIt.ends (hw.perm p.perm))
end
end
end Go.Sep
/- Tags. -/
namespace Go.Proofs.YtihncgfghpbhdaaGreat
open Go Go.Sep
set_option linter.unusedSimpArgs false
set_option linter.unusedVariables false
structure TagM where
  node : Int
  epoch : Int
  seq : Int
  tr : Int
deriving DecidableEq
abbrev tagF (t : TagM) : List Value := [.int .i64 t.node, .int .u64 t.epoch, .int .u64 t.seq, .int .i64 t.tr]
theorem tagF_len (c : TagM) : (tagF c).length = 4 := rfl
theorem tagF_inj {a b : TagM} : tagF a = tagF b ↔ a = b := by
  cases a; cases b; simp [tagF]
abbrev tagK : List Ck := [.int .i64, .int .u64, .int .u64, .int .i64]
end Go.Proofs.YtihncgfghpbhdaaGreat
/- The library's IndexFunc, DeleteFunc and their kin, whatever the elements. Holds for every program. -/
namespace Go.Sep
open Go Go.RowKit
set_option linter.unusedSimpArgs false
set_option linter.unusedVariables false

/-- An element is read. -/
abbrev accN (esz : Nat) (s : Sl) (i : Int) (k : Value → K) : K := Idx s i esz fun t => LdN t esz fun a => k (.agg a)
abbrev acc1 {α : Type} (c : α → Value) (s : Sl) (i : Int) (k : Value → K) : K := Idx s i 1 fun t => Ld t c fun a => k (c a)
/-- slices.IndexFunc, as it is printed. -/
def idxFK (P : Program) (acc : Sl → Int → (Value → K) → K) (s : Sl) (fv : Value) (Q : Int → K) : K :=
  LoopK (α := Int) (fun X x =>
    Ite (decide (x < (s.n : Int)))
      (acc s x fun v =>
      CallV P fv [v] <| Ans1 (fun (t : Bool) => Value.bool t) fun b =>
      Ite b
        (Q x)
        (Ar (IntKind.wrap .i64 (x + 1)) fun t =>
        X t))
      (Q (-1))) 0
def findG {γ α : Type} (p : γ → α → Bool) (st : γ → α → γ) : γ → List α → γ × Option Nat
  | g, [] => (g, none)
  | g, x :: L => if p g x then (st g x, some 0) else ((findG p st (st g x) L).1, (findG p st (st g x) L).2.map (· + 1))
def idxI : Option Nat → Int
  | none => -1
  | some i => i
def delG {γ α : Type} (p : γ → α → Bool) (st : γ → α → γ) : γ → List α → γ × List α
  | g, [] => (g, [])
  | g, x :: L => ((delG p st (st g x) L).1, if p g x then (delG p st (st g x) L).2 else x :: (delG p st (st g x) L).2)
section
variable {P : Program} {B : World} {Γ Δ : List HProp} {α γ : Type}
theorem delG_cons {p : γ → α → Bool} {st : γ → α → γ} {g : γ} {x : α} {L : List α} : delG p st g (x :: L) = ((delG p st (st g x) L).1, if p g x then (delG p st (st g x) L).2 else x :: (delG p st (st g x) L).2) := rfl
theorem findG_cons {p : γ → α → Bool} {st : γ → α → γ} {g : γ} {x : α} {L : List α} : findG p st g (x :: L) = if p g x then (st g x, some 0) else ((findG p st (st g x) L).1, (findG p st (st g x) L).2.map (· + 1)) := rfl
/-- A whole block is read. -/
theorem s_ldW {b n : Nat} {l : List Value} {T : TypeId} {fz : Nat × Nat} {k : Array Value → K} (h : HG B Γ (k l.toArray)) (hl : l.length = n) [p : Own b Γ (blk b (.cells l.toArray T fz)) Δ] : HG B Γ (LdN ⟨b, 0, none⟩ n k) :=
  s_ldN (b := b) (off := 0) (l' := l) h (by rw [List.drop_zero, List.take_of_length_le (Nat.le_of_eq hl)]) hl
theorem s_idxF {R : γ → List HProp} {acc : Sl → Int → (Value → K) → K} {s : Sl} {fv : Value} {vV : α → Value} {Q : Int → K} {L : List α} (p : γ → α → Bool) (st : γ → α → γ) (g0 : γ) (I : γ → List α → Prop) (hI : I g0 L) (hIs : ∀ g x C, I g (x :: C) → I (st g x) C) (hn : s.n = L.length) (hL : L.length < 1000000000)
    (hacc : ∀ g (i : Nat) x k, L[i]? = some x → HG B (R g) (k (vV x)) → HG B (R g) (acc s (i : Int) k))
    (hf : ∀ g x C (q : Bool → K), x ∈ L → I g (x :: C) → HG B (R (st g x)) (q (p g x)) → HG B (R g) (CallV P fv [vV x] (Ans1 (fun (t : Bool) => Value.bool t) q)))
    (h : HG B (R (findG p st g0 L).1) (Q (idxI (findG p st g0 L).2))) : HG B (R g0) (idxFK P acc s fv Q) := by
  unfold idxFK
  refine s_loop (α := Int) (ι := Nat × γ) (fun x i => x = (i.1 : Int) ∧ i.1 ≤ L.length ∧ I i.2 (L.drop i.1) ∧ findG p st g0 L = ((findG p st i.2 (L.drop i.1)).1, (findG p st i.2 (L.drop i.1)).2.map (· + i.1)))
    (fun x i => R i.2) (fun x i => L.length - i.1) (0, g0) ⟨rfl, Nat.zero_le _, hI, by simp⟩ ?_
  rintro k' _ ⟨i, g⟩ ⟨rfl, hi, hIg, he⟩ hk'
  simp only at hi hIg he hk' ⊢
  refine s_ite (fun hb => ?_) fun hb => ?_
  · have hil : i < L.length := by simp only [decide_eq_true_eq] at hb; omega
    have hge : L[i]? = some L[i] := List.getElem?_eq_getElem hil
    rw [List.drop_eq_getElem_cons hil] at he hIg
    have hm : L[i] ∈ L := List.getElem_mem hil
    generalize L[i] = x at hge he hm hIg
    refine hacc g i x _ hge ?_
    refine hf g x _ _ hm hIg ?_
    rw [findG_cons] at he
    refine s_ite (fun hp => ?_) fun hp => ?_
    · rw [if_pos hp] at he
      rw [he] at h
      simpa [idxI] using h
    · rw [if_neg (by simp [hp])] at he
      refine s_ai ?_
      refine hk' _ (i + 1, st g x) ⟨by simp, hil, hIs _ _ _ hIg, ?_⟩ (by simp only; omega)
      simp only
      rw [he, Option.map_map]
      congr 2
      funext y
      simp only [Function.comp]; omega
  · have hil : i = L.length := by simp only [decide_eq_false_iff_not] at hb; omega
    rw [hil, List.drop_length] at he
    rw [he] at h
    simpa [findG, idxI] using h
theorem findG_pure (p : α → Bool) : ∀ L : List α, (findG (fun (_ : Unit) x => p x) (fun _ _ => ()) () L).2 = L.findIdx? p
  | [] => rfl
  | x :: L => by
    rw [findG_cons, List.findIdx?_cons]
    split
    · rfl
    · rw [findG_pure p L]
theorem delG_pure (p : α → Bool) : ∀ L : List α, (delG (fun (_ : Unit) x => p x) (fun _ _ => ()) () L).2 = L.filter fun x => !p x
  | [] => rfl
  | x :: L => by
    rw [delG_cons, delG_pure p L, List.filter_cons]
    cases p x <;> simp
/-- With a predicate that leaves the world. -/
theorem s_idxFp {acc : Sl → Int → (Value → K) → K} {s : Sl} {fv : Value} {vV : α → Value} {Q : Int → K} {L : List α} (p : α → Bool) (hn : s.n = L.length) (hL : L.length < 1000000000)
    (hacc : ∀ (i : Nat) x k, L[i]? = some x → HG B Γ (k (vV x)) → HG B Γ (acc s (i : Int) k))
    (hf : ∀ x (q : Bool → K), x ∈ L → HG B Γ (q (p x)) → HG B Γ (CallV P fv [vV x] (Ans1 (fun (t : Bool) => Value.bool t) q)))
    (h : HG B Γ (Q (idxI (L.findIdx? p)))) : HG B Γ (idxFK P acc s fv Q) :=
  s_idxF (R := fun _ => Γ) (fun (_ : Unit) x => p x) (fun _ _ => ()) () (fun _ _ => True) trivial (fun _ _ _ _ => trivial) hn hL (fun _ => hacc) (fun _ x _ q hx _ => hf x q hx) (by rw [findG_pure]; exact h)
theorem idxI_nonneg (o : Option Nat) : decide ((0 : Int) ≤ idxI o) = o.isSome := by
  cases o <;> simp [idxI]
theorem any_idx (p : α → Bool) (L : List α) : (L.findIdx? p).isSome = L.any p := by simp [List.findIdx?_isSome]
/-- Elements of one's own, and of others. -/
theorem acc_own {f : α → List Value} {esz E : Nat} {s : Sl} {L : List α} {i : Nat} {x : α} {k : Value → K} (hf : ∀ x, (f x).length = esz) (he : 0 < esz) (hx : L[i]? = some x) (h : HG B Γ (k (.agg (f x).toArray))) [o : OwnS s Γ (SlC E esz s (L.flatMap f)) Δ] : HG B Γ (accN esz s (i : Int) k) :=
  s_idxN f hf (fun w hw => (own_rd hw (p := o)).1) hx h rfl he
theorem acc_rd {f : α → List Value} {esz : Nat} {s : Sl} {L : List α} {i : Nat} {x : α} {k : Value → K} (hf : ∀ x, (f x).length = esz) (he : 0 < esz) (hr : ∀ w, Holds B Γ w → RdC w s esz (L.flatMap f)) (hx : L[i]? = some x) (h : HG B Γ (k (.agg (f x).toArray))) : HG B Γ (accN esz s (i : Int) k) :=
  s_idxN f hf hr hx h rfl he
theorem acc1_own {β : Type} {c : β → Value} {E : Nat} {s : Sl} {L : List β} {i : Nat} {x : β} {k : Value → K} (hx : L[i]? = some x) (h : HG B Γ (k (c x))) [o : OwnS s Γ (SlC E 1 s (L.map c)) Δ] : HG B Γ (acc1 c s (i : Int) k) :=
  s_idx1 (fun w hw => (own_rd hw (p := o)).1) hx h
theorem acc1_rd {β : Type} {c : β → Value} {s : Sl} {L : List β} {i : Nat} {x : β} {k : Value → K} (hr : ∀ w, Holds B Γ w → RdC w s 1 (L.map c)) (hx : L[i]? = some x) (h : HG B Γ (k (c x))) : HG B Γ (acc1 c s (i : Int) k) :=
  s_idx1 hr hx h

/-! ### DeleteFunc -/
/-- slices.DeleteFunc over elements of some cells, as it is printed; idx is its IndexFunc. -/
def delFN (P : Program) (idx : Sl → Value → (Int → K) → K) (E T t esz : Nat) (zs : List Value) (s : Sl) (fv : Value) (Q : Sl → K) : K :=
  idx s fv fun t10 =>
  Ite (decide (t10 = (-1)))
    (Q s)
    (Ar (IntKind.wrap .i64 (t10 + 1)) fun t15 =>
    LoopK (α := Int × Int) (fun X x =>
      Ite (decide (x.2 < (s.n : Int)))
        (Idx s x.2 esz fun t24 =>
        LdN t24 esz fun t25 =>
        New E zs.toArray fun v7 =>
        StN v7 esz t25 <|
        LdN v7 esz fun t27 =>
        CallV P fv [(.agg t27)] <| Ans1 (fun (t28 : Bool) => Value.bool t28) fun t28 =>
        Ite (!t28)
          (LdN v7 esz fun t32 =>
          Idx s x.1 esz fun t33 =>
          StN t33 esz t32 <|
          Ar (IntKind.wrap .i64 (x.1 + 1)) fun t35 =>
          Ar (IntKind.wrap .i64 (x.2 + 1)) fun t21 =>
          X (t35, t21))
          (Ar (IntKind.wrap .i64 (x.2 + 1)) fun t21 =>
          X (x.1, t21)))
        (Slc s x.1 (s.n : Int) (s.c : Int) esz fun t38 =>
        Do P (Builtin.clear_ #[T] t #[(Sl.val t38)]) id fun _ =>
        Slc s 0 x.1 (s.c : Int) esz fun t41 =>
        Q t41)) (t10, t15))
def delF1 {β : Type} (P : Program) (idx : Sl → Value → (Int → K) → K) (T t : Nat) (c : β → Value) (s : Sl) (fv : Value) (Q : Sl → K) : K :=
  idx s fv fun t10 =>
  Ite (decide (t10 = (-1)))
    (Q s)
    (Ar (IntKind.wrap .i64 (t10 + 1)) fun t15 =>
    LoopK (α := Int × Int) (fun X x =>
      Ite (decide (x.2 < (s.n : Int)))
        (Idx s x.2 1 fun t24 =>
        Ld t24 c fun t25 =>
        CallV P fv [c t25] <| Ans1 (fun (t28 : Bool) => Value.bool t28) fun t28 =>
        Ite (!t28)
          (Idx s x.1 1 fun t33 =>
          St t33 (c t25) <|
          Ar (IntKind.wrap .i64 (x.1 + 1)) fun t35 =>
          Ar (IntKind.wrap .i64 (x.2 + 1)) fun t21 =>
          X (t35, t21))
          (Ar (IntKind.wrap .i64 (x.2 + 1)) fun t21 =>
          X (x.1, t21)))
        (Slc s x.1 (s.n : Int) (s.c : Int) 1 fun t38 =>
        Do P (Builtin.clear_ #[T] t #[(Sl.val t38)]) id fun _ =>
        Slc s 0 x.1 (s.c : Int) 1 fun t41 =>
        Q t41)) (t10, t15))
/-- Where the first one goes. -/
theorem findG_del (p : γ → α → Bool) (st : γ → α → γ) {I : γ → List α → Prop} (hIs : ∀ g x C, I g (x :: C) → I (st g x) C) : ∀ (g : γ) (L : List α), I g L → ((findG p st g L).2 = none ∧ delG p st g L = ((findG p st g L).1, L)) ∨
    ∃ A x C, L = A ++ x :: C ∧ (findG p st g L).2 = some A.length ∧ I (findG p st g L).1 C ∧ delG p st g L = ((delG p st (findG p st g L).1 C).1, A ++ (delG p st (findG p st g L).1 C).2)
  | g, [], _ => .inl ⟨rfl, rfl⟩
  | g, x :: L, hI => by
    rw [findG_cons, delG_cons]
    by_cases hp : p g x = true
    · right
      exact ⟨[], x, L, rfl, by simp [hp], by simpa [hp] using hIs _ _ _ hI, by simp [hp]⟩
    · rcases findG_del p st hIs (st g x) L (hIs _ _ _ hI) with ⟨h1, h2⟩ | ⟨A, y, C, rfl, h2, h4, h3⟩
      · left
        simp only [hp, Bool.false_eq_true, if_false, h1, h2, Option.map_none, and_self]
      · right
        refine ⟨x :: A, y, C, rfl, ?_, ?_, ?_⟩
        · simp only [hp, Bool.false_eq_true, if_false, h2, Option.map_some, List.length_cons]
        · simpa only [hp, Bool.false_eq_true, if_false] using h4
        · simp only [hp, Bool.false_eq_true, if_false, h3, List.cons_append]
theorem set_take {M : List α} {i : Nat} {x : α} (hi : i < M.length) : (M.set i x).take (i + 1) = M.take i ++ [x] := by
  rw [List.take_succ_eq_append_getElem (by simpa using hi), List.take_set_of_le (Nat.le_refl _), List.getElem_set_self]
theorem set_drop {M : List α} {i j : Nat} {x : α} (hij : i < j) : (M.set i x).drop j = M.drop j := by rw [List.drop_set_of_lt hij]
theorem flatMap_set {f : α → List Value} {esz E : Nat} {s : Sl} {M : List α} {i : Nat} {x : α} {k : K} (hf : ∀ x, (f x).length = esz) (hfl : (f x).all flatV = true) (hi : i < M.length) (h : HG B (SlC E esz s ((M.set i x).flatMap f) :: Δ) k) [o : OwnS s Γ (SlC E esz s (M.flatMap f)) Δ] : HG B Γ (StN (elA s i esz) esz (f x).toArray k) := by
  have e1 : M = M.take i ++ M[i] :: M.drop (i + 1) := by rw [← List.drop_eq_getElem_cons hi, List.take_append_drop]
  have e2 : M.set i x = M.take i ++ x :: M.drop (i + 1) := by rw [List.set_eq_take_append_cons_drop, if_pos hi]
  have hl : (M.take i).length = i := by rw [List.length_take]; omega
  rw [e2] at h
  refine fun w hw => ?_
  have hw2 := hw.perm o.perm
  rw [e1] at hw2
  rw [show elA s i esz = elA s (M.take i).length esz by rw [hl]]
  refine hg hw2 ?_
  rw [← add0 (elA s (M.take i).length esz)]
  refine s_stEN (s := s) (us := f x) ?_ (hf x) ?_ hfl
  · have e : layAt ((M.take i ++ M[i] :: M.drop (i + 1)).flatMap f) ((M.take i).length * esz + 0) (f x) = (M.take i ++ x :: M.drop (i + 1)).flatMap f := by
      have e1 : (M.take i ++ M[i] :: M.drop (i + 1)).flatMap f = (M.take i).flatMap f ++ (f M[i] ++ (M.drop (i + 1)).flatMap f) := by simp only [List.flatMap_append, List.flatMap_cons]
      have e2 : (M.take i ++ x :: M.drop (i + 1)).flatMap f = (M.take i).flatMap f ++ (f x ++ (M.drop (i + 1)).flatMap f) := by simp only [List.flatMap_append, List.flatMap_cons]
      rw [e1, e2, layAt_mid (by simp [flatMap_len f esz hf]) (by rw [hf, hf])]
    rw [e]; exact h
  · have e3 : ((M.take i ++ M[i] :: M.drop (i + 1)).flatMap f).length = ((M.take i).length + ((M.drop (i + 1)).length + 1)) * esz := by rw [flatMap_len f esz hf]; simp only [List.length_append, List.length_cons]
    rw [e3, Nat.add_mul, Nat.add_mul]; omega
theorem flatMap_tk {f : α → List Value} {esz : Nat} (hf : ∀ x, (f x).length = esz) : ∀ (L : List α) (i : Nat), (L.flatMap f).take (i * esz) = (L.take i).flatMap f
  | L, 0 => by simp
  | [], i + 1 => by simp
  | x :: L, i + 1 => by
    rw [List.flatMap_cons, List.take_succ_cons, List.flatMap_cons, ← flatMap_tk hf L i, Nat.add_mul, Nat.one_mul, Nat.add_comm, ← hf x, List.take_length_add_append]
/-- DeleteFunc. -/
theorem s_delFN {R : γ → List HProp} {idx : Sl → Value → (Int → K) → K} {E T t esz : Nat} {zs : List Value} {s : Sl} {fv : Value} {Q : Sl → K} {f : α → List Value} {L : List α} (p : γ → α → Bool) (st : γ → α → γ) (g0 : γ) (I : γ → List α → Prop) (hI : I g0 L) (hIs : ∀ g x C, I g (x :: C) → I (st g x) C)
    (hidx : ∀ s fv Q w, idxFK P (accN esz) s fv Q w → idx s fv Q w) (hf : ∀ x, (f x).length = esz) (he : 0 < esz) (hfl : ∀ x, (f x).all flatV = true) (hz : zs.length = esz) (hL : L.length < 1000000000)
    (hc : ∀ Ξ g x C (q : Bool → K), x ∈ L → I g (x :: C) → HG B (Ξ :: R (st g x)) (q (p g x)) → HG B (Ξ :: R g) (CallV P fv [(.agg (f x).toArray)] (Ans1 (fun (t : Bool) => Value.bool t) q)))
    (h : ∀ s', s'.n = (delG p st g0 L).2.length → HG B (SlC E esz s' ((delG p st g0 L).2.flatMap f) :: R (delG p st g0 L).1) (Q s')) (hT : appT P T T E esz = true := by kernel_rfl) :
    HG B (SlC E esz s (L.flatMap f) :: R g0) (delFN P idx E T t esz zs s fv Q) := by
  unfold delFN
  refine s_cap s fun a1 a2 a3 a4 => ?_
  rw [flatMap_len f esz hf] at a1
  have hn : s.n = L.length := (Nat.eq_of_mul_eq_mul_right he a1).symm
  refine fun w hw => hidx _ _ _ _ ?_
  refine hg hw ?_
  clear hw w
  refine s_idxF (R := fun g => SlC E esz s (L.flatMap f) :: R g) (vV := fun x => .agg (f x).toArray) p st g0 I hI hIs hn hL (fun g i x k hx hk => acc_own hf he hx hk) (fun g x C q hx hI hq => hc _ g x C q hx hI hq) ?_
  rcases findG_del p st hIs g0 L hI with ⟨h1, h2⟩ | ⟨A, x, C, rfl, h1, hI1, h2⟩
  · rw [h1]
    rw [h2] at h
    refine s_t ?_ (by simp [idxI])
    exact h s hn
  rw [h1]
  have hlen : (A ++ x :: C).length = A.length + (C.length + 1) := List.length_append
  generalize (findG p st g0 (A ++ x :: C)).1 = g1 at *
  refine s_f ?_ (by simp [idxI])
  simp only [idxI]
  refine s_ai ?_
  refine s_loop (α := Int × Int) (ι := Nat × Nat × List α × γ) (fun y i => y.1 = (i.1 : Int) ∧ y.2 = (i.2.1 : Int) ∧ i.1 < i.2.1 ∧ i.2.1 ≤ (A ++ x :: C).length ∧ i.2.2.1.length = (A ++ x :: C).length ∧ i.2.2.1.drop i.2.1 = (A ++ x :: C).drop i.2.1 ∧ I i.2.2.2 ((A ++ x :: C).drop i.2.1) ∧ delG p st g0 (A ++ x :: C) = ((delG p st i.2.2.2 ((A ++ x :: C).drop i.2.1)).1, i.2.2.1.take i.1 ++ (delG p st i.2.2.2 ((A ++ x :: C).drop i.2.1)).2))
    (fun y i => SlC E esz s (i.2.2.1.flatMap f) :: R i.2.2.2) (fun y i => (A ++ x :: C).length - i.2.1) (A.length, A.length + 1, A ++ x :: C, g1) ⟨rfl, by simp, by simp, by simp, rfl, rfl, ?_, ?_⟩ ?_
  · simp only
    have e : (A ++ x :: C).drop (A.length + 1) = C := by rw [show A ++ x :: C = (A ++ [x]) ++ C by simp]; exact List.drop_left' (by simp)
    rw [e]; exact hI1
  · simp only
    have e : (A ++ x :: C).drop (A.length + 1) = C := by rw [show A ++ x :: C = (A ++ [x]) ++ C by simp]; exact List.drop_left' (by simp)
    rw [e, List.take_left, h2]
  rintro k' ⟨_, _⟩ ⟨i, j, M, g⟩ ⟨rfl, rfl, hij, hj, hM, hd, hIg, hdel⟩ hk'
  simp only at hij hj hM hd hIg hdel hk' ⊢
  refine s_ite (fun hb => ?_) fun hb => ?_
  · have hjl : j < (A ++ x :: C).length := by simp only [decide_eq_true_eq] at hb; omega
    have hMj : M[j]? = some (A ++ x :: C)[j] := by
      have := congrArg (·[0]?) hd
      simp only [List.getElem?_drop, Nat.add_zero] at this
      rw [this, List.getElem?_eq_getElem hjl]
    have hmem : (A ++ x :: C)[j] ∈ A ++ x :: C := List.getElem_mem hjl
    have hdrop := List.drop_eq_getElem_cons hjl
    rw [hdrop] at hdel hIg
    generalize (A ++ x :: C)[j] = y at hMj hmem hdel hdrop hIg
    rw [delG_cons] at hdel
    refine s_idxN f hf (fun w hw => (own_rd (s := s) hw).1) hMj ?_
    refine s_new fun v7 => ?_
    refine s_stN (b := v7) ?_ hz (hf y) (hfl y)
    refine s_ldW (b := v7) ?_ (hf y)
    refine s_unflat (Δ := [blk v7 (.cells (f y).toArray E (0, 0)), SlC E esz s (M.flatMap f)]) ?_
    refine hc _ g y _ _ hmem hIg ?_
    refine s_flat ?_
    show HG B (blk v7 (.cells (f y).toArray E (0, 0)) :: SlC E esz s (M.flatMap f) :: R (st g y)) _
    refine s_ite (fun hp => ?_) fun hp => ?_
    · have hp' : p g y = false := by simpa using hp
      rw [hp'] at hdel
      simp only [Bool.false_eq_true, if_false] at hdel
      refine s_ldW (b := v7) ?_ (hf y)
      refine s_idx (s := s) (i := i) ?_
      refine flatMap_set (s := s) hf (hfl y) (by omega) ?_
      refine s_ai ?_
      refine s_ai ?_
      refine s_end (hk' _ (i + 1, j + 1, M.set i y, st g y) ⟨by simp, by simp, by simp only; omega, hjl, by simpa using hM, ?_, hIs _ _ _ hIg, ?_⟩ (by simp only; omega))
      · simp only
        rw [set_drop (by omega), ← List.drop_drop, ← List.drop_drop, hd]
      · simp only
        rw [set_take (by omega), hdel]
        simp
    · have hp' : p g y = true := by simpa using hp
      rw [hp'] at hdel
      simp only [if_true] at hdel
      refine s_ai ?_
      refine s_end (hk' _ (i, j + 1, M, st g y) ⟨rfl, by simp, by simp only; omega, hjl, hM, ?_, hIs _ _ _ hIg, hdel⟩ (by simp only; omega))
      simp only
      rw [← List.drop_drop, ← List.drop_drop, hd]
  · have hjl : j = (A ++ x :: C).length := by simp only [decide_eq_false_iff_not] at hb; omega
    rw [hjl, List.drop_length] at hdel
    simp only [delG, List.append_nil] at hdel
    rw [hdel] at h
    refine s_slc (lo := i) (hi := s.n) (mx := s.c) ?_
    refine s_shrink (s := s) (m := i) (c' := s.c) (by omega) (by omega) (Nat.le_refl _) ?_
    rw [flatMap_tk hf]
    refine s_clear (s := ⟨s.a, i, s.c⟩) (l := i) (q := s.n - i) (m := s.c) rfl (Nat.le_refl _) (by simp only; omega) (by omega) ?_ (hT := hT)
    refine s_slc (lo := 0) (hi := i) (mx := s.c) ?_
    rw [cut0 a3]
    exact h ⟨s.a, i, s.c⟩ (by simp; omega)
theorem s_delF1 {β : Type} {R : γ → List HProp} {idx : Sl → Value → (Int → K) → K} {E T t : Nat} {c : β → Value} {s : Sl} {fv : Value} {Q : Sl → K} {L : List β} (p : γ → β → Bool) (st : γ → β → γ) (g0 : γ) (I : γ → List β → Prop) (hI : I g0 L) (hIs : ∀ g x C, I g (x :: C) → I (st g x) C)
    (hidx : ∀ s fv Q w, idxFK P (acc1 c) s fv Q w → idx s fv Q w) (hfl : ∀ x, flatV (c x) = true) (hL : L.length < 1000000000)
    (hc : ∀ Ξ g x C (q : Bool → K), x ∈ L → I g (x :: C) → HG B (Ξ :: R (st g x)) (q (p g x)) → HG B (Ξ :: R g) (CallV P fv [c x] (Ans1 (fun (t : Bool) => Value.bool t) q)))
    (h : ∀ s', s'.n = (delG p st g0 L).2.length → HG B (SlC E 1 s' ((delG p st g0 L).2.map c) :: R (delG p st g0 L).1) (Q s')) (hT : appT P T T E 1 = true := by kernel_rfl) :
    HG B (SlC E 1 s (L.map c) :: R g0) (delF1 P idx T t c s fv Q) := by
  unfold delF1
  refine s_cap s fun a1 a2 a3 a4 => ?_
  rw [List.length_map, Nat.mul_one] at a1
  have hn : s.n = L.length := a1.symm
  refine fun w hw => hidx _ _ _ _ ?_
  refine hg hw ?_
  clear hw w
  refine s_idxF (R := fun g => SlC E 1 s (L.map c) :: R g) (vV := c) p st g0 I hI hIs hn hL (fun g i x k hx hk => acc1_own hx hk) (fun g x C q hx hI hq => hc _ g x C q hx hI hq) ?_
  rcases findG_del p st hIs g0 L hI with ⟨h1, h2⟩ | ⟨A, x, C, rfl, h1, hI1, h2⟩
  · rw [h1]
    rw [h2] at h
    refine s_t ?_ (by simp [idxI])
    exact h s hn
  rw [h1]
  have hlen : (A ++ x :: C).length = A.length + (C.length + 1) := List.length_append
  generalize (findG p st g0 (A ++ x :: C)).1 = g1 at *
  refine s_f ?_ (by simp [idxI])
  simp only [idxI]
  refine s_ai ?_
  refine s_loop (α := Int × Int) (ι := Nat × Nat × List β × γ) (fun y i => y.1 = (i.1 : Int) ∧ y.2 = (i.2.1 : Int) ∧ i.1 < i.2.1 ∧ i.2.1 ≤ (A ++ x :: C).length ∧ i.2.2.1.length = (A ++ x :: C).length ∧ i.2.2.1.drop i.2.1 = (A ++ x :: C).drop i.2.1 ∧ I i.2.2.2 ((A ++ x :: C).drop i.2.1) ∧ delG p st g0 (A ++ x :: C) = ((delG p st i.2.2.2 ((A ++ x :: C).drop i.2.1)).1, i.2.2.1.take i.1 ++ (delG p st i.2.2.2 ((A ++ x :: C).drop i.2.1)).2))
    (fun y i => SlC E 1 s (i.2.2.1.map c) :: R i.2.2.2) (fun y i => (A ++ x :: C).length - i.2.1) (A.length, A.length + 1, A ++ x :: C, g1) ⟨rfl, by simp, by simp, by simp, rfl, rfl, ?_, ?_⟩ ?_
  · simp only
    have e : (A ++ x :: C).drop (A.length + 1) = C := by rw [show A ++ x :: C = (A ++ [x]) ++ C by simp]; exact List.drop_left' (by simp)
    rw [e]; exact hI1
  · simp only
    have e : (A ++ x :: C).drop (A.length + 1) = C := by rw [show A ++ x :: C = (A ++ [x]) ++ C by simp]; exact List.drop_left' (by simp)
    rw [e, List.take_left, h2]
  rintro k' ⟨_, _⟩ ⟨i, j, M, g⟩ ⟨rfl, rfl, hij, hj, hM, hd, hIg, hdel⟩ hk'
  simp only at hij hj hM hd hIg hdel hk' ⊢
  refine s_ite (fun hb => ?_) fun hb => ?_
  · have hjl : j < (A ++ x :: C).length := by simp only [decide_eq_true_eq] at hb; omega
    have hMj : M[j]? = some (A ++ x :: C)[j] := by
      have := congrArg (·[0]?) hd
      simp only [List.getElem?_drop, Nat.add_zero] at this
      rw [this, List.getElem?_eq_getElem hjl]
    have hmem : (A ++ x :: C)[j] ∈ A ++ x :: C := List.getElem_mem hjl
    have hdrop := List.drop_eq_getElem_cons hjl
    rw [hdrop] at hdel hIg
    generalize (A ++ x :: C)[j] = y at hMj hmem hdel hdrop hIg
    rw [delG_cons] at hdel
    refine s_idx1 (fun w hw => (own_rd (s := s) hw).1) hMj ?_
    refine hc _ g y _ _ hmem hIg ?_
    refine s_ite (fun hp => ?_) fun hp => ?_
    · have hp' : p g y = false := by simpa using hp
      rw [hp'] at hdel
      simp only [Bool.false_eq_true, if_false] at hdel
      refine s_idx (s := s) (i := i) ?_
      rw [← add0 (elA s i 1)]
      refine s_stE (s := s) ?_ (by simp; omega) (hfl y)
      rw [show i * 1 + 0 = i by omega, ← List.map_set]
      refine s_ai ?_
      refine s_ai ?_
      refine s_end (hk' _ (i + 1, j + 1, M.set i y, st g y) ⟨by simp, by simp, by simp only; omega, hjl, by simpa using hM, ?_, hIs _ _ _ hIg, ?_⟩ (by simp only; omega))
      · simp only
        rw [set_drop (by omega), ← List.drop_drop, ← List.drop_drop, hd]
      · simp only
        rw [set_take (by omega), hdel]
        simp
    · have hp' : p g y = true := by simpa using hp
      rw [hp'] at hdel
      simp only [if_true] at hdel
      refine s_ai ?_
      refine s_end (hk' _ (i, j + 1, M, st g y) ⟨rfl, by simp, by simp only; omega, hjl, hM, ?_, hIs _ _ _ hIg, hdel⟩ (by simp only; omega))
      simp only
      rw [← List.drop_drop, ← List.drop_drop, hd]
  · have hjl : j = (A ++ x :: C).length := by simp only [decide_eq_false_iff_not] at hb; omega
    rw [hjl, List.drop_length] at hdel
    simp only [delG, List.append_nil] at hdel
    rw [hdel] at h
    refine s_slc (lo := i) (hi := s.n) (mx := s.c) ?_
    refine s_shrink (s := s) (m := i) (c' := s.c) (by omega) (by omega) (Nat.le_refl _) ?_
    rw [show (M.map c).take (i * 1) = (M.take i).map c by simp]
    refine s_clear (s := ⟨s.a, i, s.c⟩) (l := i) (q := s.n - i) (m := s.c) rfl (Nat.le_refl _) (by simp only; omega) (by omega) ?_ (hT := hT)
    refine s_slc (lo := 0) (hi := i) (mx := s.c) ?_
    rw [cut0 a3]
    exact h ⟨s.a, i, s.c⟩ (by simp; omega)
end
end Go.Sep
/- The shelf contract of slices.Sort on strings, laid at this program. -/
namespace Go.Proofs.YtihncgfghpbhdaaGreat
open Go.Proofs Go.Shelf
def sortRen : Go.Shelf.Ren := ⟨fun | 6 => 58 | 8 => 70 | 9 => 69 | 19 => 83 | 20 => 84 | 21 => 74 | 22 => 75 | 23 => 76 | 24 => 77 | 25 => 78 | 26 => 79 | 27 => 80 | 28 => 81 | 29 => 82 | 36 => 95 | 31 => 96 | 32 => 97 | 37 => 98 | 38 => 99 | 39 => 100 | 41 => 106 | n => n, fun | 27 => 47 | 29 => 9 | 3 => 3 | 32 => 130 | 26 => 47 | 0 => 0 | 44 => 147 | 46 => 38 | 4 => 4 | 36 => 140 | 35 => 139 | 41 => 131 | 5 => 5 | 9 => 9 | 53 => 159 | 57 => 163 | 63 => 170 | 64 => 171 | n => n, fun | n => n⟩
theorem sortLay : Go.Proofs.SlLaysM.n6 Tryz.prog sortRen := {
  mixed := by kernel_rfl
  f6 := ⟨Tryz.f58.name, by decide, Tryz.func58.trans (congrArg some (by kernel_rfl))⟩
  f8 := Tryz.func70.trans (congrArg some (by kernel_rfl))
  f9 := ⟨Tryz.f69.name, by decide, Tryz.func69.trans (congrArg some (by kernel_rfl))⟩
  f19 := Tryz.func83.trans (congrArg some (by kernel_rfl))
  f20 := Tryz.func84.trans (congrArg some (by kernel_rfl))
  f21 := ⟨Tryz.f74.name, by decide, Tryz.func74.trans (congrArg some (by kernel_rfl))⟩
  f22 := ⟨Tryz.f75.name, by decide, Tryz.func75.trans (congrArg some (by kernel_rfl))⟩
  f23 := ⟨Tryz.f76.name, by decide, Tryz.func76.trans (congrArg some (by kernel_rfl))⟩
  f24 := ⟨Tryz.f77.name, by decide, Tryz.func77.trans (congrArg some (by kernel_rfl))⟩
  f25 := ⟨Tryz.f78.name, by decide, Tryz.func78.trans (congrArg some (by kernel_rfl))⟩
  f26 := ⟨Tryz.f79.name, by decide, Tryz.func79.trans (congrArg some (by kernel_rfl))⟩
  f27 := ⟨Tryz.f80.name, by decide, Tryz.func80.trans (congrArg some (by kernel_rfl))⟩
  f28 := ⟨Tryz.f81.name, by decide, Tryz.func81.trans (congrArg some (by kernel_rfl))⟩
  f29 := ⟨Tryz.f82.name, by decide, Tryz.func82.trans (congrArg some (by kernel_rfl))⟩
  f31 := Tryz.func96.trans (congrArg some (by kernel_rfl))
  f32 := Tryz.func97.trans (congrArg some (by kernel_rfl))
  f36 := ⟨Tryz.f95.name, by decide, Tryz.func95.trans (congrArg some (by kernel_rfl))⟩
  f37 := ⟨Tryz.f98.name, by decide, Tryz.func98.trans (congrArg some (by kernel_rfl))⟩
  f38 := ⟨Tryz.f99.name, by decide, Tryz.func99.trans (congrArg some (by kernel_rfl))⟩
  f39 := ⟨Tryz.f100.name, by decide, Tryz.func100.trans (congrArg some (by kernel_rfl))⟩
  f41 := ⟨Tryz.f106.name, by decide, Tryz.func106.trans (congrArg some (by kernel_rfl))⟩
  t0 := Tryz.underlying0
  a0 := Tryz.isAgg0
  z0 := Tryz.sizeOf0
  v0 := Tryz.zeroValue0
  t3 := Tryz.underlying3
  a3 := Tryz.isAgg3
  z3 := Tryz.sizeOf3
  v3 := Tryz.zeroValue3
  t4 := Tryz.underlying4
  a4 := Tryz.isAgg4
  z4 := Tryz.sizeOf4
  v4 := Tryz.zeroValue4
  t5 := Tryz.underlying5
  a5 := Tryz.isAgg5
  z5 := Tryz.sizeOf5
  v5 := Tryz.zeroValue5
  t9 := Tryz.underlying9
  a9 := Tryz.isAgg9
  z9 := Tryz.sizeOf9
  v9 := Tryz.zeroValue9
  t26 := Tryz.underlying47
  a26 := Tryz.isAgg47
  z26 := Tryz.sizeOf47
  v26 := Tryz.zeroValue47
  t27 := Tryz.underlying47
  a27 := Tryz.isAgg47
  z27 := Tryz.sizeOf47
  v27 := Tryz.zeroValue47
  t29 := Tryz.underlying9
  a29 := Tryz.isAgg9
  z29 := Tryz.sizeOf9
  v29 := Tryz.zeroValue9
  t32 := Tryz.underlying130
  a32 := Tryz.isAgg130
  z32 := Tryz.sizeOf130
  v32 := Tryz.zeroValue130
  t35 := Tryz.underlying139
  a35 := Tryz.isAgg139
  z35 := Tryz.sizeOf139
  v35 := Tryz.zeroValue139
  t36 := Tryz.underlying140
  a36 := Tryz.isAgg140
  z36 := Tryz.sizeOf140
  v36 := Tryz.zeroValue140
  t41 := Tryz.underlying131
  a41 := Tryz.isAgg131
  z41 := Tryz.sizeOf131
  v41 := Tryz.zeroValue131
  t44 := Tryz.underlying147
  a44 := Tryz.isAgg147
  z44 := Tryz.sizeOf147
  v44 := Tryz.zeroValue147
  t46 := Tryz.underlying38
  a46 := Tryz.isAgg38
  z46 := Tryz.sizeOf38
  v46 := Tryz.zeroValue38
  t53 := Tryz.underlying159
  a53 := Tryz.isAgg159
  z53 := Tryz.sizeOf159
  v53 := Tryz.zeroValue159
  t57 := Tryz.underlying163
  a57 := Tryz.isAgg163
  z57 := Tryz.sizeOf163
  v57 := Tryz.zeroValue163
  t63 := Tryz.underlying170
  a63 := Tryz.isAgg170
  z63 := Tryz.sizeOf170
  v63 := Tryz.zeroValue170
  t64 := Tryz.underlying171
  a64 := Tryz.isAgg171
  z64 := Tryz.sizeOf171
  v64 := Tryz.zeroValue171 }
end Go.Proofs.YtihncgfghpbhdaaGreat
/- Plain forms of functions, and that their code comes to them (package lib_slices). -/
namespace Go.Proofs.YtihncgfghpbhdaaGreat
open Go Go.Sep
set_option linter.unusedVariables false
set_option linter.unusedSimpArgs false
set_option maxRecDepth 100000
set_option maxHeartbeats 4000000
attribute [local irreducible] G Gp Cx Tx Ex Sx Dx Ox Ax Lx Rx Fx Bx Bj Al Do Ld LdN St StN New CallF Ar DoU Rd Rd2 Pu Cd Ite Fv CallV CallY Ans0 Ans1 Ans2 Ans3 Ans4 Ans5 Ext Dead Dr WithS Sv LdS LdNS RdS Rd2S Nn Idx IdxA IdxS Fld Bld Slc SlcS Cat All LoopK RangeF RangeJ TakeD
namespace F_IRLibSlices
instance at_42 : AT Tryz.prog 42 4 := ⟨by kernel_rfl⟩
instance at_99 : AT Tryz.prog 99 7 := ⟨by kernel_rfl⟩
instance cb_38 : CB Tryz.prog 38 := ⟨by kernel_rfl⟩
instance cb_42 : CB Tryz.prog 42 := ⟨by kernel_rfl⟩
instance cb_56 : CB Tryz.prog 56 := ⟨by kernel_rfl⟩
instance cb_57 : CB Tryz.prog 57 := ⟨by kernel_rfl⟩
instance cb_58 : CB Tryz.prog 58 := ⟨by kernel_rfl⟩
instance cb_68 : CB Tryz.prog 68 := ⟨by kernel_rfl⟩
instance cb_69 : CB Tryz.prog 69 := ⟨by kernel_rfl⟩
instance cb_70 : CB Tryz.prog 70 := ⟨by kernel_rfl⟩
instance ct_47 : CT Tryz.prog 47 := ⟨by kernel_rfl⟩
instance ct_9 : CT Tryz.prog 9 := ⟨by kernel_rfl⟩
instance in_130 : INT Tryz.prog 130 .u64 := ⟨by kernel_rfl⟩
instance in_3 : INT Tryz.prog 3 .i64 := ⟨by kernel_rfl⟩
instance mx : MX Tryz.prog := ⟨mixed⟩
instance sl_35 : SLT Tryz.prog 35 42 4 := ⟨by kernel_rfl⟩
instance sl_47 : SLT Tryz.prog 47 9 1 := ⟨by kernel_rfl⟩
instance sl_86 : SLT Tryz.prog 86 99 7 := ⟨by kernel_rfl⟩
instance sz_47 : SZ Tryz.prog 47 1 := ⟨by kernel_rfl⟩
instance sz_9 : SZ Tryz.prog 9 1 := ⟨by kernel_rfl⟩
instance sz_99 : SZ Tryz.prog 99 7 := ⟨by kernel_rfl⟩
instance zt_9 : ZT Tryz.prog 9 (.string ⟨#[]⟩) := ⟨Tryz.t9, by kernel_rfl, by kernel_rfl⟩
instance zt_99 : ZT Tryz.prog 99 (.agg #[(.int .i64 0), (.int .u64 0), (.int .u64 0), (.int .i64 0), (.string ⟨#[]⟩), (.int .i64 0), (.int .u64 0)]) := ⟨Tryz.t99, by kernel_rfl, by kernel_rfl⟩
end F_IRLibSlices
def slices_DeleteFunc_s_string_string.s2 (Q : Sl → K) (X1 : Int → Int → K) (s0_2 : Sl) (del1_2 : Value) (i5_2 : Int) (j6_2 : Int) : K :=
  Ar (IntKind.wrap .i64 (j6_2 + 1)) fun t21 =>
  X1 i5_2 t21
def slices_DeleteFunc_s_string_string.b1 (Q : Sl → K)  (X1 : Int → Int → K) (s0_1 : Sl) (del1_1 : Value) (i5_1 : Int) (j6_1 : Int) : K :=
  Ite (decide (j6_1 < (s0_1.n : Int)))
    (Idx s0_1 j6_1 1 fun t24 =>
    Ld t24 Value.string fun t25 =>
    CallV Tryz.prog del1_1 [(.string t25)] <| Ans1 (fun (t28 : Bool) => Value.bool t28) fun t28 =>
    Ite (!t28)
      (Idx s0_1 i5_1 1 fun t33 =>
      St t33 (.string t25) <|
      Ar (IntKind.wrap .i64 (i5_1 + 1)) fun t35 =>
      slices_DeleteFunc_s_string_string.s2 Q X1 s0_1 del1_1 t35 j6_1)
      (slices_DeleteFunc_s_string_string.s2 Q X1 s0_1 del1_1 i5_1 j6_1))
    (Slc s0_1 i5_1 (s0_1.n : Int) (s0_1.c : Int) 1 fun t38 =>
    Do Tryz.prog (Builtin.clear_ #[47] 0 #[(Sl.val t38)]) id fun _ =>
    Slc s0_1 0 i5_1 (s0_1.c : Int) 1 fun t41 =>
    Q t41)
def slices_DeleteFunc_s_string_string (s0 : Sl) (del1 : Value) (Q : Sl → K) : K :=
  slices_IndexFunc_s_string_string.call s0 del1 fun t10 =>
  Ite (decide (t10 = (-1)))
    (Q s0)
    (Ar (IntKind.wrap .i64 (t10 + 1)) fun t15 =>
    LoopK (α := Int × Int) (fun X x => slices_DeleteFunc_s_string_string.b1 Q (fun i5_1 j6_1 => X (i5_1, j6_1)) s0 del1 x.1 x.2) (t10, t15))
theorem slices_DeleteFunc_s_string_string_ok (s0 : Sl) (del1 : Value) (Q : Sl → K) (w : World) (h : slices_DeleteFunc_s_string_string s0 del1 Q w) : slices_DeleteFunc_s_string_string.call s0 del1 Q w := by
  have hJ6 : ∀ (X1 : (Int × Int) → K), XH 5 X1 → JH 6 fun D => ∃ (s0_2 : Sl) (del1_2 : Value) (j6_2 : Int), D [(0, (Sl.val s0_2)), (1, del1_2), (6, (.int .i64 j6_2))] (fun C => ∀ (i5_2 : Int), C [(0, (Sl.val s0_2)), (1, del1_2), (5, (.int .i64 i5_2)), (6, (.int .i64 j6_2))] (slices_DeleteFunc_s_string_string.s2 Q (fun i5_1 j6_1 => X1 (i5_1, j6_1)) s0_2 del1_2 i5_2 j6_2)) := by intros; exact ⟨fun _ ⟨_, _, _, h⟩ => ⟨_, _, h⟩⟩
  have hL5 : ∀ (s0_1 : Sl) (del1_1 : Value), LH 5 (fun x : Int × Int => [(0, (Sl.val s0_1)), (1, del1_1), (5, (.int .i64 x.1)), (6, (.int .i64 x.2))]) (fun X x => slices_DeleteFunc_s_string_string.b1 Q (fun i5_1 j6_1 => X (i5_1, j6_1)) s0_1 del1_1 x.1 x.2) := by intros; exact ⟨⟩
  exact g_walk 42 h Tryz.func33
def slices_Sorted_string (seq0 : Value) (Q : Sl → K) : K :=
  slices_Collect_string.call seq0 fun t5 =>
  slices_Sort_s_string_string.call t5 <|
  Q t5
theorem slices_Sorted_string_ok (seq0 : Value) (Q : Sl → K) (w : World) (h : slices_Sorted_string seq0 Q w) : slices_Sorted_string.call seq0 Q w := by
  exact g_walk 9 h Tryz.func34
def slices_Index_s_api_Tag_api_Tag.b1 (Q : Int → K)  (X1 : Int → K) (s0_1 : Sl) (v3_1 : Addr) (t7_1 : Int) (t8_1 : Int) : K :=
  Ite (decide (t8_1 < t7_1))
    (Dr <|
    LdN v3_1 4 fun t11 =>
    Idx s0_1 t8_1 4 fun t14 =>
    LdN t14 4 fun t15 =>
    Pu Tryz.prog (do eqGuard .eql 42 (.tmp 11) (.tmp 15) (.agg t11) (.agg t15); binOp .eql 42 (.agg t11) (.agg t15) : Sem Value) Value.bool fun t16 =>
    Ite t16
      (Q t8_1)
      (Ar (IntKind.wrap .i64 (t8_1 + 1)) fun t18 =>
      X1 t18))
    (Q (-1))
def slices_Index_s_api_Tag_api_Tag (s0 : Sl) (v1 : (Array Value)) (Q : Int → K) : K :=
  New 42 v1 fun v3 =>
  LoopK (α := Int) (fun X x => slices_Index_s_api_Tag_api_Tag.b1 Q X s0 v3 (s0.n : Int) x) 0
theorem slices_Index_s_api_Tag_api_Tag_ok (s0 : Sl) (v1 : (Array Value)) (Q : Int → K) (w : World) (h : slices_Index_s_api_Tag_api_Tag s0 v1 Q w) : slices_Index_s_api_Tag_api_Tag.call s0 v1 Q w := by
  have hL2 : ∀ (s0_1 : Sl) (v3_1 : Addr) (t7_1 : Int), LH 2 (fun x : Int => [(0, (Sl.val s0_1)), (3, (.pointer (some v3_1))), (7, (.int .i64 t7_1)), (8, (.int .i64 x))]) (fun X x => slices_Index_s_api_Tag_api_Tag.b1 Q X s0_1 v3_1 t7_1 x) := by intros; exact ⟨⟩
  exact g_walk 19 h Tryz.func38
def slices_Contains_s_api_Tag_api_Tag (s0 : Sl) (v1 : (Array Value)) (Q : Bool → K) : K :=
  New 42 v1 fun v3 =>
  LdN v3 4 fun t6 =>
  slices_Index_s_api_Tag_api_Tag.call s0 t6 fun t7 =>
  Q (decide ((0 : Int) ≤ t7))
theorem slices_Contains_s_api_Tag_api_Tag_ok (s0 : Sl) (v1 : (Array Value)) (Q : Bool → K) (w : World) (h : slices_Contains_s_api_Tag_api_Tag s0 v1 Q w) : slices_Contains_s_api_Tag_api_Tag.call s0 v1 Q w := by
  exact g_walk 9 h Tryz.func39
def slices_ContainsFunc_s_locks_claim_locks_claim (s0 : Sl) (f1 : Value) (Q : Bool → K) : K :=
  slices_IndexFunc_s_locks_claim_locks_claim.call s0 f1 fun t7 =>
  Q (decide ((0 : Int) ≤ t7))
theorem slices_ContainsFunc_s_locks_claim_locks_claim_ok (s0 : Sl) (f1 : Value) (Q : Bool → K) (w : World) (h : slices_ContainsFunc_s_locks_claim_locks_claim s0 f1 Q w) : slices_ContainsFunc_s_locks_claim_locks_claim.call s0 f1 Q w := by
  exact g_walk 9 h Tryz.func40
def slices_IndexFunc_s_locks_claim_locks_claim.b1 (Q : Int → K)  (X1 : Int → K) (s0_1 : Sl) (f1_1 : Value) (t7_1 : Int) (t8_1 : Int) : K :=
  Ite (decide (t8_1 < t7_1))
    (Idx s0_1 t8_1 7 fun t14 =>
    LdN t14 7 fun t15 =>
    CallV Tryz.prog f1_1 [(.agg t15)] <| Ans1 (fun (t16 : Bool) => Value.bool t16) fun t16 =>
    Ite t16
      (Q t8_1)
      (Ar (IntKind.wrap .i64 (t8_1 + 1)) fun t18 =>
      X1 t18))
    (Q (-1))
def slices_IndexFunc_s_locks_claim_locks_claim (s0 : Sl) (f1 : Value) (Q : Int → K) : K :=
  LoopK (α := Int) (fun X x => slices_IndexFunc_s_locks_claim_locks_claim.b1 Q X s0 f1 (s0.n : Int) x) 0
theorem slices_IndexFunc_s_locks_claim_locks_claim_ok (s0 : Sl) (f1 : Value) (Q : Int → K) (w : World) (h : slices_IndexFunc_s_locks_claim_locks_claim s0 f1 Q w) : slices_IndexFunc_s_locks_claim_locks_claim.call s0 f1 Q w := by
  have hL2 : ∀ (s0_1 : Sl) (f1_1 : Value) (t7_1 : Int), LH 2 (fun x : Int => [(0, (Sl.val s0_1)), (1, f1_1), (7, (.int .i64 t7_1)), (8, (.int .i64 x))]) (fun X x => slices_IndexFunc_s_locks_claim_locks_claim.b1 Q X s0_1 f1_1 t7_1 x) := by intros; exact ⟨⟩
  exact g_walk 19 h Tryz.func42
def slices_DeleteFunc_s_locks_claim_locks_claim.s2 (Q : Sl → K) (X1 : Int → Int → K) (s0_2 : Sl) (del1_2 : Value) (i5_2 : Int) (j6_2 : Int) : K :=
  Ar (IntKind.wrap .i64 (j6_2 + 1)) fun t21 =>
  X1 i5_2 t21
def slices_DeleteFunc_s_locks_claim_locks_claim.b1 (Q : Sl → K)  (X1 : Int → Int → K) (s0_1 : Sl) (del1_1 : Value) (i5_1 : Int) (j6_1 : Int) : K :=
  Ite (decide (j6_1 < (s0_1.n : Int)))
    (Idx s0_1 j6_1 7 fun t24 =>
    LdN t24 7 fun t25 =>
    New 99 #[(.int .i64 0), (.int .u64 0), (.int .u64 0), (.int .i64 0), (.string ⟨#[]⟩), (.int .i64 0), (.int .u64 0)] fun v7 =>
    StN v7 7 t25 <|
    LdN v7 7 fun t27 =>
    CallV Tryz.prog del1_1 [(.agg t27)] <| Ans1 (fun (t28 : Bool) => Value.bool t28) fun t28 =>
    Ite (!t28)
      (LdN v7 7 fun t32 =>
      Idx s0_1 i5_1 7 fun t33 =>
      StN t33 7 t32 <|
      Ar (IntKind.wrap .i64 (i5_1 + 1)) fun t35 =>
      slices_DeleteFunc_s_locks_claim_locks_claim.s2 Q X1 s0_1 del1_1 t35 j6_1)
      (slices_DeleteFunc_s_locks_claim_locks_claim.s2 Q X1 s0_1 del1_1 i5_1 j6_1))
    (Slc s0_1 i5_1 (s0_1.n : Int) (s0_1.c : Int) 7 fun t38 =>
    Do Tryz.prog (Builtin.clear_ #[86] 0 #[(Sl.val t38)]) id fun _ =>
    Slc s0_1 0 i5_1 (s0_1.c : Int) 7 fun t41 =>
    Q t41)
def slices_DeleteFunc_s_locks_claim_locks_claim (s0 : Sl) (del1 : Value) (Q : Sl → K) : K :=
  slices_IndexFunc_s_locks_claim_locks_claim.call s0 del1 fun t10 =>
  Ite (decide (t10 = (-1)))
    (Q s0)
    (Ar (IntKind.wrap .i64 (t10 + 1)) fun t15 =>
    LoopK (α := Int × Int) (fun X x => slices_DeleteFunc_s_locks_claim_locks_claim.b1 Q (fun i5_1 j6_1 => X (i5_1, j6_1)) s0 del1 x.1 x.2) (t10, t15))
theorem slices_DeleteFunc_s_locks_claim_locks_claim_ok (s0 : Sl) (del1 : Value) (Q : Sl → K) (w : World) (h : slices_DeleteFunc_s_locks_claim_locks_claim s0 del1 Q w) : slices_DeleteFunc_s_locks_claim_locks_claim.call s0 del1 Q w := by
  have hJ6 : ∀ (X1 : (Int × Int) → K), XH 5 X1 → JH 6 fun D => ∃ (s0_2 : Sl) (del1_2 : Value) (j6_2 : Int), D [(0, (Sl.val s0_2)), (1, del1_2), (6, (.int .i64 j6_2))] (fun C => ∀ (i5_2 : Int), C [(0, (Sl.val s0_2)), (1, del1_2), (5, (.int .i64 i5_2)), (6, (.int .i64 j6_2))] (slices_DeleteFunc_s_locks_claim_locks_claim.s2 Q (fun i5_1 j6_1 => X1 (i5_1, j6_1)) s0_2 del1_2 i5_2 j6_2)) := by intros; exact ⟨fun _ ⟨_, _, _, h⟩ => ⟨_, _, h⟩⟩
  have hL5 : ∀ (s0_1 : Sl) (del1_1 : Value), LH 5 (fun x : Int × Int => [(0, (Sl.val s0_1)), (1, del1_1), (5, (.int .i64 x.1)), (6, (.int .i64 x.2))]) (fun X x => slices_DeleteFunc_s_locks_claim_locks_claim.b1 Q (fun i5_1 j6_1 => X (i5_1, j6_1)) s0_1 del1_1 x.1 x.2) := by intros; exact ⟨⟩
  exact g_walk 42 h Tryz.func47
def slices_IndexFunc_s_string_string.b1 (Q : Int → K)  (X1 : Int → K) (s0_1 : Sl) (f1_1 : Value) (t7_1 : Int) (t8_1 : Int) : K :=
  Ite (decide (t8_1 < t7_1))
    (Idx s0_1 t8_1 1 fun t14 =>
    Ld t14 Value.string fun t15 =>
    CallV Tryz.prog f1_1 [(.string t15)] <| Ans1 (fun (t16 : Bool) => Value.bool t16) fun t16 =>
    Ite t16
      (Q t8_1)
      (Ar (IntKind.wrap .i64 (t8_1 + 1)) fun t18 =>
      X1 t18))
    (Q (-1))
def slices_IndexFunc_s_string_string (s0 : Sl) (f1 : Value) (Q : Int → K) : K :=
  LoopK (α := Int) (fun X x => slices_IndexFunc_s_string_string.b1 Q X s0 f1 (s0.n : Int) x) 0
theorem slices_IndexFunc_s_string_string_ok (s0 : Sl) (f1 : Value) (Q : Int → K) (w : World) (h : slices_IndexFunc_s_string_string s0 f1 Q w) : slices_IndexFunc_s_string_string.call s0 f1 Q w := by
  have hL2 : ∀ (s0_1 : Sl) (f1_1 : Value) (t7_1 : Int), LH 2 (fun x : Int => [(0, (Sl.val s0_1)), (1, f1_1), (7, (.int .i64 t7_1)), (8, (.int .i64 x))]) (fun X x => slices_IndexFunc_s_string_string.b1 Q X s0_1 f1_1 t7_1 x) := by intros; exact ⟨⟩
  exact g_walk 19 h Tryz.func56
def slices_Collect_string (seq0 : Value) (Q : Sl → K) : K :=
  slices_AppendSeq_s_string_string.call (Sl.mk none 0 0) seq0 fun t4 =>
  Q t4
theorem slices_Collect_string_ok (seq0 : Value) (Q : Sl → K) (w : World) (h : slices_Collect_string seq0 Q w) : slices_Collect_string.call seq0 Q w := by
  exact g_walk 5 h Tryz.func57
def slices_Sort_s_string_string (x0 : Sl) (Q : K) : K :=
  Ar (IntKind.wrap .u64 (x0.n : Int)) fun t8 =>
  math_bits_Len.call t8 fun t9 =>
  slices_pdqsortOrdered_string.call x0 0 (x0.n : Int) t9 <|
  Q
theorem slices_Sort_s_string_string_ok (x0 : Sl) (Q : K) (w : World) (h : slices_Sort_s_string_string x0 Q w) : slices_Sort_s_string_string.call x0 Q w := by
  exact g_walk 11 h Tryz.func58
def slices_AppendSeq_s_string_string (s0 : Sl) (seq1 : Value) (Q : Sl → K) : K :=
  New 47 #[(Sl.val s0)] fun s2 =>
  RangeF Tryz.prog seq1 Value.string (fun KN1 x7 =>
    Ld s2 Sl.val fun t8 =>
    New 9 #[(.string x7)] fun t10 =>
    Do Tryz.prog (Builtin.append_ #[47, 47] 47 #[(Sl.val t8), (Sl.val (Sl.mk (some t10) 1 1))]) Sl.val fun t11 =>
    St s2 (Sl.val t11) <|
    KN1)
  fun D1 =>
  Ld s2 Sl.val fun t12 =>
  TakeD D1 <|
  Q t12
theorem slices_AppendSeq_s_string_string_ok (s0 : Sl) (seq1 : Value) (Q : Sl → K) (w : World) (h : slices_AppendSeq_s_string_string s0 seq1 Q w) : slices_AppendSeq_s_string_string.call s0 seq1 Q w := by
  exact g_walk 13 h Tryz.func68
end Go.Proofs.YtihncgfghpbhdaaGreat
/- slices.Sort of strings, by the shelf's contract; slices.Sorted of a map's keys. -/
namespace Go.Proofs.YtihncgfghpbhdaaGreat
open Go Go.Sep
set_option linter.unusedSimpArgs false
set_option linter.unusedVariables false
set_option maxRecDepth 100000

abbrev sortL (ss : List (List UInt8)) : List (List UInt8) := ss.mergeSort fun x y => decide (x ≤ y)
section
variable {B w : World} {Γ : List HProp}
theorem holds_grow (h : Holds B Γ w) (os : Array Obj) : Holds B Γ (Sort.grow w os) := by
  obtain ⟨l⟩ := os
  induction l generalizing w with
  | nil => simpa [Sort.grow] using h
  | cons o l ih =>
    have h1 := ih (h.alloc o).tail
    have e : Sort.grow { w with heap := w.heap.push o } ⟨l⟩ = Sort.grow w ⟨o :: l⟩ := by
      have e2 : w.heap.push o ++ (⟨l⟩ : Array Obj) = w.heap ++ (⟨o :: l⟩ : Array Obj) := by
        apply Array.ext'
        rw [Array.toList_append, Array.toList_append, Array.toList_push, List.append_assoc]
        rfl
      unfold Sort.grow
      rw [← e2]
    rw [e] at h1
    exact h1
theorem slices_Sort_spec {s : Sl} {ss : List (List UInt8)} {k : K} (hl : ss.length ≤ 1000000) (h : Holds B (SlC ty_string 1 s (ss.map strV) :: Γ) w) (hk : ∀ w, Holds B (SlC ty_string 1 s ((sortL ss).map strV) :: Γ) w → k w) : slices_Sort_s_string_string.call s k w := by
  have hsc := h.slCap
  have hn : ss.length = s.n := by have := hsc.1; simpa using this
  unfold slices_Sort_s_string_string.call CallF
  cases ha : s.a with
  | none =>
    have hs0 : s.n = 0 := by have := hsc.2.2.2 ha; omega
    have hss : ss = [] := List.length_eq_zero_iff.1 (by omega)
    subst hss
    have h1 := AnyM.slices_Sort_string_none sortLay none s.c w
    have e : [Sl.val s].toArray = #[.slice none 0 s.c] := by
      show #[Value.slice s.a s.n s.c] = _
      rw [ha, hs0]
    rw [e]
    refine Calls.mono h1 fun e w' he => ?_
    obtain ⟨rfl, rfl⟩ := he
    exact ⟨rfl, hk _ (by simpa [sortL] using h)⟩
  | some a =>
    obtain ⟨cs, fz, h, hsp, hf, hsz, hr, hlen, hc⟩ := slOpen h ha
    obtain ⟨b, off, sp⟩ := a
    simp only at hsp
    subst hsp
    simp only at h hf hsz hr
    have hb := h.block
    have hH : Sort.Holds Proofs.encStr w b off ss.toArray := fun j hj => by
      simp only [List.size_toArray] at hj
      have h1 := hr j (by simpa using hj)
      constructor
      · refine cell_block hb ?_
        rw [h1, List.getElem?_map, List.getElem?_eq_getElem hj]
        simp [getElem!_pos, hj]
      · exact frozen_block hb (hf _ (by omega) (by omega))
    have h1 := AnyM.slices_Sort_string sortLay b off s.c ss w hH (Array.getElem?_eq_some_iff.1 hb).1 (by omega)
    have e : [Sl.val s].toArray = #[.slice (some ⟨b, off, none⟩) ss.length s.c] := by
      show #[Value.slice s.a s.n s.c] = _
      rw [ha, hn]
    rw [e]
    refine Calls.mono h1 fun e w' he => ?_
    obtain ⟨rfl, n, os, rfl⟩ := he
    refine ⟨rfl, hk _ ?_⟩
    have h2 : Holds B (blk b (.cells cs ty_string fz) :: Γ) (Sort.ahead w n) := h.drew _
    have h3 := h2.setBlock (o' := .cells (Sort.putCells Proofs.encStr off (sortL ss).toArray cs) ty_string fz) rfl
    have e2 : ({ (Sort.ahead w n) with heap := (Sort.ahead w n).heap.setIfInBounds b (.cells (Sort.putCells Proofs.encStr off (sortL ss).toArray cs) ty_string fz) } : World) = Sort.putRow Proofs.encStr (Sort.ahead w n) b off (sortL ss).toArray := by
      have harr : (Sort.ahead w n).heap.setIfInBounds b (.cells (Sort.putCells Proofs.encStr off (sortL ss).toArray cs) ty_string fz) = (Sort.ahead w n).heap.modify b (Sort.onCells (Sort.putCells Proofs.encStr off (sortL ss).toArray)) := by
        apply Array.ext_getElem?
        intro i
        rw [Array.getElem?_modify]
        by_cases hi : b = i
        · subst hi
          rw [if_pos rfl, h2.block, Array.getElem?_setIfInBounds_self_of_lt (Array.getElem?_eq_some_iff.1 h2.block).1]
          rfl
        · rw [if_neg hi, Array.getElem?_setIfInBounds_ne hi]
      unfold Sort.putRow Sort.mapBlock
      rw [← harr]
    rw [e2] at h3
    have h4 := holds_grow h3 os
    have hsl : (sortL ss).length = ss.length := by simp [sortL]
    refine slShut (a := ⟨b, off, none⟩) ha h4 ⟨rfl, hf, ?_, fun i hi => ?_, by rw [List.length_map, hsl]; simpa using hlen, hc⟩
    · have : (Sort.putCells Proofs.encStr off (sortL ss).toArray cs).size = cs.size := by simp [Sort.putCells]
      rw [this]; exact hsz
    · simp only [List.length_map] at hi
      unfold Sort.putCells
      rw [Array.getElem?_mapIdx]
      have hlt : off + i < cs.size := by omega
      rw [Array.getElem?_eq_getElem hlt, Option.map_some, if_pos (by simp; omega), List.getElem?_map, List.getElem?_eq_getElem hi, Option.map_some, Nat.add_sub_cancel_left, getElem!_pos (sortL ss).toArray i (by simpa using hi)]
      simp
end
end Go.Proofs.YtihncgfghpbhdaaGreat
/- Keys as strings, sorted. -/
namespace Go.Proofs.YtihncgfghpbhdaaGreat
open Go Go.Sep
set_option linter.unusedSimpArgs false
set_option linter.unusedVariables false
set_option maxRecDepth 100000

theorem keyE_str : KeyE .string strV := ⟨fun _ => trivial, fun a b h => by
  have h1 : bs a = bs b := by injection h
  have h2 := congrArg (fun x : ByteArray => x.data.toList) h1
  simpa using h2, fun a => keyE_string.bits (bs a)⟩
theorem sortL_perm {l l' : List (List UInt8)} (h : l.Perm l') : sortL l = sortL l' := by
  have tr : ∀ a b c : List UInt8, decide (a ≤ b) = true → decide (b ≤ c) = true → decide (a ≤ c) = true := fun a b c h1 h2 => by
    simp only [decide_eq_true_eq] at *
    exact List.le_trans h1 h2
  have tot : ∀ a b : List UInt8, (decide (a ≤ b) || decide (b ≤ a)) = true := fun a b => by
    simp only [Bool.or_eq_true, decide_eq_true_eq]
    exact List.le_total a b
  refine List.Perm.eq_of_pairwise (le := fun a b => decide (a ≤ b) = true) (fun a b _ _ h1 h2 => ?_) (List.pairwise_mergeSort tr tot l) (List.pairwise_mergeSort tr tot l') ?_
  · simp only [decide_eq_true_eq] at h1 h2
    exact List.le_antisymm h1 h2
  · exact ((List.mergeSort_perm l _).trans h).trans (List.mergeSort_perm l' _).symm
theorem sortL_len (l : List (List UInt8)) : (sortL l).length = l.length := (List.mergeSort_perm l _).length_eq
theorem sortL_mem {l : List (List UInt8)} {x : List UInt8} : x ∈ sortL l ↔ x ∈ l := (List.mergeSort_perm l _).mem_iff


abbrev SlS (s : Sl) (ss : List (List UInt8)) : HProp := SlC ty_string 1 s (ss.map strV)
end Go.Proofs.YtihncgfghpbhdaaGreat
/- Plain forms of functions, and that their code comes to them (package lib_maps). -/
namespace Go.Proofs.YtihncgfghpbhdaaGreat
open Go Go.Sep
set_option linter.unusedVariables false
set_option linter.unusedSimpArgs false
set_option maxRecDepth 100000
set_option maxHeartbeats 4000000
attribute [local irreducible] G Gp Cx Tx Ex Sx Dx Ox Ax Lx Rx Fx Bx Bj Al Do Ld LdN St StN New CallF Ar DoU Rd Rd2 Pu Cd Ite Fv CallV CallY Ans0 Ans1 Ans2 Ans3 Ans4 Ans5 Ext Dead Dr WithS Sv LdS LdNS RdS Rd2S Nn Idx IdxA IdxS Fld Bld Slc SlcS Cat All LoopK RangeF RangeJ TakeD
namespace F_IRLibMaps
instance ct_68 : CT Tryz.prog 68 := ⟨by kernel_rfl⟩
instance mx : MX Tryz.prog := ⟨mixed⟩
end F_IRLibMaps
def maps_Keys_map_string_locks_gate_string_locks_gate (m0 : (Option Nat)) (Q : Value → K) : K :=
  New 68 #[(.map m0)] fun m1 =>
  Q (.func (.func 59) #[] #[(.pointer (some m1))])
theorem maps_Keys_map_string_locks_gate_string_locks_gate_ok (m0 : (Option Nat)) (Q : Value → K) (w : World) (h : maps_Keys_map_string_locks_gate_string_locks_gate m0 Q w) : maps_Keys_map_string_locks_gate_string_locks_gate.call m0 Q w := by
  exact g_walk 4 h Tryz.func35
def maps_Keys_map_string_locks_gate_string_locks_gate_1.b1 (Q : K)  (X1 : K) (yield0_1 : Value) (t5_1 : (Option Addr))  : K :=
  Do Tryz.prog (Instr.next (.pointer t5_1) false 0) id fun t6 =>
  Ext t6 0 Value.bool fun t7 =>
  Ite t7
    (Do Tryz.prog (Instr.entry (.pointer t5_1)) id fun t8 =>
    Ext t8 0 Value.string fun t9 =>
    CallY Tryz.prog yield0_1 [(.string t9)] <| Ans1 (fun (t12 : Bool) => Value.bool t12) fun t12 =>
    Ite (!t12)
      (Q)
      (X1))
    (Q)
def maps_Keys_map_string_locks_gate_string_locks_gate_1 (yield0 : Value) (t1 : Addr) (Q : K) : K :=
  Ld t1 Value.map fun t4 =>
  Do Tryz.prog (Instr.range 68 (.map t4)) Value.pointer fun t5 =>
  LoopK (α := Unit) (fun X x => maps_Keys_map_string_locks_gate_string_locks_gate_1.b1 Q (X ()) yield0 t5) ()
theorem maps_Keys_map_string_locks_gate_string_locks_gate_1_ok (yield0 : Value) (t1 : Addr) (Q : K) (w : World) (h : maps_Keys_map_string_locks_gate_string_locks_gate_1 yield0 t1 Q w) : maps_Keys_map_string_locks_gate_string_locks_gate_1.call yield0 t1 Q w := by
  have hL1 : ∀ (yield0_1 : Value) (t5_1 : (Option Addr)), LH 1 (fun x : Unit => [(0, yield0_1), (5, (.pointer t5_1))]) (fun X x => maps_Keys_map_string_locks_gate_string_locks_gate_1.b1 Q (X ()) yield0_1 t5_1) := by intros; exact ⟨⟩
  exact g_walk 14 h Tryz.func59
end Go.Proofs.YtihncgfghpbhdaaGreat
/- slices.Sorted of a map's keys (locks gates). -/
namespace Go.Proofs.YtihncgfghpbhdaaGreat
open Go Go.Sep
set_option linter.unusedSimpArgs false
set_option linter.unusedVariables false
set_option maxRecDepth 100000

theorem mapFL : mapIs Tryz.prog ty_map_string_p_locks_gate .string ty_p_locks_gate := ⟨ty_string, by kernel_rfl, by kernel_rfl⟩
section
variable {B w : World} {Γ : List HProp} {β : Type} {cV : β → Value}

theorem slices_Collect_keysL {mb t1 : Nat} {m : List (List UInt8 × β)} {k : Sl → K} (hm : m.length ≤ 1000000) (h : Holds B (blk t1 (.cells #[.map (some mb)] ty_map_string_p_locks_gate (0, 0)) :: MapR strV cV mb m :: Γ) w)
    (hk : ∀ s ss w, ss.Perm (m.map Prod.fst) → Holds B (SlS s ss :: MapR strV cV mb m :: Γ) w → k s w) : slices_Collect_string.call (.func (.func 59) #[] #[.pointer (some ⟨t1, 0, none⟩)]) k w := by
  refine slices_Collect_string_ok _ _ _ ?_
  unfold slices_Collect_string
  refine slices_AppendSeq_s_string_string_ok _ _ _ _ ?_
  unfold slices_AppendSeq_s_string_string
  refine r_new h ?_
  clear h
  intro s2 w h
  try simp only [add_mk, Nat.zero_add, Nat.reduceAdd]
  refine r_rangeF h rfl (by kernel_rfl) fun D l r w hr1 hr2 h hy => ?_
  refine ret_mono (maps_Keys_map_string_locks_gate_string_locks_gate_1_ok (yv l) ⟨t1, 0, none⟩ (fun w3 => ∃ Δ, Holds B (blk l (.loop r) :: Δ) w3 ∧ ∀ w, Holds B Δ w → (Ld ⟨s2, 0, none⟩ Sl.val fun t12 => TakeD D (k t12)) w) w ?_) fun v w h => h.2
  unfold maps_Keys_map_string_locks_gate_string_locks_gate_1
  refine r_ld (x := (some mb)) h rfl (by first | with_reducible exact M0 | with_reducible exact M1 | with_reducible exact M2 | with_reducible exact M3 | with_reducible exact M4 | with_reducible exact M5 | with_reducible exact M6 | with_reducible exact M7 | with_reducible exact M8 | with_reducible exact M9 | with_reducible exact M10 | with_reducible exact M11 | with_reducible exact M12) ?_ ?_
  · exact rfl
  replace h := P3 h
  replace h := P3 h
  replace h := P3 h
  replace h := P3 h
  replace h := P4 h
  try simp only [N1, N2, N3, N4, N5, N6, N7] at h
  refine r_range mapFL h fun r2 w h => ?_
  replace h := h.del 4 at4
  try simp only [N1, N2, N3, N4, N5, N6, N7] at h
  have h0 := (h.nilSl ty_string 1)
  refine LoopK.of (fun _ w => ∃ (o : Sl) (ss : List (List UInt8)) (left : List (List UInt8 × β)) (cur : Option (List UInt8 × β)), (ss ++ left.map Prod.fst).Perm (m.map Prod.fst) ∧
      Holds B (blk l (.loop r) :: blk D (.deferred (some [])) :: blk s2 (.cells #[o.val] ty_s_string (0, 0)) :: SlS o ss :: MapIt strV cV mb r2 m left cur :: Γ) w)
    (fun _ w => itCount r2 m.length w) ⟨⟨none, 0, 0⟩, [], m, none, List.Perm.refl _, ?_⟩ ?_
  · replace h := h0
    replace h := P1 h
    replace h := P1 h
    replace h := P4 h
    replace h := P4 h
    replace h := P4 h
    try simp only [N1, N2, N3, N4, N5, N6, N7] at h
    exact h
  clear h h0
  rintro _ w ⟨o, ss, left, cur, hperm, h⟩
  have hcnt := it_count (h.pick 4 at4)
  have hlen := hperm.length_eq
  simp only [List.length_append, List.length_map] at hlen
  unfold maps_Keys_map_string_locks_gate_string_locks_gate_1.b1
  replace h := P3 h
  replace h := P3 h
  replace h := P3 h
  replace h := P3 h
  replace h := P4 h
  try simp only [N1, N2, N3, N4, N5, N6, N7] at h
  refine r_next h (fun hl0 w h => ?_) (fun l1 p l2 w hl1 hpm h => ?_)
  · refine ⟨_, false, rfl, rfl, ?_⟩
    refine r_ite_f rfl ?_
    replace h := P4 h
    replace h := P4 h
    replace h := P4 h
    replace h := P4 h
    try simp only [N1, N2, N3, N4, N5, N6, N7] at h
    refine ⟨_, h, fun w h => ?_⟩
    refine r_ld (x := o) h rfl (by first | with_reducible exact M0 | with_reducible exact M1 | with_reducible exact M2 | with_reducible exact M3 | with_reducible exact M4 | with_reducible exact M5 | with_reducible exact M6 | with_reducible exact M7 | with_reducible exact M8 | with_reducible exact M9 | with_reducible exact M10 | with_reducible exact M11 | with_reducible exact M12) ?_ ?_
    · exact rfl
    refine r_takeD h fun w h => ?_
    replace h := P2 h
    replace h := P2 h
    replace h := D2 h
    try simp only [N1, N2, N3, N4, N5, N6, N7] at h
    rw [hl0] at hperm
    simp only [List.map_nil, List.append_nil] at hperm
    exact hk o ss _ hperm h
  · refine ⟨_, true, rfl, rfl, ?_⟩
    refine r_ite_t rfl ?_
    refine r_entry h ?_
    refine ⟨_, bs p.1, rfl, rfl, ?_⟩
    replace h := P4 h
    replace h := P4 h
    replace h := P4 h
    replace h := P4 h
    try simp only [N1, N2, N3, N4, N5, N6, N7] at h
    refine callY_mono (hy (bs p.1) (fun w => ∃ o', Holds B (blk l (.loop r) :: blk D (.deferred (some [])) :: blk s2 (.cells #[Sl.val o'] ty_s_string (0, 0)) :: SlS o' (ss ++ [p.1]) :: MapIt strV cV mb r2 m (l1 ++ l2) (some p) :: Γ) w) w _ h fun W h => ?_) fun v w hv => ?_
    · have hon : ss.length = o.n := by have := (h.pick 3 at3).slCap.1; simpa using this
      refine r_ld (x := o) h rfl (by first | with_reducible exact M0 | with_reducible exact M1 | with_reducible exact M2 | with_reducible exact M3 | with_reducible exact M4 | with_reducible exact M5 | with_reducible exact M6 | with_reducible exact M7 | with_reducible exact M8 | with_reducible exact M9 | with_reducible exact M10 | with_reducible exact M11 | with_reducible exact M12) ?_ ?_
      · exact rfl
      refine r_new h ?_
      clear h
      intro t10 w h
      try simp only [add_mk, Nat.zero_add, Nat.reduceAdd]
      refine r_append (us := [strV p.1]) (h.pick 4 at4) (by kernel_rfl) (by kernel_rfl) (by' := 16) (by kernel_rfl) zero_ty_string rfl (RdC.of_blk (E := ty_string) (b := t10) (n := 1) (vs := [strV p.1]) (cs := #[strV p.1]) h List.mem_cons_self rfl rfl 1) (by simp [flatV]) (by simp only; omega) (by decide) fun o' w h _ _ => ?_
      try simp only [N1, N2, N3, N4, N5, N6, N7] at h
      first | refine S0 h rfl ?_ rfl ?_ | refine S1 h rfl ?_ rfl ?_ | refine S2 h rfl ?_ rfl ?_ | refine S3 h rfl ?_ rfl ?_ | refine S4 h rfl ?_ rfl ?_ | refine S5 h rfl ?_ rfl ?_ | refine S6 h rfl ?_ rfl ?_ | refine S7 h rfl ?_ rfl ?_ | refine S8 h rfl ?_ rfl ?_
      · first | exact Nat.lt_of_ble_eq_true rfl | (simp; done) | (simp; omega)
      clear h
      intro w h
      try simp only [N1, N2, N3, N4, N5, N6, N7] at h
      replace h := P5 h
      replace h := P1 h
      replace h := P5 h
      replace h := P5 h
      replace h := P5 h
      replace h := D5 h
      try simp only [N1, N2, N3, N4, N5, N6, N7] at h
      refine r_endR h fun w h => ?_
      have e : ({ ({ r with state := .busy } : Loop) with state := .ready, pending := none } : Loop) = r := by
        cases r
        simp only at hr1 hr2
        simp only [hr1, hr2]
      rw [e] at h
      refine ⟨o', ?_⟩
      have e2 : ss.map strV ++ [strV p.1] = (ss ++ [p.1]).map strV := by simp
      rw [e2] at h
      exact h
    · obtain ⟨rfl, o', h⟩ := hv
      refine ⟨true, rfl, ?_⟩
      refine r_ite_f rfl ?_
      have hcnt2 := it_count (h.pick 4 at4)
      refine ⟨⟨o', _, _, _, ?_, h⟩, ?_⟩
      · refine List.Perm.trans ?_ hperm
        rw [hl1]
        simp only [List.map_append, List.map_cons, List.append_assoc]
        refine List.Perm.append_left _ ?_
        show (p.1 :: (l1.map Prod.fst ++ l2.map Prod.fst)).Perm _
        exact List.perm_middle.symm
      · rw [hcnt, hcnt2, hl1]
        simp

theorem sorted_keys_specL {mb : Nat} {m : List (List UInt8 × β)} {k : Sl → K} (hm : m.length ≤ 1000000) (h : Holds B (MapR strV cV mb m :: Γ) w)
    (hk : ∀ s w, Holds B (SlS s (sortL (m.map Prod.fst)) :: MapR strV cV mb m :: Γ) w → k s w) :
    maps_Keys_map_string_locks_gate_string_locks_gate.call (some mb) (fun t7 => slices_Sorted_string.call t7 k) w := by
  refine maps_Keys_map_string_locks_gate_string_locks_gate_ok _ _ _ ?_
  unfold maps_Keys_map_string_locks_gate_string_locks_gate
  refine r_new h ?_
  clear h
  intro m1 w h
  try simp only [add_mk, Nat.zero_add, Nat.reduceAdd]
  refine slices_Sorted_string_ok _ _ _ ?_
  unfold slices_Sorted_string
  refine slices_Collect_keysL hm h fun s ss w hp h => ?_
  have hl := hp.length_eq
  rw [List.length_map] at hl
  refine slices_Sort_spec (by omega) h fun w h => ?_
  rw [sortL_perm hp] at h
  exact hk _ _ h
end
end Go.Proofs.YtihncgfghpbhdaaGreat
/- Plain forms of functions, and that their code comes to them (package locks). -/
namespace Go.Proofs.YtihncgfghpbhdaaGreat
open Go Go.Sep
set_option linter.unusedVariables false
set_option linter.unusedSimpArgs false
set_option maxRecDepth 100000
set_option maxHeartbeats 4000000
attribute [local irreducible] G Gp Cx Tx Ex Sx Dx Ox Ax Lx Rx Fx Bx Bj Al Do Ld LdN St StN New CallF Ar DoU Rd Rd2 Pu Cd Ite Fv CallV CallY Ans0 Ans1 Ans2 Ans3 Ans4 Ans5 Ext Dead Dr WithS Sv LdS LdNS RdS Rd2S Nn Idx IdxA IdxS Fld Bld Slc SlcS Cat All LoopK RangeF RangeJ TakeD
namespace F_IRLocks
instance at_42 : AT Tryz.prog 42 4 := ⟨by kernel_rfl⟩
instance at_59 : AT Tryz.prog 59 3 := ⟨by kernel_rfl⟩
instance at_65 : AT Tryz.prog 65 4 := ⟨by kernel_rfl⟩
instance at_99 : AT Tryz.prog 99 7 := ⟨by kernel_rfl⟩
instance cb_10 : CB Tryz.prog 10 := ⟨by kernel_rfl⟩
instance cb_20 : CB Tryz.prog 20 := ⟨by kernel_rfl⟩
instance cb_33 : CB Tryz.prog 33 := ⟨by kernel_rfl⟩
instance cb_34 : CB Tryz.prog 34 := ⟨by kernel_rfl⟩
instance cb_35 : CB Tryz.prog 35 := ⟨by kernel_rfl⟩
instance cb_38 : CB Tryz.prog 38 := ⟨by kernel_rfl⟩
instance cb_39 : CB Tryz.prog 39 := ⟨by kernel_rfl⟩
instance cb_40 : CB Tryz.prog 40 := ⟨by kernel_rfl⟩
instance cb_41 : CB Tryz.prog 41 := ⟨by kernel_rfl⟩
instance cb_42 : CB Tryz.prog 42 := ⟨by kernel_rfl⟩
instance cb_43 : CB Tryz.prog 43 := ⟨by kernel_rfl⟩
instance cb_44 : CB Tryz.prog 44 := ⟨by kernel_rfl⟩
instance cb_45 : CB Tryz.prog 45 := ⟨by kernel_rfl⟩
instance cb_46 : CB Tryz.prog 46 := ⟨by kernel_rfl⟩
instance cb_47 : CB Tryz.prog 47 := ⟨by kernel_rfl⟩
instance ct_29 : CT Tryz.prog 29 := ⟨by kernel_rfl⟩
instance ct_68 : CT Tryz.prog 68 := ⟨by kernel_rfl⟩
instance ct_69 : CT Tryz.prog 69 := ⟨by kernel_rfl⟩
instance ct_85 : CT Tryz.prog 85 := ⟨by kernel_rfl⟩
instance ct_86 : CT Tryz.prog 86 := ⟨by kernel_rfl⟩
instance ct_9 : CT Tryz.prog 9 := ⟨by kernel_rfl⟩
instance ft_59_0 : FT Tryz.prog 59 0 0 1 := ⟨by kernel_rfl⟩
instance ft_71_0 : FT Tryz.prog 71 0 0 1 := ⟨by kernel_rfl⟩
instance ft_71_1 : FT Tryz.prog 71 1 1 1 := ⟨by kernel_rfl⟩
instance ft_88_0 : FT Tryz.prog 88 0 0 1 := ⟨by kernel_rfl⟩
instance ft_88_1 : FT Tryz.prog 88 1 1 1 := ⟨by kernel_rfl⟩
instance ft_99_0 : FT Tryz.prog 99 0 0 4 := ⟨by kernel_rfl⟩
instance ft_99_1 : FT Tryz.prog 99 1 4 3 := ⟨by kernel_rfl⟩
instance mx : MX Tryz.prog := ⟨mixed⟩
instance pl_71 : PLT Tryz.prog 71 [(0, 1), (1, 1)] := ⟨_, Tryz.underlying71, by kernel_rfl⟩
instance pl_88 : PLT Tryz.prog 88 [(0, 1), (1, 1)] := ⟨_, Tryz.underlying88, by kernel_rfl⟩
instance pl_99 : PLT Tryz.prog 99 [(0, 4), (4, 3)] := ⟨_, Tryz.underlying99, by kernel_rfl⟩
instance sl_35 : SLT Tryz.prog 35 42 4 := ⟨by kernel_rfl⟩
instance sl_43 : SLT Tryz.prog 43 59 3 := ⟨by kernel_rfl⟩
instance sl_47 : SLT Tryz.prog 47 9 1 := ⟨by kernel_rfl⟩
instance sl_86 : SLT Tryz.prog 86 99 7 := ⟨by kernel_rfl⟩
instance sz_42 : SZ Tryz.prog 42 4 := ⟨by kernel_rfl⟩
instance sz_59 : SZ Tryz.prog 59 3 := ⟨by kernel_rfl⟩
instance sz_65 : SZ Tryz.prog 65 4 := ⟨by kernel_rfl⟩
instance sz_85 : SZ Tryz.prog 85 1 := ⟨by kernel_rfl⟩
instance sz_86 : SZ Tryz.prog 86 1 := ⟨by kernel_rfl⟩
instance sz_99 : SZ Tryz.prog 99 7 := ⟨by kernel_rfl⟩
instance un_85 : UN Tryz.prog 85 (.pointer 88) := ⟨Tryz.underlying85⟩
instance zt_42 : ZT Tryz.prog 42 (.agg #[(.int .i64 0), (.int .u64 0), (.int .u64 0), (.int .i64 0)]) := ⟨Tryz.t42, by kernel_rfl, by kernel_rfl⟩
instance zt_59 : ZT Tryz.prog 59 (.agg #[(.string ⟨#[]⟩), (.int .i64 0), (.int .u64 0)]) := ⟨Tryz.t59, by kernel_rfl, by kernel_rfl⟩
instance zt_65 : ZT Tryz.prog 65 (.agg #[(.bool false), (Sl.val ⟨none, 0, 0⟩), (.int .i64 0), (.int .u64 0)]) := ⟨Tryz.t65, by kernel_rfl, by kernel_rfl⟩
instance zt_71 : ZT Tryz.prog 71 (.agg #[(.map none), (.map none)]) := ⟨Tryz.t71, by kernel_rfl, by kernel_rfl⟩
instance zt_85 : ZT Tryz.prog 85 (.pointer none) := ⟨Tryz.t85, by kernel_rfl, by kernel_rfl⟩
instance zt_88 : ZT Tryz.prog 88 (.agg #[(Sl.val ⟨none, 0, 0⟩), (Sl.val ⟨none, 0, 0⟩)]) := ⟨Tryz.t88, by kernel_rfl, by kernel_rfl⟩
instance zt_99 : ZT Tryz.prog 99 (.agg #[(.int .i64 0), (.int .u64 0), (.int .u64 0), (.int .i64 0), (.string ⟨#[]⟩), (.int .i64 0), (.int .u64 0)]) := ⟨Tryz.t99, by kernel_rfl, by kernel_rfl⟩
end F_IRLocks
def locks_New  (Q : (Option Addr) → K) : K :=
  Do Tryz.prog (Instr.makeMap 68 none) Value.map fun t1 =>
  Do Tryz.prog (Instr.makeMap 69 none) Value.map fun t2 =>
  New 71 #[(.map t1), (.map t2)] fun t4 =>
  Q (some t4)
theorem locks_New_ok  (Q : (Option Addr) → K) (w : World) (h : locks_New  Q w) : locks_New.call  Q w := by
  exact g_walk 5 h Tryz.func7
def locks_Locks_Keys (l0 : (Option Addr)) (Q : Sl → K) : K :=
  New 29 #[(.pointer l0)] fun l1 =>
  Ld l1 Value.pointer fun t3 =>
  Nn t3 fun t4 =>
  Ld t4 Value.map fun t6 =>
  maps_Keys_map_string_locks_gate_string_locks_gate.call t6 fun t7 =>
  slices_Sorted_string.call t7 fun t8 =>
  slices_DeleteFunc_s_string_string.call t8 (.func (.func 36) #[] #[(.pointer (some l1))]) fun t10 =>
  Q t10
theorem locks_Locks_Keys_ok (l0 : (Option Addr)) (Q : Sl → K) (w : World) (h : locks_Locks_Keys l0 Q w) : locks_Locks_Keys.call l0 Q w := by
  exact g_walk 11 h Tryz.func10
def locks_Locks_Ahead.s3 (Q : Sl → K) (X1 : Sl → Int → K) (X2 : Sl → Int → K) (l0_3 : (Option Addr)) (tag3_3 : Addr) (out4_3 : Sl) (t12_3 : Sl) (t13_3 : Int) (t14_3 : Int) (t27_3 : Sl) (t28_3 : Int) (t29_3 : Int) : K :=
  Ar (IntKind.wrap .i64 (t29_3 + 1)) fun t41 =>
  X2 out4_3 t41
def locks_Locks_Ahead.b2 (Q : Sl → K) (X1 : Sl → Int → K) (X2 : Sl → Int → K) (l0_2 : (Option Addr)) (tag3_2 : Addr) (t12_2 : Sl) (t13_2 : Int) (t14_2 : Int) (t27_2 : Sl) (t28_2 : Int) (out4_2 : Sl) (t29_2 : Int) : K :=
  Ite (decide (t29_2 < t28_2))
    (Idx t27_2 t29_2 4 fun t31 =>
    LdN t31 4 fun t32 =>
    New 42 #[(.int .i64 0), (.int .u64 0), (.int .u64 0), (.int .i64 0)] fun t10 =>
    StN t10 4 t32 <|
    LdN t10 4 fun t34 =>
    slices_Contains_s_api_Tag_api_Tag.call out4_2 t34 fun t35 =>
    Ite (!t35)
      (LdN t10 4 fun t38 =>
      Bld #[(.int .i64 0), (.int .u64 0), (.int .u64 0), (.int .i64 0)] (fun i => some (i * 4, 4)) [(0, (.agg t38))] fun ct39 =>
      New 42 ct39 fun t39 =>
      Do Tryz.prog (Builtin.append_ #[35, 35] 35 #[(Sl.val out4_2), (Sl.val (Sl.mk (some t39) 1 1))]) Sl.val fun t40 =>
      locks_Locks_Ahead.s3 Q X1 X2 l0_2 tag3_2 t40 t12_2 t13_2 t14_2 t27_2 t28_2 t29_2)
      (locks_Locks_Ahead.s3 Q X1 X2 l0_2 tag3_2 out4_2 t12_2 t13_2 t14_2 t27_2 t28_2 t29_2))
    (Ar (IntKind.wrap .i64 (t14_2 + 1)) fun t42 =>
    X1 out4_2 t42)
def locks_Locks_Ahead.b1 (Q : Sl → K)  (X1 : Sl → Int → K) (l0_1 : (Option Addr)) (tag3_1 : Addr) (t12_1 : Sl) (t13_1 : Int) (out4_1 : Sl) (t14_1 : Int) : K :=
  Ite (decide (t14_1 < t13_1))
    (Idx t12_1 t14_1 1 fun t16 =>
    Ld t16 Value.string fun t17 =>
    locks_Locks_Queue.call l0_1 t17 fun t20 =>
    LdN tag3_1 4 fun t22 =>
    slices_Index_s_api_Tag_api_Tag.call t20 t22 fun t23 =>
    Ar (if (0 : Int) > t23 then 0 else t23) fun t26 =>
    Slc t20 0 t26 (t20.c : Int) 4 fun t27 =>
    LoopK (α := Sl × Int) (fun X x => locks_Locks_Ahead.b2 Q X1 (fun out4_2 t29_2 => X (out4_2, t29_2)) l0_1 tag3_1 t12_1 t13_1 t14_1 t27 (t27.n : Int) x.1 x.2) (out4_1, 0))
    (Q out4_1)
def locks_Locks_Ahead (l0 : (Option Addr)) (tag1 : (Array Value)) (Q : Sl → K) : K :=
  New 42 tag1 fun tag3 =>
  locks_Locks_Keys.call l0 fun t12 =>
  LoopK (α := Sl × Int) (fun X x => locks_Locks_Ahead.b1 Q (fun out4_1 t14_1 => X (out4_1, t14_1)) l0 tag3 t12 (t12.n : Int) x.1 x.2) ((Sl.mk none 0 0), 0)
theorem locks_Locks_Ahead_ok (l0 : (Option Addr)) (tag1 : (Array Value)) (Q : Sl → K) (w : World) (h : locks_Locks_Ahead l0 tag1 Q w) : locks_Locks_Ahead.call l0 tag1 Q w := by
  have hJ11 : ∀ (X1 : (Sl × Int) → K), XH 2 X1 → ∀ (X2 : (Sl × Int) → K), XH 7 X2 → JH 11 fun D => ∃ (l0_3 : (Option Addr)) (tag3_3 : Addr) (t12_3 : Sl) (t13_3 : Int) (t14_3 : Int) (t27_3 : Sl) (t28_3 : Int) (t29_3 : Int), D [(0, (.pointer l0_3)), (3, (.pointer (some tag3_3))), (12, (Sl.val t12_3)), (13, (.int .i64 t13_3)), (14, (.int .i64 t14_3)), (27, (Sl.val t27_3)), (28, (.int .i64 t28_3)), (29, (.int .i64 t29_3))] (fun C => ∀ (out4_3 : Sl), C [(0, (.pointer l0_3)), (3, (.pointer (some tag3_3))), (4, (Sl.val out4_3)), (12, (Sl.val t12_3)), (13, (.int .i64 t13_3)), (14, (.int .i64 t14_3)), (27, (Sl.val t27_3)), (28, (.int .i64 t28_3)), (29, (.int .i64 t29_3))] (locks_Locks_Ahead.s3 Q (fun out4_1 t14_1 => X1 (out4_1, t14_1)) (fun out4_2 t29_2 => X2 (out4_2, t29_2)) l0_3 tag3_3 out4_3 t12_3 t13_3 t14_3 t27_3 t28_3 t29_3)) := by intros; exact ⟨fun _ ⟨_, _, _, _, _, _, _, _, h⟩ => ⟨_, _, h⟩⟩
  have hL7 : ∀ (X1 : (Sl × Int) → K), XH 2 X1 → ∀ (l0_2 : (Option Addr)) (tag3_2 : Addr) (t12_2 : Sl) (t13_2 : Int) (t14_2 : Int) (t27_2 : Sl) (t28_2 : Int), LH 7 (fun x : Sl × Int => [(0, (.pointer l0_2)), (3, (.pointer (some tag3_2))), (4, (Sl.val x.1)), (12, (Sl.val t12_2)), (13, (.int .i64 t13_2)), (14, (.int .i64 t14_2)), (27, (Sl.val t27_2)), (28, (.int .i64 t28_2)), (29, (.int .i64 x.2))]) (fun X x => locks_Locks_Ahead.b2 Q (fun out4_1 t14_1 => X1 (out4_1, t14_1)) (fun out4_2 t29_2 => X (out4_2, t29_2)) l0_2 tag3_2 t12_2 t13_2 t14_2 t27_2 t28_2 x.1 x.2) := by intros; exact ⟨⟩
  have hL2 : ∀ (l0_1 : (Option Addr)) (tag3_1 : Addr) (t12_1 : Sl) (t13_1 : Int), LH 2 (fun x : Sl × Int => [(0, (.pointer l0_1)), (3, (.pointer (some tag3_1))), (4, (Sl.val x.1)), (12, (Sl.val t12_1)), (13, (.int .i64 t13_1)), (14, (.int .i64 x.2))]) (fun X x => locks_Locks_Ahead.b1 Q (fun out4_1 t14_1 => X (out4_1, t14_1)) l0_1 tag3_1 t12_1 t13_1 x.1 x.2) := by intros; exact ⟨⟩
  exact g_walk 44 h Tryz.func14
def locks_Locks_Ready.s2 (Q : Bool → K) (X1 : K) (tag3_2 : Addr) (t11_2 : (Option Addr)) (t32_2 : Bool) : K :=
  Ite t32_2
    (Q false)
    (X1)
def locks_Locks_Ready.b1 (Q : Bool → K)  (X1 : K) (tag3_1 : Addr) (t11_1 : (Option Addr))  : K :=
  Do Tryz.prog (Instr.next (.pointer t11_1) false 0) id fun t12 =>
  Ext t12 0 Value.bool fun t13 =>
  Ite t13
    (Do Tryz.prog (Instr.entry (.pointer t11_1)) id fun t14 =>
    Ext t14 1 Value.pointer fun t15 =>
    Dr <| WithS fun S =>
    Nn t15 fun t17 =>
    LdS S (t17.add 1) Sl.val fun t19 =>
    LdNS S tag3_1 4 fun t20 =>
    locks_of.call t20 fun t21 =>
    Sv S <|
    slices_ContainsFunc_s_locks_claim_locks_claim.call t19 t21 fun t22 =>
    Sv S <|
    Ite t22
      (locks_Locks_Ready.s2 Q X1 tag3_1 t11_1 true)
      (LdS S t17 Sl.val fun t27 =>
      LdNS S tag3_1 4 fun t28 =>
      locks_of.call t28 fun t29 =>
      Sv S <|
      slices_IndexFunc_s_locks_claim_locks_claim.call t27 t29 fun t30 =>
      locks_Locks_Ready.s2 Q X1 tag3_1 t11_1 (decide ((0 : Int) < t30))))
    (Q true)
def locks_Locks_Ready (l0 : (Option Addr)) (tag1 : (Array Value)) (Q : Bool → K) : K :=
  New 42 tag1 fun tag3 =>
  Nn l0 fun t8 =>
  Ld t8 Value.map fun t10 =>
  Do Tryz.prog (Instr.range 68 (.map t10)) Value.pointer fun t11 =>
  LoopK (α := Unit) (fun X x => locks_Locks_Ready.b1 Q (X ()) tag3 t11) ()
theorem locks_Locks_Ready_ok (l0 : (Option Addr)) (tag1 : (Array Value)) (Q : Bool → K) (w : World) (h : locks_Locks_Ready l0 tag1 Q w) : locks_Locks_Ready.call l0 tag1 Q w := by
  have hJ5 : ∀ (X1 : Unit → K), XH 2 X1 → JH 5 fun D => ∃ (tag3_2 : Addr) (t11_2 : (Option Addr)), D [(3, (.pointer (some tag3_2))), (11, (.pointer t11_2))] (fun C => ∀ (t32_2 : Bool), C [(3, (.pointer (some tag3_2))), (11, (.pointer t11_2)), (32, (.bool t32_2))] (locks_Locks_Ready.s2 Q (X1 ()) tag3_2 t11_2 t32_2)) := by intros; exact ⟨fun _ ⟨_, _, h⟩ => ⟨_, _, h⟩⟩
  have hD4 : DH 4 2 [14] (.s [0, 1, 2, 3, 4] (.a [(5, 1, .a [(6, 1, .s [7] (.i (.s [8, 9, 10, 11, 12, 13, 14, 15, 16] .e) (.s [8, 9, 10, 11, 12] (.a [(13, 1, .a [(14, 0, .s [15, 16] .e)])]))))])])) := by intros; exact ⟨⟩
  have hL2 : ∀ (tag3_1 : Addr) (t11_1 : (Option Addr)), LH 2 (fun x : Unit => [(3, (.pointer (some tag3_1))), (11, (.pointer t11_1))]) (fun X x => locks_Locks_Ready.b1 Q (X ()) tag3_1 t11_1) := by intros; exact ⟨⟩
  exact g_walk 33 h Tryz.func16
def locks_Locks_Doomed (l0 : (Option Addr)) (tag1 : (Array Value)) (Q : Bool → K) : K :=
  New 42 tag1 fun tag3 =>
  Dr <|
  Nn l0 fun t6 =>
  Ld (t6.add 1) Value.map fun t8 =>
  LdN tag3 4 fun t9 =>
  Rd Tryz.prog (Instr.lookup 69 (.map t8) (.agg t9) false) (Value.int .i64) fun t10 =>
  Q (decide ((0 : Int) < t10))
theorem locks_Locks_Doomed_ok (l0 : (Option Addr)) (tag1 : (Array Value)) (Q : Bool → K) (w : World) (h : locks_Locks_Doomed l0 tag1 Q w) : locks_Locks_Doomed.call l0 tag1 Q w := by
  exact g_walk 12 h Tryz.func18
def locks_Locks_Queue (l0 : (Option Addr)) (key1 : ByteArray) (Q : Sl → K) : K :=
  Nn l0 fun t7 =>
  Ld t7 Value.map fun t9 =>
  Rd Tryz.prog (Instr.lookup 68 (.map t9) (.string key1) false) Value.pointer fun t11 =>
  Ite (!(t11).isNone)
    (Nn t11 fun t15 =>
    Ld t15 Sl.val fun t17 =>
    locks_tags.call t17 fun t18 =>
    Q t18)
    (Q (Sl.mk none 0 0))
theorem locks_Locks_Queue_ok (l0 : (Option Addr)) (key1 : ByteArray) (Q : Sl → K) (w : World) (h : locks_Locks_Queue l0 key1 Q w) : locks_Locks_Queue.call l0 key1 Q w := by
  exact g_walk 19 h Tryz.func20
def locks_Locks_Parked (l0 : (Option Addr)) (key1 : ByteArray) (Q : Sl → K) : K :=
  Nn l0 fun t7 =>
  Ld t7 Value.map fun t9 =>
  Rd Tryz.prog (Instr.lookup 68 (.map t9) (.string key1) false) Value.pointer fun t11 =>
  Ite (!(t11).isNone)
    (Nn t11 fun t15 =>
    Ld (t15.add 1) Sl.val fun t17 =>
    locks_tags.call t17 fun t18 =>
    Q t18)
    (Q (Sl.mk none 0 0))
theorem locks_Locks_Parked_ok (l0 : (Option Addr)) (key1 : ByteArray) (Q : Sl → K) (w : World) (h : locks_Locks_Parked l0 key1 Q w) : locks_Locks_Parked.call l0 key1 Q w := by
  exact g_walk 19 h Tryz.func21
def locks_Locks_Enter.s2 (Q : K) (X1 : Int → K) (l0_2 : (Option Addr)) (s1_2 : (Option Addr)) (tag6_2 : Addr) (t11_2 : Sl) (t12_2 : Int) (t13_2 : Int) : K :=
  Ar (IntKind.wrap .i64 (t13_2 + 1)) fun t76 =>
  X1 t76
def locks_Locks_Enter.s3 (Q : K) (X1 : Int → K) (l0_3 : (Option Addr)) (s1_3 : (Option Addr)) (tag6_3 : Addr) (m9_3 : Addr) (g10_3 : (Option Addr)) (t11_3 : Sl) (t12_3 : Int) (t13_3 : Int) (t36_3 : Bool) : K :=
  Ite t36_3
    (locks_Locks_Enter.s2 Q X1 l0_3 s1_3 tag6_3 t11_3 t12_3 t13_3)
    (Dr <| WithS fun S =>
    LdS S m9_3 Value.string fun t39 =>
    LdNS S m9_3 3 fun t41 =>
    store_Store_Get.call s1_3 t39 fun t40 =>
    Sv S <|
    route_Look.call t40 t41 fun t42 =>
    Ite (decide (t42 = 0))
      (Dr <| WithS fun S =>
      Nn g10_3 fun t52 =>
      LdS S t52 Sl.val fun t54 =>
      LdNS S tag6_3 4 fun t55 =>
      LdNS S m9_3 3 fun t56 =>
      Bld #[(.int .i64 0), (.int .u64 0), (.int .u64 0), (.int .i64 0), (.string ⟨#[]⟩), (.int .i64 0), (.int .u64 0)] ([(0, 4), (4, 3)][·]?) [(0, (.agg t55)), (1, (.agg t56))] fun t57 =>
      Bld #[(.int .i64 0), (.int .u64 0), (.int .u64 0), (.int .i64 0), (.string ⟨#[]⟩), (.int .i64 0), (.int .u64 0)] (fun i => some (i * 7, 7)) [(0, (.agg t57))] fun ct58 =>
      New 99 ct58 fun t58 =>
      Sv S <|
      Do Tryz.prog (Builtin.append_ #[86, 86] 86 #[(Sl.val t54), (Sl.val (Sl.mk (some t58) 1 1))]) Sl.val fun t59 =>
      St t52 (Sl.val t59) <|
      locks_Locks_Enter.s2 Q X1 l0_3 s1_3 tag6_3 t11_3 t12_3 t13_3)
      (Ite (decide (t42 = 1))
        (Dr <| WithS fun S =>
        Nn g10_3 fun t66 =>
        LdS S (t66.add 1) Sl.val fun t68 =>
        LdNS S tag6_3 4 fun t69 =>
        LdNS S m9_3 3 fun t70 =>
        Bld #[(.int .i64 0), (.int .u64 0), (.int .u64 0), (.int .i64 0), (.string ⟨#[]⟩), (.int .i64 0), (.int .u64 0)] ([(0, 4), (4, 3)][·]?) [(0, (.agg t69)), (1, (.agg t70))] fun t71 =>
        Bld #[(.int .i64 0), (.int .u64 0), (.int .u64 0), (.int .i64 0), (.string ⟨#[]⟩), (.int .i64 0), (.int .u64 0)] (fun i => some (i * 7, 7)) [(0, (.agg t71))] fun ct72 =>
        New 99 ct72 fun t72 =>
        Sv S <|
        Do Tryz.prog (Builtin.append_ #[86, 86] 86 #[(Sl.val t68), (Sl.val (Sl.mk (some t72) 1 1))]) Sl.val fun t73 =>
        St (t66.add 1) (Sl.val t73) <|
        locks_Locks_Enter.s2 Q X1 l0_3 s1_3 tag6_3 t11_3 t12_3 t13_3)
        (Dr <|
        Nn l0_3 fun t44 =>
        Ld (t44.add 1) Value.map fun t46 =>
        LdN tag6_3 4 fun t47 =>
        DoU Tryz.prog (Instr.mapUpdate 69 (.map t46) (.agg t47) (.int .i64 1)) <|
        locks_Locks_Enter.s2 Q X1 (some t44) s1_3 tag6_3 t11_3 t12_3 t13_3)))
def locks_Locks_Enter.b1 (Q : K)  (X1 : Int → K) (l0_1 : (Option Addr)) (s1_1 : (Option Addr)) (tag6_1 : Addr) (t11_1 : Sl) (t12_1 : Int) (t13_1 : Int) : K :=
  Ite (decide (t13_1 < t12_1))
    (Idx t11_1 t13_1 3 fun t15 =>
    LdN t15 3 fun t16 =>
    New 59 #[(.string ⟨#[]⟩), (.int .i64 0), (.int .u64 0)] fun m9 =>
    StN m9 3 t16 <|
    Ld m9 Value.string fun t19 =>
    locks_Locks_gate.call l0_1 t19 fun t20 =>
    Dr <| WithS fun S =>
    Nn t20 fun t22 =>
    LdS S t22 Sl.val fun t24 =>
    LdNS S tag6_1 4 fun t25 =>
    locks_of.call t25 fun t26 =>
    Sv S <|
    slices_ContainsFunc_s_locks_claim_locks_claim.call t24 t26 fun t27 =>
    Sv S <|
    Ite t27
      (locks_Locks_Enter.s3 Q X1 l0_1 s1_1 tag6_1 m9 (some t22) t11_1 t12_1 t13_1 true)
      (LdS S (t22.add 1) Sl.val fun t32 =>
      LdNS S tag6_1 4 fun t33 =>
      locks_of.call t33 fun t34 =>
      Sv S <|
      slices_ContainsFunc_s_locks_claim_locks_claim.call t32 t34 fun t35 =>
      locks_Locks_Enter.s3 Q X1 l0_1 s1_1 tag6_1 m9 (some t22) t11_1 t12_1 t13_1 t35))
    (Q)
def locks_Locks_Enter (l0 : (Option Addr)) (s1 : (Option Addr)) (tag2 : (Array Value)) (marks3 : Sl) (Q : K) : K :=
  New 42 tag2 fun tag6 =>
  LoopK (α := Int) (fun X x => locks_Locks_Enter.b1 Q X l0 s1 tag6 marks3 (marks3.n : Int) x) 0
theorem locks_Locks_Enter_ok (l0 : (Option Addr)) (s1 : (Option Addr)) (tag2 : (Array Value)) (marks3 : Sl) (Q : K) (w : World) (h : locks_Locks_Enter l0 s1 tag2 marks3 Q w) : locks_Locks_Enter.call l0 s1 tag2 marks3 Q w := by
  have hJ12 : ∀ (X1 : Int → K), XH 2 X1 → JH 12 fun D => ∃ (l0_2 : (Option Addr)) (s1_2 : (Option Addr)) (tag6_2 : Addr) (t11_2 : Sl) (t12_2 : Int) (t13_2 : Int), D [(0, (.pointer l0_2)), (1, (.pointer s1_2)), (6, (.pointer (some tag6_2))), (11, (Sl.val t11_2)), (12, (.int .i64 t12_2)), (13, (.int .i64 t13_2))] (fun C => C [(0, (.pointer l0_2)), (1, (.pointer s1_2)), (6, (.pointer (some tag6_2))), (11, (Sl.val t11_2)), (12, (.int .i64 t12_2)), (13, (.int .i64 t13_2))] (locks_Locks_Enter.s2 Q X1 l0_2 s1_2 tag6_2 t11_2 t12_2 t13_2)) := by intros; exact ⟨fun _ ⟨_, _, _, _, _, _, h⟩ => ⟨_, _, h⟩⟩
  have hD9 : DH 9 2 [9, 12] (.s [0, 1, 2, 3, 4, 5, 6, 7] (.a [(8, 1, .a [(9, 0, .s [10, 11] (.a [(12, 0, .e)]))])])) := by intros; exact ⟨⟩
  have hD11 : DH 11 2 [9, 12] (.s [0, 1, 2, 3, 4, 5, 6, 7] (.a [(8, 1, .a [(9, 0, .s [10, 11] (.a [(12, 0, .e)]))])])) := by intros; exact ⟨⟩
  have hD7 : DH 7 1 [5] (.s [0, 1, 2, 3, 4] (.a [(5, 0, .e)])) := by intros; exact ⟨⟩
  have hD6 : DH 6 2 [5] (.s [0, 1, 2, 4] (.a [(3, 1, .a [(5, 0, .e)])])) := by intros; exact ⟨⟩
  have hJ1000005 : ∀ (X1 : Int → K), XH 2 X1 → JH 1000005 fun D => ∃ (l0_3 : (Option Addr)) (s1_3 : (Option Addr)) (tag6_3 : Addr) (m9_3 : Addr) (g10_3 : (Option Addr)) (t11_3 : Sl) (t12_3 : Int) (t13_3 : Int), D [(0, (.pointer l0_3)), (1, (.pointer s1_3)), (6, (.pointer (some tag6_3))), (9, (.pointer (some m9_3))), (10, (.pointer g10_3)), (11, (Sl.val t11_3)), (12, (.int .i64 t12_3)), (13, (.int .i64 t13_3))] (fun C => ∀ (t36_3 : Bool), C [(0, (.pointer l0_3)), (1, (.pointer s1_3)), (6, (.pointer (some tag6_3))), (9, (.pointer (some m9_3))), (10, (.pointer g10_3)), (11, (Sl.val t11_3)), (12, (.int .i64 t12_3)), (13, (.int .i64 t13_3)), (36, (.bool t36_3))] (locks_Locks_Enter.s3 Q X1 l0_3 s1_3 tag6_3 m9_3 g10_3 t11_3 t12_3 t13_3 t36_3)) := by intros; exact ⟨fun _ ⟨_, _, _, _, _, _, _, _, h⟩ => ⟨_, _, h⟩⟩
  have hD5 : DH 5 2 [14] (.s [0, 1, 2, 3, 4] (.a [(5, 1, .a [(6, 1, .s [7] (.i (.s [8, 9, 10, 11, 12, 13, 14, 15] .e) (.s [8, 9, 10, 11, 12] (.a [(13, 1, .a [(14, 0, .s [15] .e)])]))))])])) := by intros; exact ⟨⟩
  have hL2 : ∀ (l0_1 : (Option Addr)) (s1_1 : (Option Addr)) (tag6_1 : Addr) (t11_1 : Sl) (t12_1 : Int), LH 2 (fun x : Int => [(0, (.pointer l0_1)), (1, (.pointer s1_1)), (6, (.pointer (some tag6_1))), (11, (Sl.val t11_1)), (12, (.int .i64 t12_1)), (13, (.int .i64 x))]) (fun X x => locks_Locks_Enter.b1 Q X l0_1 s1_1 tag6_1 t11_1 t12_1 x) := by intros; exact ⟨⟩
  exact g_walk 77 h Tryz.func23
def locks_Locks_Leave.b1 (Q : K)  (X1 : K) (l0_1 : Addr) (tag3_1 : Addr) (t10_1 : (Option Addr))  : K :=
  Do Tryz.prog (Instr.next (.pointer t10_1) false 0) id fun t11 =>
  Ext t11 0 Value.bool fun t12 =>
  Ite t12
    (Do Tryz.prog (Instr.entry (.pointer t10_1)) id fun t13 =>
    Ext t13 1 Value.pointer fun t14 =>
    Dr <| WithS fun S =>
    Nn t14 fun t17 =>
    LdS S t17 Sl.val fun t19 =>
    LdNS S tag3_1 4 fun t20 =>
    locks_of.call t20 fun t21 =>
    Sv S <|
    slices_DeleteFunc_s_locks_claim_locks_claim.call t19 t21 fun t22 =>
    St t17 (Sl.val t22) <|
    Dr <| WithS fun S =>
    LdS S (t17.add 1) Sl.val fun t29 =>
    LdNS S tag3_1 4 fun t30 =>
    locks_of.call t30 fun t31 =>
    Sv S <|
    slices_DeleteFunc_s_locks_claim_locks_claim.call t29 t31 fun t32 =>
    St (t17.add 1) (Sl.val t32) <|
    X1)
    (Dr <|
    Ld (l0_1.add 1) Value.map fun t38 =>
    LdN tag3_1 4 fun t39 =>
    Do Tryz.prog (Builtin.delete_ #[69, 42] 0 #[(.map t38), (.agg t39)]) id fun _ =>
    Q)
def locks_Locks_Leave (l0 : (Option Addr)) (tag1 : (Array Value)) (Q : K) : K :=
  New 42 tag1 fun tag3 =>
  Nn l0 fun t7 =>
  Ld t7 Value.map fun t9 =>
  Do Tryz.prog (Instr.range 68 (.map t9)) Value.pointer fun t10 =>
  LoopK (α := Unit) (fun X x => locks_Locks_Leave.b1 Q (X ()) t7 tag3 t10) ()
theorem locks_Locks_Leave_ok (l0 : (Option Addr)) (tag1 : (Array Value)) (Q : K) (w : World) (h : locks_Locks_Leave l0 tag1 Q w) : locks_Locks_Leave.call l0 tag1 Q w := by
  have hD5 : DH 5 2 [7, 10] (.s [0, 1, 2, 3, 4, 5] (.a [(6, 1, .a [(7, 0, .s [8, 9] (.a [(10, 0, .e)]))])])) := by intros; exact ⟨⟩
  have hD4 : DH 4 2 [7, 10] (.s [0, 1, 2, 3, 4, 5] (.a [(6, 1, .a [(7, 0, .s [8, 9] (.a [(10, 0, .e)]))])])) := by intros; exact ⟨⟩
  have hD6 : DH 6 1 [5] (.s [0, 1, 2, 3, 4] (.a [(5, 0, .e)])) := by intros; exact ⟨⟩
  have hL2 : ∀ (l0_1 : Addr) (tag3_1 : Addr) (t10_1 : (Option Addr)), LH 2 (fun x : Unit => [(0, (.pointer (some l0_1))), (3, (.pointer (some tag3_1))), (10, (.pointer t10_1))]) (fun X x => locks_Locks_Leave.b1 Q (X ()) l0_1 tag3_1 t10_1) := by intros; exact ⟨⟩
  exact g_walk 40 h Tryz.func25
def locks_Locks_Moved.s2 (Q : K) (X1 : Int → K) (l3_2 : Addr) (g6_2 : Addr) (r7_2 : Addr) (t19_2 : Sl) (t20_2 : Int) (t21_2 : Int) : K :=
  Ar (IntKind.wrap .i64 (t21_2 + 1)) fun t36 =>
  X1 t36
def locks_Locks_Moved.b1 (Q : K)  (X1 : Int → K) (l3_1 : Addr) (g6_1 : Addr) (r7_1 : Addr) (t19_1 : Sl) (t20_1 : Int) (t21_1 : Int) : K :=
  Ite (decide (t21_1 < t20_1))
    (Idx t19_1 t21_1 7 fun t23 =>
    LdN t23 7 fun t24 =>
    New 99 #[(.int .i64 0), (.int .u64 0), (.int .u64 0), (.int .i64 0), (.string ⟨#[]⟩), (.int .i64 0), (.int .u64 0)] fun c9 =>
    StN c9 7 t24 <|
    LdN r7_1 4 fun t25 =>
    LdN (c9.add 4) 3 fun t27 =>
    route_Look.call t25 t27 fun t28 =>
    Ite (decide (t28 ≠ 0))
      (Dr <|
      Ld l3_1 Value.pointer fun t30 =>
      Nn t30 fun t31 =>
      Ld (t31.add 1) Value.map fun t33 =>
      LdN c9 4 fun t35 =>
      DoU Tryz.prog (Instr.mapUpdate 69 (.map t33) (.agg t35) (.int .i64 1)) <|
      locks_Locks_Moved.s2 Q X1 l3_1 g6_1 r7_1 t19_1 t20_1 t21_1)
      (locks_Locks_Moved.s2 Q X1 l3_1 g6_1 r7_1 t19_1 t20_1 t21_1))
    (Dr <| WithS fun S =>
    LdS S g6_1 Value.pointer fun t37 =>
    LdS S g6_1 Value.pointer fun t38 =>
    Nn t38 fun t39 =>
    LdS S (t39.add 1) Sl.val fun t41 =>
    slices_DeleteFunc_s_locks_claim_locks_claim.call t41 (.func (.func 52) #[] #[(.pointer (some r7_1)), (.pointer (some g6_1)), (.pointer (some l3_1))]) fun t43 =>
    Sv S <|
    Nn t37 fun t44 =>
    St (t44.add 1) (Sl.val t43) <|
    Q)
def locks_Locks_Moved (l0 : (Option Addr)) (s1 : (Option Addr)) (key2 : ByteArray) (Q : K) : K :=
  New 29 #[(.pointer l0)] fun l3 =>
  Ld l3 Value.pointer fun t10 =>
  locks_Locks_gate.call t10 key2 fun t12 =>
  store_Store_Get.call s1 key2 fun t15 =>
  New 85 #[(.pointer none)] fun g6 =>
  New 65 #[(.bool false), (Sl.val ⟨none, 0, 0⟩), (.int .i64 0), (.int .u64 0)] fun r7 =>
  St g6 (.pointer t12) <|
  StN r7 4 t15 <|
  Ld g6 Value.pointer fun t16 =>
  Nn t16 fun t17 =>
  Ld t17 Sl.val fun t19 =>
  LoopK (α := Int) (fun X x => locks_Locks_Moved.b1 Q X l3 g6 r7 t19 (t19.n : Int) x) 0
theorem locks_Locks_Moved_ok (l0 : (Option Addr)) (s1 : (Option Addr)) (key2 : ByteArray) (Q : K) (w : World) (h : locks_Locks_Moved l0 s1 key2 Q w) : locks_Locks_Moved.call l0 s1 key2 Q w := by
  have hJ7 : ∀ (X1 : Int → K), XH 3 X1 → JH 7 fun D => ∃ (l3_2 : Addr) (g6_2 : Addr) (r7_2 : Addr) (t19_2 : Sl) (t20_2 : Int) (t21_2 : Int), D [(3, (.pointer (some l3_2))), (6, (.pointer (some g6_2))), (7, (.pointer (some r7_2))), (19, (Sl.val t19_2)), (20, (.int .i64 t20_2)), (21, (.int .i64 t21_2))] (fun C => C [(3, (.pointer (some l3_2))), (6, (.pointer (some g6_2))), (7, (.pointer (some r7_2))), (19, (Sl.val t19_2)), (20, (.int .i64 t20_2)), (21, (.int .i64 t21_2))] (locks_Locks_Moved.s2 Q X1 l3_2 g6_2 r7_2 t19_2 t20_2 t21_2)) := by intros; exact ⟨fun _ ⟨_, _, _, _, _, _, h⟩ => ⟨_, _, h⟩⟩
  have hD6 : DH 6 1 [6] (.s [4, 0, 1, 2, 3, 5] (.a [(6, 0, .e)])) := by intros; exact ⟨⟩
  have hD8 : DH 8 2 [9] (.s [5, 0, 1, 2, 3, 4] (.a [(6, 1, .s [7, 8] (.a [(9, 0, .e)]))])) := by intros; exact ⟨⟩
  have hL3 : ∀ (l3_1 : Addr) (g6_1 : Addr) (r7_1 : Addr) (t19_1 : Sl) (t20_1 : Int), LH 3 (fun x : Int => [(3, (.pointer (some l3_1))), (6, (.pointer (some g6_1))), (7, (.pointer (some r7_1))), (19, (Sl.val t19_1)), (20, (.int .i64 t20_1)), (21, (.int .i64 x))]) (fun X x => locks_Locks_Moved.b1 Q X l3_1 g6_1 r7_1 t19_1 t20_1 x) := by intros; exact ⟨⟩
  exact g_walk 46 h Tryz.func30
def locks_Locks_Keys_1 (key0 : ByteArray) (t1 : Addr) (Q : Bool → K) : K :=
  Ld t1 Value.pointer fun t5 =>
  Nn t5 fun t6 =>
  Ld t6 Value.map fun t8 =>
  Rd Tryz.prog (Instr.lookup 68 (.map t8) (.string key0) false) Value.pointer fun t10 =>
  Dr <|
  Nn t10 fun t12 =>
  Ld t12 Sl.val fun t14 =>
  Ld (t12.add 1) Sl.val fun t19 =>
  Ar (IntKind.wrap .i64 ((t14.n : Int) + (t19.n : Int))) fun t21 =>
  Q (decide (t21 = 0))
theorem locks_Locks_Keys_1_ok (key0 : ByteArray) (t1 : Addr) (Q : Bool → K) (w : World) (h : locks_Locks_Keys_1 key0 t1 Q w) : locks_Locks_Keys_1.call key0 t1 Q w := by
  exact g_walk 23 h Tryz.func36
def locks_of (tag0 : (Array Value)) (Q : Value → K) : K :=
  New 42 tag0 fun tag1 =>
  Q (.func (.func 61) #[] #[(.pointer (some tag1))])
theorem locks_of_ok (tag0 : (Array Value)) (Q : Value → K) (w : World) (h : locks_of tag0 Q w) : locks_of.call tag0 Q w := by
  exact g_walk 4 h Tryz.func41
def locks_tags.b1 (Q : Sl → K)  (X1 : Sl → Int → K) (t5_1 : Sl) (t6_1 : Int) (out2_1 : Sl) (t7_1 : Int) : K :=
  Ite (decide (t7_1 < t6_1))
    (Idx t5_1 t7_1 7 fun t9 =>
    LdN t9 7 fun t10 =>
    New 99 #[(.int .i64 0), (.int .u64 0), (.int .u64 0), (.int .i64 0), (.string ⟨#[]⟩), (.int .i64 0), (.int .u64 0)] fun c4 =>
    StN c4 7 t10 <|
    LdN c4 4 fun t13 =>
    Bld #[(.int .i64 0), (.int .u64 0), (.int .u64 0), (.int .i64 0)] (fun i => some (i * 4, 4)) [(0, (.agg t13))] fun ct14 =>
    New 42 ct14 fun t14 =>
    Do Tryz.prog (Builtin.append_ #[35, 35] 35 #[(Sl.val out2_1), (Sl.val (Sl.mk (some t14) 1 1))]) Sl.val fun t15 =>
    Ar (IntKind.wrap .i64 (t7_1 + 1)) fun t16 =>
    X1 t15 t16)
    (Q out2_1)
def locks_tags (list0 : Sl) (Q : Sl → K) : K :=
  LoopK (α := Sl × Int) (fun X x => locks_tags.b1 Q (fun out2_1 t7_1 => X (out2_1, t7_1)) list0 (list0.n : Int) x.1 x.2) ((Sl.mk none 0 0), 0)
theorem locks_tags_ok (list0 : Sl) (Q : Sl → K) (w : World) (h : locks_tags list0 Q w) : locks_tags.call list0 Q w := by
  have hL2 : ∀ (t5_1 : Sl) (t6_1 : Int), LH 2 (fun x : Sl × Int => [(2, (Sl.val x.1)), (5, (Sl.val t5_1)), (6, (.int .i64 t6_1)), (7, (.int .i64 x.2))]) (fun X x => locks_tags.b1 Q (fun out2_1 t7_1 => X (out2_1, t7_1)) t5_1 t6_1 x.1 x.2) := by intros; exact ⟨⟩
  exact g_walk 18 h Tryz.func43
def locks_Locks_gate.s1 (Q : (Option Addr) → K)  (l0_1 : (Option Addr)) (key1_1 : ByteArray) : K :=
  Nn l0_1 fun t20 =>
  Ld t20 Value.map fun t22 =>
  Rd Tryz.prog (Instr.lookup 68 (.map t22) (.string key1_1) false) Value.pointer fun t24 =>
  Q t24
def locks_Locks_gate (l0 : (Option Addr)) (key1 : ByteArray) (Q : (Option Addr) → K) : K :=
  Nn l0 fun t6 =>
  Ld t6 Value.map fun t8 =>
  Rd Tryz.prog (Instr.lookup 68 (.map t8) (.string key1) false) Value.pointer fun t10 =>
  Ite ((t10).isNone)
    (Ld t6 Value.map fun t15 =>
    New 88 #[(Sl.val ⟨none, 0, 0⟩), (Sl.val ⟨none, 0, 0⟩)] fun t18 =>
    DoU Tryz.prog (Instr.mapUpdate 68 (.map t15) (.string key1) (.pointer (some t18))) <|
    locks_Locks_gate.s1 Q (some t6) key1)
    (locks_Locks_gate.s1 Q (some t6) key1)
theorem locks_Locks_gate_ok (l0 : (Option Addr)) (key1 : ByteArray) (Q : (Option Addr) → K) (w : World) (h : locks_Locks_gate l0 key1 Q w) : locks_Locks_gate.call l0 key1 Q w := by
  have hJ3 : JH 3 fun D => ∃ (l0_1 : (Option Addr)) (key1_1 : ByteArray), D [(0, (.pointer l0_1)), (1, (.string key1_1))] (fun C => C [(0, (.pointer l0_1)), (1, (.string key1_1))] (locks_Locks_gate.s1 Q l0_1 key1_1)) := by intros; exact ⟨fun _ ⟨_, _, h⟩ => ⟨_, _, h⟩⟩
  exact g_walk 25 h Tryz.func44
def locks_Locks_Moved_1.s1 (Q : Bool → K)  (how6_1 : Int) : K :=
  Q (decide (how6_1 ≠ 1))
def locks_Locks_Moved_1 (c0 : (Array Value)) (t1 : Addr) (t2 : Addr) (t3 : Addr) (Q : Bool → K) : K :=
  New 99 c0 fun c4 =>
  LdN t1 4 fun t7 =>
  LdN (c4.add 4) 3 fun t9 =>
  route_Look.call t7 t9 fun t10 =>
  Ite (decide (t10 = 0))
    (Dr <| WithS fun S =>
    LdS S t2 Value.pointer fun t14 =>
    LdS S t2 Value.pointer fun t15 =>
    Nn t15 fun t16 =>
    LdS S t16 Sl.val fun t18 =>
    LdNS S c4 7 fun t19 =>
    Bld #[(.int .i64 0), (.int .u64 0), (.int .u64 0), (.int .i64 0), (.string ⟨#[]⟩), (.int .i64 0), (.int .u64 0)] (fun i => some (i * 7, 7)) [(0, (.agg t19))] fun ct20 =>
    New 99 ct20 fun t20 =>
    Sv S <|
    Do Tryz.prog (Builtin.append_ #[86, 86] 86 #[(Sl.val t18), (Sl.val (Sl.mk (some t20) 1 1))]) Sl.val fun t21 =>
    Sv S <|
    Nn t14 fun t22 =>
    St t22 (Sl.val t21) <|
    locks_Locks_Moved_1.s1 Q t10)
    (Ite (decide (t10 = 2))
      (Dr <|
      Ld t3 Value.pointer fun t26 =>
      Nn t26 fun t27 =>
      Ld (t27.add 1) Value.map fun t29 =>
      LdN c4 4 fun t31 =>
      DoU Tryz.prog (Instr.mapUpdate 69 (.map t29) (.agg t31) (.int .i64 1)) <|
      locks_Locks_Moved_1.s1 Q t10)
      (locks_Locks_Moved_1.s1 Q t10))
theorem locks_Locks_Moved_1_ok (c0 : (Array Value)) (t1 : Addr) (t2 : Addr) (t3 : Addr) (Q : Bool → K) (w : World) (h : locks_Locks_Moved_1 c0 t1 t2 t3 Q w) : locks_Locks_Moved_1.call c0 t1 t2 t3 Q w := by
  have hJ7 : JH 7 fun D => ∃ (how6_1 : Int), D [(6, (.int .i64 how6_1))] (fun C => C [(6, (.int .i64 how6_1))] (locks_Locks_Moved_1.s1 Q how6_1)) := by intros; exact ⟨fun _ ⟨_, h⟩ => ⟨_, _, h⟩⟩
  have hD4 : DH 4 2 [10] (.s [0, 1, 2, 3, 4, 5] (.a [(6, 1, .a [(7, 1, .s [8, 9] (.a [(10, 0, .e)]))])])) := by intros; exact ⟨⟩
  have hD6 : DH 6 1 [6] (.s [4, 0, 1, 2, 3, 5] (.a [(6, 0, .e)])) := by intros; exact ⟨⟩
  exact g_walk 34 h Tryz.func52
def locks_of_1 (c0 : (Array Value)) (t1 : Addr) (Q : Bool → K) : K :=
  New 99 c0 fun c2 =>
  LdN c2 4 fun t5 =>
  LdN t1 4 fun t6 =>
  Pu Tryz.prog (do eqGuard .eql 42 (.tmp 5) (.tmp 6) (.agg t5) (.agg t6); binOp .eql 42 (.agg t5) (.agg t6) : Sem Value) Value.bool fun t7 =>
  Q t7
theorem locks_of_1_ok (c0 : (Array Value)) (t1 : Addr) (Q : Bool → K) (w : World) (h : locks_of_1 c0 t1 Q w) : locks_of_1.call c0 t1 Q w := by
  exact g_walk 8 h Tryz.func61
end Go.Proofs.YtihncgfghpbhdaaGreat
/- Locks: gates and claims; Enter, Doomed, Leave. -/
namespace Go.Proofs.YtihncgfghpbhdaaGreat
open Go Go.Sep Go.Sep.Bt
set_option linter.unusedSimpArgs false
set_option linter.unusedVariables false
set_option linter.unusedSectionVars false
set_option maxRecDepth 100000

structure MarkM where
  key : List UInt8
  home : Int
  cnt : Int
deriving DecidableEq
abbrev markF (m : MarkM) : List Value := [strV m.key, .int .i64 m.home, .int .u64 m.cnt]
abbrev Claim := TagM × MarkM
abbrev clF (c : Claim) : List Value := [.int .i64 c.1.node, .int .u64 c.1.epoch, .int .u64 c.1.seq, .int .i64 c.1.tr, strV c.2.key, .int .i64 c.2.home, .int .u64 c.2.cnt]
theorem clF_len (c : Claim) : (clF c).length = 7 := rfl
theorem markF_len (c : MarkM) : (markF c).length = 3 := rfl
theorem clF_fl (L : List Claim) : ∀ v ∈ L.flatMap clF, flatV v = true := fun v hv => by
  obtain ⟨x, _, hx⟩ := List.mem_flatMap.1 hv
  simp only [clF, List.mem_cons, List.not_mem_nil, or_false] at hx
  rcases hx with rfl | rfl | rfl | rfl | rfl | rfl | rfl <;> rfl
theorem mapFD : Tryz.prog.underlying ty_map_api_Tag_int = some (.map ty_api_Tag ty_int) := by kernel_rfl
theorem keyS_tag : KeyS Tryz.prog ty_api_Tag tagF := ⟨by kernel_rfl, ⟨tagK, by kernel_rfl, fun _ => rfl⟩, fun a b h => tagF_inj.1 h, fun a => by simp [Instr.sameBits]⟩

/-! ### the model -/
abbrev GM := List (List UInt8 × (List Claim × List Claim))
abbrev DM := TagM → Bool
abbrev KeysU {ν : Type} (W : List (List UInt8 × ν)) : Prop := (W.map Prod.fst).Nodup
def gateM (k : List UInt8) (M : GM) : GM := if (mget k M).isNone then M ++ [(k, ([], []))] else M
def atM (k : List UInt8) (M : GM) : List Claim × List Claim := (mget k M).getD ([], [])
def hasT (tag : TagM) (L : List Claim) : Bool := L.any fun c => decide (c.1 = tag)
def dset (dm : DM) (tag : TagM) (b : Bool) : DM := fun t => if t = tag then b else dm t
def markLook (n : Nat) (S : Recs) (m : MarkM) : Int := lookS (sGet n S (bs m.key)).cnt m.cnt (sGet n S (bs m.key)).home m.home
def enter1 (n : Nat) (S : Recs) (tag : TagM) (x : GM × DM) (m : MarkM) : GM × DM :=
  if hasT tag (atM m.key x.1).1 || hasT tag (atM m.key x.1).2 then (gateM m.key x.1, x.2)
  else if markLook n S m = 0 then (mset m.key ((atM m.key x.1).1 ++ [(tag, m)], (atM m.key x.1).2) (gateM m.key x.1), x.2)
  else if markLook n S m = 1 then (mset m.key ((atM m.key x.1).1, (atM m.key x.1).2 ++ [(tag, m)]) (gateM m.key x.1), x.2)
  else (gateM m.key x.1, dset x.2 tag true)
def enterM (n : Nat) (S : Recs) (tag : TagM) (ms : List MarkM) (x : GM × DM) : GM × DM := ms.foldl (enter1 n S tag) x
def noT (tag : TagM) (L : List Claim) : List Claim := L.filter fun c => !decide (c.1 = tag)
def leaveM (tag : TagM) (x : GM × DM) : GM × DM := (x.1.map fun p => (p.1, (noT tag p.2.1, noT tag p.2.2)), dset x.2 tag false)
/-- How much there is. -/
def gsz (M : GM) (N : Nat) : Prop := M.length ≤ N ∧ ∀ p ∈ M, p.2.1.length ≤ N ∧ p.2.2.length ≤ N
theorem gsz_le {M : GM} {a b : Nat} (h : gsz M a) (hab : a ≤ b) : gsz M b := ⟨by have := h.1; omega, fun p hp => by have := h.2 p hp; omega⟩
theorem gsz_at {M : GM} {k : List UInt8} {N : Nat} (h : gsz M N) : (atM k M).1.length ≤ N ∧ (atM k M).2.length ≤ N := by
  unfold atM
  cases hm : mget k M with
  | none => simp
  | some v => exact h.2 _ (mget_some hm)
theorem gsz_gate {M : GM} {k : List UInt8} {N : Nat} (h : gsz M N) : gsz (gateM k M) (N + 1) := by
  unfold gateM
  split
  · refine ⟨by simp; exact h.1, fun p hp => ?_⟩
    rcases List.mem_append.1 hp with hp | hp
    · have := h.2 p hp; omega
    · rw [List.mem_singleton.1 hp]; simp
  · exact gsz_le h (by omega)
theorem mset_len {M : GM} {k : List UInt8} {v : List Claim × List Claim} (h : (mget k M).isSome = true) : (mset k v M).length = M.length := by
  rcases mfind k M with ⟨h1, _⟩ | ⟨j, x, hj, _, _, _, h2, _⟩
  · rw [h1] at h; cases h
  · rw [h2]; simp
theorem gate_some {M : GM} {k : List UInt8} : (mget k (gateM k M)).isSome = true := by
  unfold gateM
  split
  · rename_i h
    have h' : mget k M = none := by simpa using h
    have := mset_none (v := ([], [])) h'
    rw [← this, mget_mset]; simp
  · rename_i h; simpa [Option.isNone_iff_eq_none, Option.isSome_iff_ne_none] using h
theorem mem_mset {ν : Type} {M : List (List UInt8 × ν)} {k : List UInt8} {v : ν} {p : List UInt8 × ν} (h : p ∈ mset k v M) : p = (k, v) ∨ p ∈ M := by
  rcases mfind k M with ⟨_, h2, _⟩ | ⟨j, x, hj, _, _, _, h2, _⟩
  · rw [h2] at h
    rcases List.mem_append.1 h with h | h
    · exact .inr h
    · exact .inl (List.mem_singleton.1 h)
  · rw [h2] at h
    rcases List.mem_or_eq_of_mem_set h with h | h
    · exact .inr h
    · exact .inl h
theorem gsz_mset {M : GM} {k : List UInt8} {v : List Claim × List Claim} {N : Nat} (h : gsz M N) (hs : (mget k M).isSome = true) (h1 : v.1.length ≤ N) (h2 : v.2.length ≤ N) : gsz (mset k v M) N :=
  ⟨by rw [mset_len hs]; exact h.1, fun p hp => by
    rcases mem_mset hp with rfl | hp
    · exact ⟨h1, h2⟩
    · exact h.2 p hp⟩
theorem gsz_enter {n : Nat} {S : Recs} {tag : TagM} {x : GM × DM} {m : MarkM} {N : Nat} (h : gsz x.1 N) : gsz (enter1 n S tag x m).1 (N + 1) := by
  have h1 := gsz_gate (k := m.key) h
  have h2 := gsz_at (k := m.key) h
  unfold enter1
  split
  · exact h1
  · split
    · exact gsz_mset h1 gate_some (by simp; omega) (by simp only; omega)
    · split
      · exact gsz_mset h1 gate_some (by simp only; omega) (by simp; omega)
      · exact h1
theorem gate_keys {ν : Type} {M : List (List UInt8 × ν)} {k : List UInt8} {v : ν} (h : KeysU M) (hk : mget k M = none) : KeysU (M ++ [(k, v)]) := by
  have e := mset_none (v := v) hk
  have h2 := mset_keys M k v
  unfold KeysU
  rw [← e, h2]
  split
  · exact h
  · rename_i hk
    refine List.nodup_append.2 ⟨h, by simp, fun a ha b hb => ?_⟩
    rw [List.mem_singleton.1 hb]
    exact fun e => hk (e ▸ ha)
theorem mget_split {ν : Type} {M : List (List UInt8 × ν)} {k : List UInt8} {v : ν} (h : mget k M = some v) : ∃ A C, M = A ++ (k, v) :: C := by
  induction M with
  | nil => cases h
  | cons p M ih =>
    unfold mget at h
    split at h
    · rename_i e; injection h with h; exact ⟨[], M, by rw [e, ← h]; rfl⟩
    · obtain ⟨A, C, rfl⟩ := ih h; exact ⟨p :: A, C, rfl⟩
theorem once_mid {ν : Type} {A C : List (List UInt8 × ν)} {k : List UInt8} {v : ν} (h : KeysU (A ++ (k, v) :: C)) : (∀ p ∈ A, p.1 ≠ k) ∧ ∀ p ∈ C, p.1 ≠ k := by
  unfold KeysU at h
  rw [List.map_append, List.map_cons] at h
  obtain ⟨_, h2, h3⟩ := List.nodup_append.1 h
  refine ⟨fun p hp => h3 _ (List.mem_map.2 ⟨p, hp, rfl⟩) _ List.mem_cons_self, fun p hp e => (List.nodup_cons.1 h2).1 (e ▸ List.mem_map.2 ⟨p, hp, rfl⟩)⟩
theorem mget_mid {ν : Type} {A C : List (List UInt8 × ν)} {k : List UInt8} {v : ν} (h : ∀ p ∈ A, p.1 ≠ k) : mget k (A ++ (k, v) :: C) = some v := by
  induction A with
  | nil => simp [mget]
  | cons p A ih =>
    rw [List.cons_append, mget, if_neg (fun e => h p List.mem_cons_self e.symm)]
    exact ih fun q hq => h q (List.mem_cons_of_mem _ hq)
theorem mset_mid {ν : Type} {A C : List (List UInt8 × ν)} {k : List UInt8} {v v' : ν} (h : ∀ p ∈ A, p.1 ≠ k) : mset k v' (A ++ (k, v) :: C) = A ++ (k, v') :: C := by
  induction A with
  | nil => simp [mset]
  | cons p A ih =>
    rw [List.cons_append, mset, if_neg (fun e => h p List.mem_cons_self e.symm), ih fun q hq => h q (List.mem_cons_of_mem _ hq)]
    rfl

/-! ### what is owned -/
structure GateX where
  b : Nat
  ls : Sl
  ps : Sl
  line : List Claim
  park : List Claim
abbrev gV (g : GateX) : Value := .pointer (some ⟨g.b, 0, none⟩)
abbrev gL (g : GateX) (Γ : List HProp) : List HProp := blk g.b (.cells [g.ls.val, g.ps.val].toArray ty_locks_gate (0, 0)) :: SlC ty_locks_claim 7 g.ls (g.line.flatMap clF) :: SlC ty_locks_claim 7 g.ps (g.park.flatMap clF) :: Γ
abbrev gB (x : List UInt8 × GateX) : HProp := Sep.stars (gL x.2 [])
abbrev GX := List (List UInt8 × GateX)
abbrev modG (X : GX) : GM := X.map fun p => (p.1, (p.2.line, p.2.park))
abbrev lockF (l gm db : Nat) (X Y : GX) (D : List (TagM × Int)) (Γ : List HProp) : List HProp :=
  blk l (.cells [.map (some gm), .map (some db)].toArray ty_locks_Locks (0, 0)) :: MapR strV gV gm X :: Sep.stars (Y.map gB) :: MapR (kyS tagF) (Value.int .i64) db D :: Γ
structure LF (M : GM) (dm : DM) (X : GX) (D : List (TagM × Int)) : Prop where
  mod : modG X = M
  once : KeysU X
  doom : ∀ t, dm t = decide (0 < (mget t D).getD 0)
  nd : (D.map Prod.fst).Nodup
def LocksR (l : Nat) (M : GM) (dm : DM) : HProp := ex fun gm => ex fun db => ex fun X : GX => ex fun D => Sep.stars (pur (LF M dm X D) :: lockF l gm db X X D [])
section
variable {B : World} {Γ Δ : List HProp} {k : K} {l gm db st n : Nat} {M : GM} {dm : DM} {X : GX} {D : List (TagM × Int)} {S : Recs} {tag : TagM}
instance (priority := high) own_locks : Sep.Own l (LocksR l M dm :: Γ) (LocksR l M dm) Γ := ⟨.refl _⟩
theorem s_locks (h : ∀ gm db X D, LF M dm X D → HG B (lockF l gm db X X D Γ) k) : HG B (LocksR l M dm :: Γ) k :=
  s_ex fun gm => s_ex fun db => s_ex fun X => s_ex fun D => s_flat <| s_pur fun h1 => h gm db X D h1
theorem s_mkLocks (h1 : LF M dm X D) (h : HG B (LocksR l M dm :: Γ) k) : HG B (lockF l gm db X X D Γ) k := fun w hw => by
  refine h w ?_
  have h3 : Holds B (Sep.stars (pur (LF M dm X D) :: lockF l gm db X X D []) :: Γ) w := Holds.flat.2 (Holds.pur.2 ⟨h1, hw⟩)
  exact h3.imp fun g hg => ⟨gm, db, X, D, hg⟩
theorem mapR_cong {α β : Type} [DecidableEq α] {enc : α → Value} {cV : β → Value} {b : Nat} {m m' : List (α × β)} (h : (m.map fun p => (enc p.1, cV p.2)) = m'.map fun p => (enc p.1, cV p.2)) : ∀ g, MapR enc cV b m g → MapR enc cV b m' g := fun g hg => by
  obtain ⟨es, c, ⟨h1, h2⟩, h3⟩ := hg
  exact ⟨es, c, ⟨by unfold mrel at h1 ⊢; rw [h1, h], h2⟩, h3⟩
/-- One gate is looked at. -/
theorem s_gate {A C : GX} {key : List UInt8} {g : GateX} (hX : X = A ++ (key, g) :: C) (h : HG B (gL g (lockF l gm db X (A ++ C) D Γ)) k) : HG B (lockF l gm db X X D Γ) k := by
  refine s_pick (Sep.stars (X.map gB)) ?_
  rw [show Sep.stars (X.map gB) = Sep.stars ((A ++ (key, g) :: C).map gB) by rw [hX]]
  refine s_mid ?_
  refine s_flat ?_
  show HG B (gL g (_ :: _ :: _ :: _ :: Γ)) k
  exact s_end h
theorem s_ungate {A C : GX} {key : List UInt8} {g g' : GateX} {dm' : DM} {D' : List (TagM × Int)} (hX : X = A ++ (key, g) :: C) (hb : g'.b = g.b) (hf : LF M dm X D) (hd : (∀ t, dm' t = decide (0 < (mget t D').getD 0)) ∧ (D'.map Prod.fst).Nodup)
    (h : HG B (LocksR l (mset key (g'.line, g'.park) M) dm' :: Γ) k) : HG B (gL g' (lockF l gm db X (A ++ C) D' Γ)) k := by
  have ho := hf.once
  rw [hX] at ho
  have hA := (once_mid ho).1
  refine s_unflat (Δ := gL g' []) ?_
  refine s_pick (Sep.stars ((A ++ C).map gB)) ?_
  refine s_pick (Sep.stars (gL g' [])) ?_
  refine s_unmid (F := gB) (x := (key, g')) ?_
  refine s_pick (MapR strV gV gm X) ?_
  refine s_conv (mapR_cong (m' := A ++ (key, g') :: C) ?_) ?_
  · rw [hX]; simp [gV, hb]
  refine s_pick (MapR (kyS tagF) (Value.int .i64) db D') ?_
  refine s_pick (Sep.stars ((A ++ (key, g') :: C).map gB)) ?_
  refine s_pick (MapR strV gV gm (A ++ (key, g') :: C)) ?_
  refine s_own l ?_
  refine s_mkLocks ⟨?_, ?_, hd.1, hd.2⟩ h
  · rw [← hf.mod, hX]
    simp only [modG, List.map_append, List.map_cons]
    rw [mset_mid]
    intro p hp
    obtain ⟨q, hq, rfl⟩ := List.mem_map.1 hp
    exact hA q hq
  · unfold KeysU at ho ⊢
    simpa using ho
theorem lf_at {A C : GX} {key : List UInt8} {g : GateX} (hX : X = A ++ (key, g) :: C) (hf : LF M dm X D) : atM key M = (g.line, g.park) := by
  have ho := hf.once
  rw [hX] at ho
  unfold atM
  rw [← hf.mod, hX]
  simp only [modG, List.map_append, List.map_cons]
  rw [mget_mid]; rfl
  intro p hp
  obtain ⟨q, hq, rfl⟩ := List.mem_map.1 hp
  exact (once_mid ho).1 q hq
abbrev g0 (gb : Nat) : GateX := ⟨gb, ⟨none, 0, 0⟩, ⟨none, 0, 0⟩, [], []⟩
theorem zero_gate : zeroT Tryz.prog ty_p_locks_gate (.pointer none) := zero_ty_p_locks_gate
/-- A key's gate. -/
theorem gate_hg {key : List UInt8} {Q : Option Addr → K} (h : ∀ gm db X D A g C, LF (gateM key M) dm X D → X = A ++ (key, g) :: C → HG B (gL g (lockF l gm db X (A ++ C) D Γ)) (Q (some ⟨g.b, 0, none⟩))) :
    HG B (LocksR l M dm :: Γ) (locks_Locks_gate.call (some ⟨l, 0, none⟩) (bs key) Q) := by
  refine fun w hw => locks_Locks_gate_ok _ _ _ _ ?_
  refine hg hw ?_
  clear hw w
  refine s_locks fun gm db X D hf => ?_
  unfold locks_Locks_gate
  repeat refine s_nx ?_
  have hl : ∀ {Γ : List HProp} {q : Option Addr → K} {X : GX} {Δ : List HProp} [p : Sep.Own gm Γ (MapR strV gV gm X) Δ], HG B Γ (q ((mget key X).map fun g => ⟨g.b, 0, none⟩)) → HG B Γ (Rd Tryz.prog (Instr.lookup ty_map_string_p_locks_gate (.map (some gm)) (strV key) false) Value.pointer q) := fun {Γ q X Δ p} h w hw => by
    obtain ⟨es, c, ⟨hr, hst⟩, h1⟩ := MapR.opens (hw.perm p.perm)
    have := run_lookZ (a := key) mapFL keyE_str zero_gate h1.block hr false
    refine ⟨(mget key X).map fun g => ⟨g.b, 0, none⟩, ?_, h w hw⟩
    rw [this]
    cases mget key X <;> rfl
  have fin : ∀ {Γ : List HProp} (M2 : GM) (X : GX) (g : GateX), mget key X = some g → LF M2 dm X D → (∀ A C, X = A ++ (key, g) :: C → HG B (gL g (lockF l gm db X (A ++ C) D Γ)) (Q (some ⟨g.b, 0, none⟩))) → HG B (lockF l gm db X X D Γ) (locks_Locks_gate.s1 Q (some ⟨l, 0, none⟩) (bs key)) := fun M2 X g hg hf hk => by
    unfold locks_Locks_gate.s1
    repeat refine s_nx ?_
    refine hl (X := X) ?_
    rw [hg]
    obtain ⟨A, C, hX⟩ := mget_split hg
    exact s_gate hX (hk A C hX)
  refine hl (X := X) ?_
  have hmm : mget key M = (mget key X).map fun g => (g.line, g.park) := by rw [← hf.mod]; exact mget_map (fun g : GateX => (g.line, g.park)) key X
  cases hm : mget key X with
  | none =>
    rw [hm] at hmm
    have hgm : gateM key M = M ++ [(key, ([], []))] := by unfold gateM; rw [hmm]; rfl
    rw [hgm] at h
    refine s_t ?_
    repeat refine s_nx ?_
    refine s_new fun gb => ?_
    refine s_upd (cG := Value.bool) (b := gm) (enc := strV) (cV := gV) (v := g0 gb) rfl mapFL keyE_str ?_
    have hms := mset_none (v := g0 gb) hm
    rw [hms]
    refine fun w hw => ?_
    refine hg (show Holds B (SlC ty_locks_claim 7 ⟨none, 0, 0⟩ [] :: _) w from hw.nilSl _ _) ?_
    clear hw w
    refine fun w hw => ?_
    refine hg (show Holds B (SlC ty_locks_claim 7 ⟨none, 0, 0⟩ [] :: _) w from hw.nilSl _ _) ?_
    clear hw w
    refine s_own gb ?_
    show HG B (gL (g0 gb) (MapR strV gV gm (X ++ [(key, g0 gb)]) :: blk l (.cells [.map (some gm), .map (some db)].toArray ty_locks_Locks (0, 0)) :: Sep.stars (X.map gB) :: MapR (kyS tagF) (Value.int .i64) db D :: Γ)) _
    refine s_unflat (Δ := gL (g0 gb) []) ?_
    refine s_pick (Sep.stars (X.map gB)) ?_
    refine s_pick (Sep.stars (gL (g0 gb) [])) ?_
    rw [show Sep.stars (X.map gB) = Sep.stars ((X ++ []).map gB) by rw [List.append_nil]]
    refine s_unmid (F := gB) (x := (key, g0 gb)) ?_
    refine s_own db ?_
    refine s_pick (Sep.stars ((X ++ [(key, g0 gb)]).map gB)) ?_
    refine s_own gm ?_
    refine s_own l ?_
    have hf' : LF (M ++ [(key, ([], []))]) dm (X ++ [(key, g0 gb)]) D := ⟨by simp [modG, ← hf.mod], gate_keys hf.once hm, hf.doom, hf.nd⟩
    refine fin _ _ (g0 gb) ?_ hf' fun A C hX => h gm db _ D A _ C hf' hX
    rw [← hms, mget_mset]; simp
  | some g =>
    rw [hm] at hmm
    have hgm : gateM key M = M := by unfold gateM; rw [hmm]; rfl
    rw [hgm] at h
    refine s_f ?_
    exact fin M X g hm hf fun A C hX => h gm db X D A g C hf hX

/-! ### of -/
abbrev ofV (b : Nat) : Value := .func (.func 61) #[] #[.pointer (some ⟨b, 0, none⟩)]
theorem ofCall_hg {Q : Value → K} (h : ∀ b, HG B (blk b (.cells (tagF tag).toArray ty_api_Tag (0, 0)) :: Γ) (Q (ofV b))) : HG B Γ (locks_of.call (tagF tag).toArray Q) := by
  refine fun w hw => locks_of_ok _ _ _ ?_
  refine hg hw ?_
  clear hw w
  unfold locks_of
  exact s_new fun b => h b
theorem of_hg {b : Nat} {c : Claim} {q : Bool → K} (h : HG B Γ (q (decide (c.1 = tag)))) [p : Sep.Own b Γ (blk b (.cells (tagF tag).toArray ty_api_Tag (0, 0))) Δ] :
    HG B Γ (CallV Tryz.prog (ofV b) [.agg (clF c).toArray] (Ans1 (fun (t : Bool) => Value.bool t) q)) := by
  refine s_callvC (cs := [.pointer (some ⟨b, 0, none⟩)]) ?_
  refine fun w hw => locks_of_1_ok _ _ _ _ ?_
  refine hg hw ?_
  clear hw w
  unfold locks_of_1
  refine s_new fun c2 => ?_
  repeat refine s_nx ?_
  refine s_eqS (xs := tagF c.1) (ys := tagF tag) (ks := tagK) tagF_inj ?_
  exact s_end h
theorem indexC {s : Sl} {L : List Claim} {b : Nat} {Δ2 : List HProp} {Q : Int → K} (hL : L.length < 1000000000) (h : HG B Γ (Q (idxI (L.findIdx? fun c => decide (c.1 = tag))))) [o : OwnS s Γ (SlC ty_locks_claim 7 s (L.flatMap clF)) Δ2] [p : Sep.Own b Γ (blk b (.cells (tagF tag).toArray ty_api_Tag (0, 0))) Δ] :
    HG B Γ (slices_IndexFunc_s_locks_claim_locks_claim.call s (ofV b) Q) := by
  refine s_cap s fun a1 a2 a3 a4 => ?_
  rw [flatMap_len _ 7 clF_len] at a1
  refine fun w hw => slices_IndexFunc_s_locks_claim_locks_claim_ok _ _ _ _ ?_
  refine hg hw ?_
  clear hw w
  show HG B Γ (idxFK Tryz.prog (accN 7) s (ofV b) Q)
  exact s_idxFp (vV := fun c => .agg (clF c).toArray) (L := L) (fun c => decide (c.1 = tag)) (by omega) hL (fun i x k hx hk => acc_own (s := s) clF_len (by omega) hx hk) (fun x q _ hq => of_hg hq) h
theorem containsC {s : Sl} {L : List Claim} {b : Nat} {Δ2 : List HProp} {Q : Bool → K} (hL : L.length < 1000000000) (h : HG B Γ (Q (hasT tag L))) [o : OwnS s Γ (SlC ty_locks_claim 7 s (L.flatMap clF)) Δ2] [p : Sep.Own b Γ (blk b (.cells (tagF tag).toArray ty_api_Tag (0, 0))) Δ] :
    HG B Γ (slices_ContainsFunc_s_locks_claim_locks_claim.call s (ofV b) Q) := by
  refine fun w hw => slices_ContainsFunc_s_locks_claim_locks_claim_ok _ _ _ _ ?_
  refine hg hw ?_
  clear hw w
  unfold slices_ContainsFunc_s_locks_claim_locks_claim
  refine indexC (tag := tag) (L := L) hL ?_
  rw [idxI_nonneg, any_idx]
  exact h
theorem deleteC {s : Sl} {L : List Claim} {b : Nat} {Q : Sl → K} (hL : L.length < 1000000000) (h : ∀ s', HG B (SlC ty_locks_claim 7 s' ((noT tag L).flatMap clF) :: Γ) (Q s')) [p : Sep.Own b Γ (blk b (.cells (tagF tag).toArray ty_api_Tag (0, 0))) Δ] :
    HG B (SlC ty_locks_claim 7 s (L.flatMap clF) :: Γ) (slices_DeleteFunc_s_locks_claim_locks_claim.call s (ofV b) Q) := by
  refine fun w hw => slices_DeleteFunc_s_locks_claim_locks_claim_ok _ _ _ _ ?_
  refine hg hw ?_
  clear hw w
  show HG B _ (delFN Tryz.prog slices_IndexFunc_s_locks_claim_locks_claim.call ty_locks_claim ty_s_locks_claim 0 7 [(.int .i64 0), (.int .u64 0), (.int .u64 0), (.int .i64 0), (.string ⟨#[]⟩), (.int .i64 0), (.int .u64 0)] s (ofV b) Q)
  refine s_delFN (R := fun _ => Γ) (L := L) (f := clF) (fun (_ : Unit) c => decide (c.1 = tag)) (fun _ _ => ()) () (fun _ _ => True) trivial (fun _ _ _ _ => trivial) (fun s fv Q w h => slices_IndexFunc_s_locks_claim_locks_claim_ok _ _ _ _ h) clF_len (by omega) (fun _ => rfl) rfl hL (fun Ξ g x C q _ _ hq => of_hg hq) fun s' _ => ?_
  rw [delG_pure]
  exact h s'

/-! ### Enter -/
theorem locksNew_hg {Q : Option Addr → K} (h : ∀ l, HG B (LocksR l [] (fun _ => false) :: Γ) (Q (some ⟨l, 0, none⟩))) : HG B Γ (locks_New.call Q) := by
  refine fun w hw => locks_New_ok _ _ ?_
  refine hg hw ?_
  clear hw w
  unfold locks_New
  refine s_mkMap (enc := strV) (cV := gV) fun gm => ?_
  refine s_mkMap (enc := kyS tagF) (cV := Value.int .i64) fun db => ?_
  refine s_new fun l => ?_
  refine fun w hw => ?_
  refine hg (show Holds B (Sep.stars (([] : GX).map gB) :: _) w from Holds.flat.2 hw) ?_
  clear hw w
  refine s_own db ?_
  refine s_pick (Sep.stars (([] : GX).map gB)) ?_
  refine s_own gm ?_
  refine s_own l ?_
  exact s_mkLocks ⟨rfl, by simp [KeysU], fun t => by simp [mget], by simp⟩ (h l)
theorem doom_set (hf : ∀ t, dm t = decide (0 < (mget t D).getD 0)) : ∀ t, dset dm tag true t = decide (0 < (mget t (mset tag 1 D)).getD 0) := fun t => by
  rw [mget_mset]
  unfold dset
  split
  · simp
  · exact hf t
theorem nd_set {v : Int} (h : (D.map Prod.fst).Nodup) : ((mset tag v D).map Prod.fst).Nodup := by
  rw [mset_keys]
  split
  · exact h
  · rename_i hk
    refine List.nodup_append.2 ⟨h, by simp, fun a ha b hb => ?_⟩
    rw [List.mem_singleton.1 hb]
    exact fun e => hk (e ▸ ha)
theorem mset_self {ν : Type} {M : List (List UInt8 × ν)} {key : List UInt8} {v : ν} (h : mget key M = some v) : mset key v M = M := by
  induction M with
  | nil => cases h
  | cons p M ih =>
    unfold mget at h
    unfold mset
    split
    · rename_i e
      rw [if_pos e] at h
      injection h with h
      rw [e, ← h]
    · rename_i e
      rw [if_neg e] at h
      rw [ih h]
theorem at_gate {key : List UInt8} : atM key (gateM key M) = atM key M := by
  unfold gateM
  split
  · rename_i h
    have h' : mget key M = none := by simpa using h
    unfold atM
    rw [h', ← mset_none (v := ([], [])) h', mget_mset]; simp
  · rfl
theorem mset_at {key : List UInt8} : mset key (atM key M) (gateM key M) = gateM key M := by
  refine mset_self ?_
  have h := gate_some (M := M) (k := key)
  rw [← at_gate]
  unfold atM
  cases hm : mget key (gateM key M) with
  | none => rw [hm] at h; cases h
  | some v => rfl
theorem enter_hg {ms : Sl} {L : List MarkM} {N : Nat} {Q : K} (hr : ∀ w, Holds B Γ w → RdC w ms 3 (L.flatMap markF)) (hk : ∀ m ∈ L, m.key.length < 1000000000) (hN : gsz M N) (hNl : N + L.length ≤ 1000000)
    (h : HG B (LocksR l (enterM n S tag L (M, dm)).1 (enterM n S tag L (M, dm)).2 :: StoreR st n S :: Γ) Q) :
    HG B (LocksR l M dm :: StoreR st n S :: Γ) (locks_Locks_Enter.call (some ⟨l, 0, none⟩) (some ⟨st, 0, none⟩) (tagF tag).toArray ms Q) := fun w hw => by
  refine locks_Locks_Enter_ok _ _ _ _ _ _ ?_
  have hlen : ms.n = L.length := rd_len markF_len (by omega) (hr w hw.tail.tail)
  refine hg hw ?_
  clear hw w
  unfold locks_Locks_Enter
  refine s_new fun t6 => ?_
  refine s_loop (α := Int) (ι := (GM × DM) × Nat) (fun x i => x = (i.2 : Int) ∧ i.2 ≤ L.length ∧ gsz i.1.1 (N + i.2) ∧ enterM n S tag (L.drop i.2) i.1 = enterM n S tag L (M, dm))
    (fun x i => blk t6 (.cells (tagF tag).toArray ty_api_Tag (0, 0)) :: LocksR l i.1.1 i.1.2 :: StoreR st n S :: Γ) (fun x i => L.length - i.2) ((M, dm), 0) ⟨rfl, Nat.zero_le _, hN, rfl⟩ ?_
  rintro k' _ ⟨⟨M1, d1⟩, j⟩ ⟨rfl, hj, hz, he⟩ hk'
  simp only at hj hz he hk' ⊢
  unfold locks_Locks_Enter.b1
  refine s_ite (fun hb => ?_) fun hb => ?_
  · have hjl : j < L.length := by simp only [decide_eq_true_eq] at hb; omega
    have hge : L[j]? = some L[j] := List.getElem?_eq_getElem hjl
    have hmem : L[j] ∈ L := List.getElem_mem hjl
    rw [List.drop_eq_getElem_cons hjl] at he
    generalize L[j] = m at hge hmem he
    have hkl := hk m hmem
    have hz2 := gsz_enter (n := n) (S := S) (tag := tag) (x := (M1, d1)) (m := m) hz
    have he2 : enterM n S tag (L.drop (j + 1)) (enter1 n S tag (M1, d1) m) = enterM n S tag L (M, dm) := he
    refine s_idxN markF markF_len (fun w hw => hr w hw.drops) hge ?_
    refine s_new fun m9 => ?_
    repeat refine s_nx ?_
    refine s_own l ?_
    refine gate_hg fun gm db X D A g C hf hX => ?_
    have hat := lf_at hX hf
    rw [at_gate] at hat
    have hgz := gsz_at (k := m.key) hz
    rw [hat] at hgz
    simp only at hgz
    refine s_cap g.ls fun c1 c2 c3 c4 => ?_
    refine s_cap g.ps fun e1 e2 e3 e4 => ?_
    rw [flatMap_len _ 7 clF_len] at c1 e1
    -- the end of a round
    have fin : ∀ {Δ : List HProp} {g' : GateX} {d' : DM} {D' : List (TagM × Int)}, enter1 n S tag (M1, d1) m = (mset m.key (g'.line, g'.park) (gateM m.key M1), d') → g'.b = g.b → ((∀ t, d' t = decide (0 < (mget t D').getD 0)) ∧ (D'.map Prod.fst).Nodup) → HG B (gL g' (lockF l gm db X (A ++ C) D' (blk t6 (.cells (tagF tag).toArray ty_api_Tag (0, 0)) :: StoreR st n S :: Γ))) (locks_Locks_Enter.s2 Q k' (some ⟨l, 0, none⟩) (some ⟨st, 0, none⟩) ⟨t6, 0, none⟩ ms (ms.n : Int) (j : Int)) := fun {Δ g' d' D'} e1 e2 e3 => by
      refine s_ungate hX e2 hf e3 ?_
      unfold locks_Locks_Enter.s2
      refine s_ai ?_
      have h := hk' ((j : Int) + 1) (enter1 n S tag (M1, d1) m, j + 1) ⟨by simp, hjl, hz2, he2⟩ (by simp only; omega)
      rw [e1] at h
      exact s_end h
    have keep : (hasT tag g.line || hasT tag g.park) = true → enter1 n S tag (M1, d1) m = (mset m.key (g.line, g.park) (gateM m.key M1), d1) := fun hh => by
      unfold enter1
      rw [hat, if_pos hh, show (g.line, g.park) = atM m.key M1 from hat.symm, mset_at]
    repeat refine s_nx ?_
    refine ofCall_hg fun b1 => ?_
    repeat refine s_nx ?_
    refine containsC (tag := tag) (L := g.line) (by omega) ?_
    repeat refine s_nx ?_
    have rest : ∀ (b : Nat) (hh : Bool), hh = (hasT tag g.line || hasT tag g.park) → HG B (gL g (lockF l gm db X (A ++ C) D (blk m9 (.cells (markF m).toArray ty_api_Mark (0, 0)) :: blk t6 (.cells (tagF tag).toArray ty_api_Tag (0, 0)) :: StoreR st n S :: Γ))) (locks_Locks_Enter.s3 Q k' (some ⟨l, 0, none⟩) (some ⟨st, 0, none⟩) ⟨t6, 0, none⟩ ⟨m9, 0, none⟩ (some ⟨g.b, 0, none⟩) ms (ms.n : Int) (j : Int) hh) := fun b hh hhe => by
      unfold locks_Locks_Enter.s3
      refine s_ite (fun hb2 => ?_) fun hb2 => ?_
      · exact s_end (fin (Δ := Γ) (keep (by rw [← hhe]; exact hb2)) rfl ⟨hf.doom, hf.nd⟩)
      rw [hb2] at hhe
      have hno : ¬ (hasT tag g.line || hasT tag g.park) = true := by rw [← hhe]; simp
      repeat refine s_nx ?_
      refine s_own st ?_
      refine storeGet_spec (k := bs m.key) (by show m.key.length < _; omega) fun s _ => ?_
      repeat refine s_nx ?_
      refine lookHg ?_
      have hlk : lookS (sGet n S (bs m.key)).cnt m.cnt (sGet n S (bs m.key)).home m.home = markLook n S m := rfl
      rw [hlk]
      refine s_ite (fun h0 => ?_) fun h0 => ?_
      · have h0' : markLook n S m = 0 := by simpa using h0
        repeat refine s_nx ?_
        refine s_new fun t => ?_
        repeat refine s_nx ?_
        refine s_append (s := g.ls) (esz := 7) (us := clF (tag, m)) (blk_rd rfl) (by intro v hv; exact clF_fl [(tag, m)] v (by simpa using hv)) (by simp only; omega) fun ls' _ => ?_
        rw [show g.line.flatMap clF ++ clF (tag, m) = (g.line ++ [(tag, m)]).flatMap clF by simp]
        repeat refine s_nx ?_
        refine s_end (fin (Δ := Γ) (g' := { g with ls := ls', line := g.line ++ [(tag, m)] }) ?_ rfl ⟨hf.doom, hf.nd⟩)
        unfold enter1
        rw [hat, if_neg hno, if_pos h0']
      · have h0' : ¬ markLook n S m = 0 := by simpa using h0
        refine s_ite (fun h1 => ?_) fun h1 => ?_
        · have h1' : markLook n S m = 1 := by simpa using h1
          repeat refine s_nx ?_
          refine s_new fun t => ?_
          repeat refine s_nx ?_
          refine s_append (s := g.ps) (esz := 7) (us := clF (tag, m)) (blk_rd rfl) (by intro v hv; exact clF_fl [(tag, m)] v (by simpa using hv)) (by simp only; omega) fun ps' _ => ?_
          rw [show g.park.flatMap clF ++ clF (tag, m) = (g.park ++ [(tag, m)]).flatMap clF by simp]
          repeat refine s_nx ?_
          refine s_end (fin (Δ := Γ) (g' := { g with ps := ps', park := g.park ++ [(tag, m)] }) ?_ rfl ⟨hf.doom, hf.nd⟩)
          unfold enter1
          rw [hat, if_neg hno, if_neg h0', if_pos h1']
        · have h1' : ¬ markLook n S m = 1 := by simpa using h1
          repeat refine s_nx ?_
          refine s_updS (b := db) (cel := tagF) (a := tag) (v := 1) keyS_tag rfl ?_ mapFD
          refine s_end (fin (Δ := Γ) (g' := g) (d' := dset d1 tag true) ?_ rfl ⟨doom_set hf.doom, nd_set hf.nd⟩)
          unfold enter1
          rw [hat, if_neg hno, if_neg h0', if_neg h1', show (g.line, g.park) = atM m.key M1 from hat.symm, mset_at]
    refine s_ite (fun hb2 => ?_) fun hb2 => ?_
    · exact s_end (rest b1 true (by rw [hb2]; rfl))
    repeat refine s_nx ?_
    refine ofCall_hg fun b2 => ?_
    repeat refine s_nx ?_
    refine containsC (tag := tag) (L := g.park) (by omega) ?_
    exact s_end (rest b2 _ (by rw [hb2]; rfl))
  · have hjl : j = L.length := by simp only [decide_eq_false_iff_not] at hb; omega
    rw [hjl, List.drop_length] at he
    have he' : (M1, d1) = enterM n S tag L (M, dm) := he
    rw [← he'] at h
    exact s_end h
end
end Go.Proofs.YtihncgfghpbhdaaGreat
