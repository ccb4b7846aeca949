/- Texts of the claim LocksLeave, one behind the other. -/
import Derived.Test.YtfjjocopmknhgaaGreatLocksLeaveM2
import Derived.MapKept
import GoSem.Instr.MapUpdate
import Derived.Maps.RangeRun
import Derived.Laws.StructEq
import Derived.Shelf.SortM.Plain
import Derived.Shelf.SortM.SortNone
import Derived.Ground.SlgmProg
import Derived.Test.YtfjjocopmknhgaaGreatProg
/- Plain forms of functions, and that their code comes to them (package btree). -/
namespace Go.Proofs.YtfjjocopmknhgaaGreat
open Go Go.Sep
set_option linter.unusedVariables false
set_option linter.unusedSimpArgs false
set_option maxRecDepth 100000
set_option maxHeartbeats 4000000
attribute [local irreducible] G Gp Cx Tx Ex Sx Dx Ox Ax Lx Rx Fx Bx Bj Al Do Ld LdN St StN New CallF Ar DoU Rd Rd2 Pu Cd Ite Fv CallV CallY Ans0 Ans1 Ans2 Ans3 Ans4 Ans5 Ext Dead Dr WithS Sv LdS LdNS RdS Rd2S Nn Idx IdxA IdxS Fld Bld Slc SlcS Cat All LoopK RangeF RangeJ TakeD
namespace F_IRBtree
instance at_181 : AT Tryz.prog 181 5 := ⟨by kernel_rfl⟩
instance at_47 : AT Tryz.prog 47 4 := ⟨by kernel_rfl⟩
instance cb_102 : CB Tryz.prog 102 := ⟨by kernel_rfl⟩
instance cb_121 : CB Tryz.prog 121 := ⟨by kernel_rfl⟩
instance cb_123 : CB Tryz.prog 123 := ⟨by kernel_rfl⟩
instance cb_130 : CB Tryz.prog 130 := ⟨by kernel_rfl⟩
instance cb_131 : CB Tryz.prog 131 := ⟨by kernel_rfl⟩
instance cb_154 : CB Tryz.prog 154 := ⟨by kernel_rfl⟩
instance cb_155 : CB Tryz.prog 155 := ⟨by kernel_rfl⟩
instance cb_156 : CB Tryz.prog 156 := ⟨by kernel_rfl⟩
instance cb_157 : CB Tryz.prog 157 := ⟨by kernel_rfl⟩
instance cb_158 : CB Tryz.prog 158 := ⟨by kernel_rfl⟩
instance cb_159 : CB Tryz.prog 159 := ⟨by kernel_rfl⟩
instance cb_160 : CB Tryz.prog 160 := ⟨by kernel_rfl⟩
instance cb_170 : CB Tryz.prog 170 := ⟨by kernel_rfl⟩
instance cb_91 : CB Tryz.prog 91 := ⟨by kernel_rfl⟩
instance ct_117 : CT Tryz.prog 117 := ⟨by kernel_rfl⟩
instance ct_175 : CT Tryz.prog 175 := ⟨by kernel_rfl⟩
instance ct_182 : CT Tryz.prog 182 := ⟨by kernel_rfl⟩
instance ct_183 : CT Tryz.prog 183 := ⟨by kernel_rfl⟩
instance ct_3 : CT Tryz.prog 3 := ⟨by kernel_rfl⟩
instance ct_9 : CT Tryz.prog 9 := ⟨by kernel_rfl⟩
instance ft_177_0 : FT Tryz.prog 177 0 0 1 := ⟨by kernel_rfl⟩
instance ft_177_1 : FT Tryz.prog 177 1 1 1 := ⟨by kernel_rfl⟩
instance ft_181_0 : FT Tryz.prog 181 0 0 1 := ⟨by kernel_rfl⟩
instance ft_181_1 : FT Tryz.prog 181 1 1 4 := ⟨by kernel_rfl⟩
instance ft_185_0 : FT Tryz.prog 185 0 0 1 := ⟨by kernel_rfl⟩
instance ft_185_1 : FT Tryz.prog 185 1 1 1 := ⟨by kernel_rfl⟩
instance mx : MX Tryz.prog := ⟨mixed⟩
instance pl_177 : PLT Tryz.prog 177 [(0, 1), (1, 1)] := ⟨_, Tryz.underlying177, by kernel_rfl⟩
instance pl_181 : PLT Tryz.prog 181 [(0, 1), (1, 4)] := ⟨_, Tryz.underlying181, by kernel_rfl⟩
instance pl_185 : PLT Tryz.prog 185 [(0, 1), (1, 1)] := ⟨_, Tryz.underlying185, by kernel_rfl⟩
instance sl_182 : SLT Tryz.prog 182 181 5 := ⟨by kernel_rfl⟩
instance sl_183 : SLT Tryz.prog 183 175 1 := ⟨by kernel_rfl⟩
instance sz_175 : SZ Tryz.prog 175 1 := ⟨by kernel_rfl⟩
instance sz_181 : SZ Tryz.prog 181 5 := ⟨by kernel_rfl⟩
instance sz_182 : SZ Tryz.prog 182 1 := ⟨by kernel_rfl⟩
instance sz_183 : SZ Tryz.prog 183 1 := ⟨by kernel_rfl⟩
instance sz_3 : SZ Tryz.prog 3 1 := ⟨by kernel_rfl⟩
instance sz_47 : SZ Tryz.prog 47 4 := ⟨by kernel_rfl⟩
instance un_213 : UN Tryz.prog 213 (.pointer 9) := ⟨Tryz.underlying213⟩
instance un_214 : UN Tryz.prog 214 (.pointer 181) := ⟨Tryz.underlying214⟩
instance zt_175 : ZT Tryz.prog 175 (.pointer none) := ⟨Tryz.t175, by kernel_rfl, by kernel_rfl⟩
instance zt_177 : ZT Tryz.prog 177 (.agg #[(.pointer none), (.int .i64 0)]) := ⟨Tryz.t177, by kernel_rfl, by kernel_rfl⟩
instance zt_181 : ZT Tryz.prog 181 (.agg #[(.string ⟨#[]⟩), (.bool false), (Sl.val ⟨none, 0, 0⟩), (.int .i64 0), (.int .u64 0)]) := ⟨Tryz.t181, by kernel_rfl, by kernel_rfl⟩
instance zt_185 : ZT Tryz.prog 185 (.agg #[(Sl.val ⟨none, 0, 0⟩), (Sl.val ⟨none, 0, 0⟩)]) := ⟨Tryz.t185, by kernel_rfl, by kernel_rfl⟩
instance zt_47 : ZT Tryz.prog 47 (.agg #[(.bool false), (Sl.val ⟨none, 0, 0⟩), (.int .i64 0), (.int .u64 0)]) := ⟨Tryz.t47, by kernel_rfl, by kernel_rfl⟩
end F_IRBtree
def btree_Tree_string_api_Record_Get.b1 (Q : (Array Value) → Bool → K)  (X1 : (Option Addr) → K) (key1_1 : ByteArray) (value4_1 : Addr) (n6_1 : (Option Addr)) : K :=
  btree_node_string_api_Record_search.call n6_1 key1_1 fun t16x0 t16x1 =>
  Ite t16x1
    (Nn n6_1 fun t21 =>
    Ld t21 Sl.val fun t23 =>
    Idx t23 t16x0 5 fun t25 =>
    LdN (t25.add 1) 4 fun t27 =>
    StN value4_1 4 t27 <|
    LdN value4_1 4 fun r0 =>
    Q r0 true)
    (Nn n6_1 fun t29 =>
    Ld (t29.add 1) Sl.val fun t31 =>
    Ite (decide ((t31.n : Int) = 0))
      (LdN value4_1 4 fun t34 =>
      StN value4_1 4 t34 <|
      LdN value4_1 4 fun r0 =>
      Q r0 false)
      (Ld (t29.add 1) Sl.val fun t38 =>
      Idx t38 t16x0 1 fun t40 =>
      Ld t40 Value.pointer fun t41 =>
      X1 t41))
def btree_Tree_string_api_Record_Get (t0 : (Option Addr)) (key1 : ByteArray) (Q : (Array Value) → Bool → K) : K :=
  New 47 #[(.bool false), (Sl.val ⟨none, 0, 0⟩), (.int .i64 0), (.int .u64 0)] fun value4 =>
  Nn t0 fun t10 =>
  Ld t10 Value.pointer fun t12 =>
  LoopK (α := (Option Addr)) (fun X x => btree_Tree_string_api_Record_Get.b1 Q X key1 value4 x) t12
theorem btree_Tree_string_api_Record_Get_ok (t0 : (Option Addr)) (key1 : ByteArray) (Q : (Array Value) → Bool → K) (w : World) (h : btree_Tree_string_api_Record_Get t0 key1 Q w) : btree_Tree_string_api_Record_Get.call t0 key1 Q w := by
  have hL2 : ∀ (key1_1 : ByteArray) (value4_1 : Addr), LH 2 (fun x : (Option Addr) => [(1, (.string key1_1)), (4, (.pointer (some value4_1))), (6, (.pointer x))]) (fun X x => btree_Tree_string_api_Record_Get.b1 Q X key1_1 value4_1 x) := by intros; exact ⟨⟩
  exact g_walk 42 h Tryz.func52
def btree_Tree_string_api_Record_All (t0 : (Option Addr)) (Q : Value → K) : K :=
  New 117 #[(.pointer t0)] fun t1 =>
  Q (.func (.func 101) #[] #[(.pointer (some t1))])
theorem btree_Tree_string_api_Record_All_ok (t0 : (Option Addr)) (Q : Value → K) (w : World) (h : btree_Tree_string_api_Record_All t0 Q w) : btree_Tree_string_api_Record_All.call t0 Q w := by
  exact g_walk 4 h Tryz.func63
def btree_New_string_api_Record  (Q : (Option Addr) → K) : K :=
  New 185 #[(Sl.val ⟨none, 0, 0⟩), (Sl.val ⟨none, 0, 0⟩)] fun t2 =>
  New 177 #[(.pointer (some t2)), (.int .i64 0)] fun t4 =>
  Q (some t4)
theorem btree_New_string_api_Record_ok  (Q : (Option Addr) → K) (w : World) (h : btree_New_string_api_Record  Q w) : btree_New_string_api_Record.call  Q w := by
  exact g_walk 5 h Tryz.func72
def btree_node_string_api_Record_search (n0 : (Option Addr)) (key1 : ByteArray) (Q : Int → Bool → K) : K :=
  Nn n0 fun t7 =>
  Ld t7 Sl.val fun t9 =>
  slices_BinarySearchFunc_s_btree_item_string_api_Record_btree_item_string_api_Record_string.call t9 key1 (.func (.func 122) #[] #[]) fun t11x0 t11x1 =>
  Q t11x0 t11x1
theorem btree_node_string_api_Record_search_ok (n0 : (Option Addr)) (key1 : ByteArray) (Q : Int → Bool → K) (w : World) (h : btree_node_string_api_Record_search n0 key1 Q w) : btree_node_string_api_Record_search.call n0 key1 Q w := by
  exact g_walk 14 h Tryz.func91
def btree_Tree_string_api_Record_All_1 (yield0 : Value) (t1 : Addr) (Q : K) : K :=
  Ld t1 Value.pointer fun t3 =>
  Nn t3 fun t4 =>
  Ld t4 Value.pointer fun t6 =>
  btree_node_string_api_Record_walk.call t6 none yield0 fun t8 =>
  Q
theorem btree_Tree_string_api_Record_All_1_ok (yield0 : Value) (t1 : Addr) (Q : K) (w : World) (h : btree_Tree_string_api_Record_All_1 yield0 t1 Q w) : btree_Tree_string_api_Record_All_1.call yield0 t1 Q w := by
  exact g_walk 9 h Tryz.func101
def btree_node_string_api_Record_walk.s4 (Q : Bool → K) (X2 : (Option Addr) → Int → K) (n0_4 : Addr) (yield2_4 : Value) (i7_4 : Int) (t74_4 : Bool) : K :=
  Ite t74_4
    (Q false)
    (Ar (IntKind.wrap .i64 (i7_4 + 1)) fun t26 =>
    X2 none t26)
def btree_node_string_api_Record_walk.s3 (Q : Bool → K) (X2 : (Option Addr) → Int → K) (n0_3 : Addr) (yield2_3 : Value) (i7_3 : Int) (t46_3 : Bool) : K :=
  Ite t46_3
    (Q false)
    (Dr <|
    Ld n0_3 Sl.val fun t51 =>
    Ite (decide (i7_3 < (t51.n : Int)))
      (Ld n0_3 Sl.val fun t59 =>
      Idx t59 i7_3 5 fun t61 =>
      Ld t61 Value.string fun t63 =>
      Ld n0_3 Sl.val fun t67 =>
      Idx t67 i7_3 5 fun t69 =>
      LdN (t69.add 1) 4 fun t71 =>
      CallV Tryz.prog yield2_3 [(.string t63), (.agg t71)] <| Ans1 (fun (t72 : Bool) => Value.bool t72) fun t72 =>
      btree_node_string_api_Record_walk.s4 Q X2 n0_3 yield2_3 i7_3 (!t72))
      (btree_node_string_api_Record_walk.s4 Q X2 n0_3 yield2_3 i7_3 false))
def btree_node_string_api_Record_walk.b2 (Q : Bool → K)  (X2 : (Option Addr) → Int → K) (n0_2 : (Option Addr)) (yield2_2 : Value) (from1_2 : (Option Addr)) (i7_2 : Int) : K :=
  Nn n0_2 fun t20 =>
  Ld t20 Sl.val fun t22 =>
  Ite (decide (i7_2 ≤ (t22.n : Int)))
    (Ld (t20.add 1) Sl.val fun t31 =>
    Ite (decide (i7_2 < (t31.n : Int)))
      (Ld (t20.add 1) Sl.val fun t38 =>
      Idx t38 i7_2 1 fun t40 =>
      Ld t40 Value.pointer fun t41 =>
      btree_node_string_api_Record_walk.call t41 from1_2 yield2_2 fun t44 =>
      btree_node_string_api_Record_walk.s3 Q X2 t20 yield2_2 i7_2 (!t44))
      (btree_node_string_api_Record_walk.s3 Q X2 t20 yield2_2 i7_2 false))
    (Q true)
def btree_node_string_api_Record_walk.s1 (Q : Bool → K)  (n0_1 : (Option Addr)) (from1_1 : (Option Addr)) (yield2_1 : Value) (i7_1 : Int) : K :=
  LoopK (α := (Option Addr) × Int) (fun X x => btree_node_string_api_Record_walk.b2 Q (fun from1_2 i7_2 => X (from1_2, i7_2)) n0_1 yield2_1 x.1 x.2) (from1_1, i7_1)
def btree_node_string_api_Record_walk (n0 : (Option Addr)) (from1 : (Option Addr)) (yield2 : Value) (Q : Bool → K) : K :=
  Ite (!(from1).isNone)
    (Nn from1 fun t13 =>
    Ld t13 Value.string fun t14 =>
    btree_node_string_api_Record_search.call n0 t14 fun t15x0 t15x1 =>
    btree_node_string_api_Record_walk.s1 Q n0 (some t13) yield2 t15x0)
    (btree_node_string_api_Record_walk.s1 Q n0 from1 yield2 0)
theorem btree_node_string_api_Record_walk_ok (n0 : (Option Addr)) (from1 : (Option Addr)) (yield2 : Value) (Q : Bool → K) (w : World) (h : btree_node_string_api_Record_walk n0 from1 yield2 Q w) : btree_node_string_api_Record_walk.call n0 from1 yield2 Q w := by
  have hJ10 : ∀ (X2 : ((Option Addr) × Int) → K), XH 4 X2 → JH 10 fun D => ∃ (n0_4 : Addr) (yield2_4 : Value) (i7_4 : Int), D [(0, (.pointer (some n0_4))), (2, yield2_4), (7, (.int .i64 i7_4))] (fun C => ∀ (t74_4 : Bool), C [(0, (.pointer (some n0_4))), (1, (.pointer none)), (2, yield2_4), (7, (.int .i64 i7_4)), (74, (.bool t74_4))] (btree_node_string_api_Record_walk.s4 Q (fun from1_2 i7_2 => X2 (from1_2, i7_2)) n0_4 yield2_4 i7_4 t74_4)) := by intros; exact ⟨fun _ ⟨_, _, _, h⟩ => ⟨_, _, h⟩⟩
  have hD9 : DH 9 1 [25] (.s [0, 1, 2, 3, 4, 5, 6, 7] (.i (.s [8, 9, 10, 11, 13, 17, 18, 19, 21, 12, 14, 15, 16, 20, 22, 23, 24] (.a [(25, 0, .s [26, 27] .e)])) (.s [8, 9, 10, 11, 12, 13, 14, 15, 16, 17, 18, 19, 20, 21, 22, 23, 24, 25, 26, 27] .e))) := by intros; exact ⟨⟩
  have hJ7 : ∀ (X2 : ((Option Addr) × Int) → K), XH 4 X2 → JH 7 fun D => ∃ (n0_3 : Addr) (yield2_3 : Value) (i7_3 : Int), D [(0, (.pointer (some n0_3))), (2, yield2_3), (7, (.int .i64 i7_3))] (fun C => ∀ (t46_3 : Bool), C [(0, (.pointer (some n0_3))), (2, yield2_3), (7, (.int .i64 i7_3)), (46, (.bool t46_3))] (btree_node_string_api_Record_walk.s3 Q (fun from1_2 i7_2 => X2 (from1_2, i7_2)) n0_3 yield2_3 i7_3 t46_3)) := by intros; exact ⟨fun _ ⟨_, _, _, h⟩ => ⟨_, _, h⟩⟩
  have hL4 : ∀ (n0_2 : (Option Addr)) (yield2_2 : Value), LH 4 (fun x : (Option Addr) × Int => [(0, (.pointer n0_2)), (1, (.pointer x.1)), (2, yield2_2), (7, (.int .i64 x.2))]) (fun X x => btree_node_string_api_Record_walk.b2 Q (fun from1_2 i7_2 => X (from1_2, i7_2)) n0_2 yield2_2 x.1 x.2) := by intros; exact ⟨⟩
  have hJ4 : JH 4 fun D => ∃ (n0_1 : (Option Addr)) (from1_1 : (Option Addr)) (yield2_1 : Value), D [(0, (.pointer n0_1)), (1, (.pointer from1_1)), (2, yield2_1)] (fun C => ∀ (i7_1 : Int), C [(0, (.pointer n0_1)), (1, (.pointer from1_1)), (2, yield2_1), (7, (.int .i64 i7_1))] (btree_node_string_api_Record_walk.s1 Q n0_1 from1_1 yield2_1 i7_1)) := by intros; exact ⟨fun _ ⟨_, _, _, h⟩ => ⟨_, _, h⟩⟩
  exact g_walk 75 h Tryz.func102
def btree_Tree_string_api_Record_Delete.s2 (Q : (Array Value) → Bool → K)  (value4_2 : Addr) (ok5_2 : Bool) : K :=
  LdN value4_2 4 fun t55 =>
  StN value4_2 4 t55 <|
  LdN value4_2 4 fun r0 =>
  Q r0 ok5_2
def btree_Tree_string_api_Record_Delete.s1 (Q : (Array Value) → Bool → K)  (t0_1 : Addr) (value4_1 : Addr) (ok5_1 : Bool) : K :=
  Ite ok5_1
    (Ld (t0_1.add 1) (Value.int .i64) fun t51 =>
    Ar (IntKind.wrap .i64 (t51 - 1)) fun t52 =>
    St (t0_1.add 1) (.int .i64 t52) <|
    btree_Tree_string_api_Record_Delete.s2 Q value4_1 ok5_1)
    (btree_Tree_string_api_Record_Delete.s2 Q value4_1 ok5_1)
def btree_Tree_string_api_Record_Delete.s3 (Q : (Array Value) → Bool → K)  (t0_3 : Addr) (value4_3 : Addr) (ok5_3 : Bool) (t34_3 : Bool) : K :=
  Ite t34_3
    (Ld t0_3 Value.pointer fun t39 =>
    Nn t39 fun t40 =>
    Ld (t40.add 1) Sl.val fun t42 =>
    Idx t42 0 1 fun t43 =>
    Ld t43 Value.pointer fun t44 =>
    St t0_3 (.pointer t44) <|
    btree_Tree_string_api_Record_Delete.s1 Q t0_3 value4_3 ok5_3)
    (btree_Tree_string_api_Record_Delete.s1 Q t0_3 value4_3 ok5_3)
def btree_Tree_string_api_Record_Delete (t0 : (Option Addr)) (key1 : ByteArray) (Q : (Array Value) → Bool → K) : K :=
  New 47 #[(.bool false), (Sl.val ⟨none, 0, 0⟩), (.int .i64 0), (.int .u64 0)] fun value4 =>
  Nn t0 fun t8 =>
  Ld t8 Value.pointer fun t10 =>
  btree_node_string_api_Record_take.call t10 key1 fun t12x0 t12x1 =>
  StN value4 4 t12x0 <|
  Ld t8 Value.pointer fun t18 =>
  Nn t18 fun t19 =>
  Ld t19 Sl.val fun t21 =>
  Ite (decide ((t21.n : Int) = 0))
    (Ld t8 Value.pointer fun t28 =>
    Nn t28 fun t29 =>
    Ld (t29.add 1) Sl.val fun t31 =>
    btree_Tree_string_api_Record_Delete.s3 Q t8 value4 t12x1 (decide ((t31.n : Int) = 1)))
    (btree_Tree_string_api_Record_Delete.s3 Q t8 value4 t12x1 false)
theorem btree_Tree_string_api_Record_Delete_ok (t0 : (Option Addr)) (key1 : ByteArray) (Q : (Array Value) → Bool → K) (w : World) (h : btree_Tree_string_api_Record_Delete t0 key1 Q w) : btree_Tree_string_api_Record_Delete.call t0 key1 Q w := by
  have hJ6 : JH 6 fun D => ∃ (value4_2 : Addr), D [(4, (.pointer (some value4_2)))] (fun C => ∀ (ok5_2 : Bool), C [(4, (.pointer (some value4_2))), (5, (.bool ok5_2))] (btree_Tree_string_api_Record_Delete.s2 Q value4_2 ok5_2)) := by intros; exact ⟨fun _ ⟨_, h⟩ => ⟨_, _, h⟩⟩
  have hJ4 : JH 4 fun D => ∃ (t0_1 : Addr) (value4_1 : Addr), D [(0, (.pointer (some t0_1))), (4, (.pointer (some value4_1)))] (fun C => ∀ (ok5_1 : Bool), C [(0, (.pointer (some t0_1))), (4, (.pointer (some value4_1))), (5, (.bool ok5_1))] (btree_Tree_string_api_Record_Delete.s1 Q t0_1 value4_1 ok5_1)) := by intros; exact ⟨fun _ ⟨_, _, h⟩ => ⟨_, _, h⟩⟩
  have hJ3 : JH 3 fun D => ∃ (t0_3 : Addr) (value4_3 : Addr), D [(0, (.pointer (some t0_3))), (4, (.pointer (some value4_3)))] (fun C => ∀ (ok5_3 : Bool) (t34_3 : Bool), C [(0, (.pointer (some t0_3))), (4, (.pointer (some value4_3))), (5, (.bool ok5_3)), (34, (.bool t34_3))] (btree_Tree_string_api_Record_Delete.s3 Q t0_3 value4_3 ok5_3 t34_3)) := by intros; exact ⟨fun _ ⟨_, _, h⟩ => ⟨_, _, h⟩⟩
  exact g_walk 57 h Tryz.func117
def btree_Tree_string_api_Record_Put.s3 (Q : (Array Value) → Bool → K)  (t6_3 : Addr) (old8_3 : Addr) (had9_3 : Bool) : K :=
  LdN old8_3 4 fun t51 =>
  StN t6_3 4 t51 <|
  LdN t6_3 4 fun r0 =>
  Q r0 had9_3
def btree_Tree_string_api_Record_Put.s2 (Q : (Array Value) → Bool → K)  (t0_2 : (Option Addr)) (t6_2 : Addr) (old8_2 : Addr) (had9_2 : Bool) : K :=
  Ite (!had9_2)
    (Nn t0_2 fun t45 =>
    Ld (t45.add 1) (Value.int .i64) fun t47 =>
    Ar (IntKind.wrap .i64 (t47 + 1)) fun t48 =>
    St (t45.add 1) (.int .i64 t48) <|
    btree_Tree_string_api_Record_Put.s3 Q t6_2 old8_2 had9_2)
    (btree_Tree_string_api_Record_Put.s3 Q t6_2 old8_2 had9_2)
def btree_Tree_string_api_Record_Put.s1 (Q : (Array Value) → Bool → K)  (t0_1 : (Option Addr)) (t6_1 : Addr) (old8_1 : Addr) (had9_1 : Bool) (mid10_1 : (Option Addr)) (right11_1 : (Option Addr)) : K :=
  Ite (!(mid10_1).isNone)
    (Dr <| WithS fun S =>
    Nn mid10_1 fun t29 =>
    Nn t0_1 fun t33 =>
    LdNS S t29 5 fun t30 =>
    LdS S t33 Value.pointer fun t35 =>
    All [
      (Bld #[(.string ⟨#[]⟩), (.bool false), (Sl.val ⟨none, 0, 0⟩), (.int .i64 0), (.int .u64 0)] (fun i => some (i * 5, 5)) [(0, (.agg t30))] fun ct31 =>
      New 181 ct31 fun t31 =>
      Sv S <|
      New 175 #[(.pointer t35), (.pointer right11_1)] fun t37 =>
      Sv S <|
      New 185 #[(Sl.val (Sl.mk (some t31) 1 1)), (Sl.val (Sl.mk (some t37) 2 2))] fun t39 =>
      St t33 (.pointer (some t39)) <|
      btree_Tree_string_api_Record_Put.s2 Q (some t33) t6_1 old8_1 had9_1),
      (New 175 #[(.pointer t35), (.pointer right11_1)] fun t37 =>
      Sv S <|
      Bld #[(.string ⟨#[]⟩), (.bool false), (Sl.val ⟨none, 0, 0⟩), (.int .i64 0), (.int .u64 0)] (fun i => some (i * 5, 5)) [(0, (.agg t30))] fun ct31 =>
      New 181 ct31 fun t31 =>
      Sv S <|
      New 185 #[(Sl.val (Sl.mk (some t31) 1 1)), (Sl.val (Sl.mk (some t37) 2 2))] fun t39 =>
      St t33 (.pointer (some t39)) <|
      btree_Tree_string_api_Record_Put.s2 Q (some t33) t6_1 old8_1 had9_1)
      ])
    (btree_Tree_string_api_Record_Put.s2 Q t0_1 t6_1 old8_1 had9_1)
def btree_Tree_string_api_Record_Put (t0 : (Option Addr)) (key1 : ByteArray) (value2 : (Array Value)) (Q : (Array Value) → Bool → K) : K :=
  New 47 value2 fun value5 =>
  New 47 #[(.bool false), (Sl.val ⟨none, 0, 0⟩), (.int .i64 0), (.int .u64 0)] fun t6 =>
  Dr <| WithS fun S =>
  Nn t0 fun t14 =>
  LdS S t14 Value.pointer fun t16 =>
  LdNS S value5 4 fun t18 =>
  Bld #[(.string ⟨#[]⟩), (.bool false), (Sl.val ⟨none, 0, 0⟩), (.int .i64 0), (.int .u64 0)] ([(0, 1), (1, 4)][·]?) [(0, (.string key1)), (1, (.agg t18))] fun t19 =>
  All [
    (btree_node_string_api_Record_put.call t16 t19 fun t20x0 t20x1 t20x2 t20x3 =>
    New 47 #[(.bool false), (Sl.val ⟨none, 0, 0⟩), (.int .i64 0), (.int .u64 0)] fun old8 =>
    StN old8 4 t20x0 <|
    btree_Tree_string_api_Record_Put.s1 Q (some t14) t6 old8 t20x1 t20x2 t20x3),
    (New 47 #[(.bool false), (Sl.val ⟨none, 0, 0⟩), (.int .i64 0), (.int .u64 0)] fun old8 =>
    Sv S <|
    btree_node_string_api_Record_put.call t16 t19 fun t20x0 t20x1 t20x2 t20x3 =>
    StN old8 4 t20x0 <|
    btree_Tree_string_api_Record_Put.s1 Q (some t14) t6 old8 t20x1 t20x2 t20x3)
    ]
theorem btree_Tree_string_api_Record_Put_ok (t0 : (Option Addr)) (key1 : ByteArray) (value2 : (Array Value)) (Q : (Array Value) → Bool → K) (w : World) (h : btree_Tree_string_api_Record_Put t0 key1 value2 Q w) : btree_Tree_string_api_Record_Put.call t0 key1 value2 Q w := by
  have hJ6 : JH 6 fun D => ∃ (t6_3 : Addr) (old8_3 : Addr), D [(6, (.pointer (some t6_3))), (8, (.pointer (some old8_3)))] (fun C => ∀ (had9_3 : Bool), C [(6, (.pointer (some t6_3))), (8, (.pointer (some old8_3))), (9, (.bool had9_3))] (btree_Tree_string_api_Record_Put.s3 Q t6_3 old8_3 had9_3)) := by intros; exact ⟨fun _ ⟨_, _, h⟩ => ⟨_, _, h⟩⟩
  have hJ4 : JH 4 fun D => ∃ (t0_2 : (Option Addr)) (t6_2 : Addr) (old8_2 : Addr), D [(0, (.pointer t0_2)), (6, (.pointer (some t6_2))), (8, (.pointer (some old8_2)))] (fun C => ∀ (had9_2 : Bool), C [(0, (.pointer t0_2)), (6, (.pointer (some t6_2))), (8, (.pointer (some old8_2))), (9, (.bool had9_2))] (btree_Tree_string_api_Record_Put.s2 Q t0_2 t6_2 old8_2 had9_2)) := by intros; exact ⟨fun _ ⟨_, _, _, h⟩ => ⟨_, _, h⟩⟩
  have hD3 : DH 3 2 [12, 15] (.s [0, 1, 2, 5, 6, 7, 9, 3, 8] (.a [(4, 1, .a [(10, 1, .s [11] (.a [(12, 0, .s [13, 14] (.a [(15, 0, .e)]))]))]), (10, 1, .a [(4, 1, .s [11] (.a [(12, 0, .s [13, 14] (.a [(15, 0, .e)]))]))])])) := by intros; exact ⟨⟩
  have hJ2 : JH 2 fun D => ∃ (t0_1 : (Option Addr)) (t6_1 : Addr), D [(0, (.pointer t0_1)), (6, (.pointer (some t6_1)))] (fun C => ∀ (old8_1 : Addr) (had9_1 : Bool) (mid10_1 : (Option Addr)) (right11_1 : (Option Addr)), C [(0, (.pointer t0_1)), (6, (.pointer (some t6_1))), (8, (.pointer (some old8_1))), (9, (.bool had9_1)), (10, (.pointer mid10_1)), (11, (.pointer right11_1))] (btree_Tree_string_api_Record_Put.s1 Q t0_1 t6_1 old8_1 had9_1 mid10_1 right11_1)) := by intros; exact ⟨fun _ ⟨_, _, h⟩ => ⟨_, _, h⟩⟩
  have hD1 : DH 1 2 [7, 14] (.s [0, 1, 2, 4, 3, 5, 6] (.a [(7, 0, .s [8, 9, 10, 11, 12] (.a [(13, 0, .a [(14, 0, .s [15, 16, 17] .e)])])), (13, 1, .a [(7, 0, .s [8, 9, 10, 11, 12] (.a [(14, 0, .s [15, 16, 17] .e)]))])])) := by intros; exact ⟨⟩
  exact g_walk 53 h Tryz.func118
def btree_node_string_api_Record_search_1 (x0 : (Array Value)) (k1 : ByteArray) (Q : Int → K) : K :=
  New 181 x0 fun x2 =>
  Ld x2 Value.string fun t6 =>
  cmp_Compare_string.call t6 k1 fun t8 =>
  Q t8
theorem btree_node_string_api_Record_search_1_ok (x0 : (Array Value)) (k1 : ByteArray) (Q : Int → K) (w : World) (h : btree_node_string_api_Record_search_1 x0 k1 Q w) : btree_node_string_api_Record_search_1.call x0 k1 Q w := by
  exact g_walk 9 h Tryz.func122
def btree_node_string_api_Record_take.s1 (Q : (Array Value) → Bool → K)  (value4_1 : Addr) (ok5_1 : Bool) : K :=
  LdN value4_1 4 fun t94 =>
  StN value4_1 4 t94 <|
  LdN value4_1 4 fun r0 =>
  Q r0 ok5_1
def btree_node_string_api_Record_take.s2 (Q : (Array Value) → Bool → K)  (n0_2 : (Option Addr)) (key1_2 : ByteArray) (value4_2 : Addr) (i6_2 : Int) (found7_2 : Bool) (t14_2 : Bool) : K :=
  Ite t14_2
    (Nn n0_2 fun t25 =>
    Ld t25 Sl.val fun t27 =>
    Idx t27 i6_2 5 fun t29 =>
    LdN (t29.add 1) 4 fun t31 =>
    StN value4_2 4 t31 <|
    Ld t25 Sl.val fun t36 =>
    Ar (IntKind.wrap .i64 (i6_2 + 1)) fun t39 =>
    slices_Delete_s_btree_item_string_api_Record_btree_item_string_api_Record.call t36 i6_2 t39 fun t40 =>
    St t25 (Sl.val t40) <|
    LdN value4_2 4 fun t43 =>
    StN value4_2 4 t43 <|
    LdN value4_2 4 fun r0 =>
    Q r0 true)
    (Ite found7_2
      (Nn n0_2 fun t47 =>
      Ld t47 Sl.val fun t49 =>
      Idx t49 i6_2 5 fun t51 =>
      LdN (t51.add 1) 4 fun t53 =>
      StN value4_2 4 t53 <|
      Dr <| WithS fun S =>
      LdS S t47 Sl.val fun t57 =>
      LdS S (t47.add 1) Sl.val fun t62 =>
      Idx t62 i6_2 1 fun t64 =>
      LdS S t64 Value.pointer fun t65 =>
      btree_node_string_api_Record_last.call t65 fun t66 =>
      Sv S <|
      Idx t57 i6_2 5 fun t67 =>
      StN t67 5 t66 <|
      btree_node_string_api_Record_mend.call (some t47) i6_2 <|
      LdN value4_2 4 fun t71 =>
      StN value4_2 4 t71 <|
      LdN value4_2 4 fun r0 =>
      Q r0 true)
      (Nn n0_2 fun t74 =>
      Ld (t74.add 1) Sl.val fun t76 =>
      Ite (decide ((0 : Int) < (t76.n : Int)))
        (Ld (t74.add 1) Sl.val fun t83 =>
        Idx t83 i6_2 1 fun t85 =>
        Ld t85 Value.pointer fun t86 =>
        btree_node_string_api_Record_take.call t86 key1_2 fun t88x0 t88x1 =>
        StN value4_2 4 t88x0 <|
        btree_node_string_api_Record_mend.call (some t74) i6_2 <|
        btree_node_string_api_Record_take.s1 Q value4_2 t88x1)
        (btree_node_string_api_Record_take.s1 Q value4_2 false)))
def btree_node_string_api_Record_take (n0 : (Option Addr)) (key1 : ByteArray) (Q : (Array Value) → Bool → K) : K :=
  New 47 #[(.bool false), (Sl.val ⟨none, 0, 0⟩), (.int .i64 0), (.int .u64 0)] fun value4 =>
  btree_node_string_api_Record_search.call n0 key1 fun t11x0 t11x1 =>
  Ite t11x1
    (Nn n0 fun t18 =>
    Ld (t18.add 1) Sl.val fun t20 =>
    btree_node_string_api_Record_take.s2 Q (some t18) key1 value4 t11x0 true (decide ((t20.n : Int) = 0)))
    (btree_node_string_api_Record_take.s2 Q n0 key1 value4 t11x0 false false)
theorem btree_node_string_api_Record_take_ok (n0 : (Option Addr)) (key1 : ByteArray) (Q : (Array Value) → Bool → K) (w : World) (h : btree_node_string_api_Record_take n0 key1 Q w) : btree_node_string_api_Record_take.call n0 key1 Q w := by
  have hJ14 : JH 14 fun D => ∃ (value4_1 : Addr), D [(4, (.pointer (some value4_1)))] (fun C => ∀ (ok5_1 : Bool), C [(4, (.pointer (some value4_1))), (5, (.bool ok5_1))] (btree_node_string_api_Record_take.s1 Q value4_1 ok5_1)) := by intros; exact ⟨fun _ ⟨_, h⟩ => ⟨_, _, h⟩⟩
  have hD8 : DH 8 2 [14] (.s [0, 1, 2, 4, 5, 6, 7, 9, 3, 8, 10, 11] (.a [(12, 1, .s [13] (.a [(14, 0, .e)]))])) := by intros; exact ⟨⟩
  have hJ3 : JH 3 fun D => ∃ (n0_2 : (Option Addr)) (key1_2 : ByteArray) (value4_2 : Addr) (i6_2 : Int), D [(0, (.pointer n0_2)), (1, (.string key1_2)), (4, (.pointer (some value4_2))), (6, (.int .i64 i6_2))] (fun C => ∀ (found7_2 : Bool) (t14_2 : Bool), C [(0, (.pointer n0_2)), (1, (.string key1_2)), (4, (.pointer (some value4_2))), (5, (.bool false)), (6, (.int .i64 i6_2)), (7, (.bool found7_2)), (14, (.bool t14_2))] (btree_node_string_api_Record_take.s2 Q n0_2 key1_2 value4_2 i6_2 found7_2 t14_2)) := by intros; exact ⟨fun _ ⟨_, _, _, _, h⟩ => ⟨_, _, h⟩⟩
  exact g_walk 96 h Tryz.func130
def btree_node_string_api_Record_put.s2 (Q : (Array Value) → Bool → (Option Addr) → (Option Addr) → K)  (old4_2 : Addr) (had5_2 : Bool) (right7_2 : Addr) (m12_2 : Addr) : K :=
  LdN old4_2 4 fun t153 =>
  StN old4_2 4 t153 <|
  LdN old4_2 4 fun r0 =>
  Q r0 had5_2 (some m12_2) (some right7_2)
def btree_node_string_api_Record_put.s1 (Q : (Array Value) → Bool → (Option Addr) → (Option Addr) → K)  (n0_1 : (Option Addr)) (old4_1 : Addr) (had5_1 : Bool) : K :=
  Nn n0_1 fun t101 =>
  Ld t101 Sl.val fun t103 =>
  Ite (decide ((t103.n : Int) ≤ 5))
    (LdN old4_1 4 fun t106 =>
    StN old4_1 4 t106 <|
    LdN old4_1 4 fun r0 =>
    Q r0 had5_1 none none)
    (Ld t101 Sl.val fun t111 =>
    Idx t111 2 5 fun t112 =>
    LdN t112 5 fun t113 =>
    New 181 #[(.string ⟨#[]⟩), (.bool false), (Sl.val ⟨none, 0, 0⟩), (.int .i64 0), (.int .u64 0)] fun m12 =>
    StN m12 5 t113 <|
    Ld t101 Sl.val fun t117 =>
    Slc t117 3 (t117.n : Int) (t117.c : Int) 5 fun t118 =>
    slices_Clone_s_btree_item_string_api_Record_btree_item_string_api_Record.call t118 fun t119 =>
    New 185 #[(Sl.val t119), (Sl.val ⟨none, 0, 0⟩)] fun t121 =>
    Ld t101 Sl.val fun t126 =>
    Slc t126 0 2 2 5 fun t127 =>
    St t101 (Sl.val t127) <|
    Ld (t101.add 1) Sl.val fun t133 =>
    Ite (decide ((0 : Int) < (t133.n : Int)))
      (Ld (t101.add 1) Sl.val fun t140 =>
      Slc t140 3 (t140.n : Int) (t140.c : Int) 1 fun t141 =>
      slices_Clone_s_btree_node_string_api_Record_btree_node_string_api_Record.call t141 fun t142 =>
      St (t121.add 1) (Sl.val t142) <|
      Ld (t101.add 1) Sl.val fun t149 =>
      Slc t149 0 3 3 1 fun t150 =>
      St (t101.add 1) (Sl.val t150) <|
      btree_node_string_api_Record_put.s2 Q old4_1 had5_1 t121 m12)
      (btree_node_string_api_Record_put.s2 Q old4_1 had5_1 t121 m12))
def btree_node_string_api_Record_put (n0 : (Option Addr)) (x1 : (Array Value)) (Q : (Array Value) → Bool → (Option Addr) → (Option Addr) → K) : K :=
  New 181 x1 fun x3 =>
  New 47 #[(.bool false), (Sl.val ⟨none, 0, 0⟩), (.int .i64 0), (.int .u64 0)] fun old4 =>
  Ld x3 Value.string fun t16 =>
  btree_node_string_api_Record_search.call n0 t16 fun t17x0 t17x1 =>
  Ite t17x1
    (Nn n0 fun t64 =>
    Ld t64 Sl.val fun t66 =>
    Idx t66 t17x0 5 fun t68 =>
    LdN (t68.add 1) 4 fun t70 =>
    StN old4 4 t70 <|
    Dr <|
    Ld t64 Sl.val fun t74 =>
    LdN (x3.add 1) 4 fun t77 =>
    Idx t74 t17x0 5 fun t78 =>
    StN (t78.add 1) 4 t77 <|
    LdN old4 4 fun t80 =>
    StN old4 4 t80 <|
    LdN old4 4 fun r0 =>
    Q r0 true none none)
    (Nn n0 fun t84 =>
    Ld (t84.add 1) Sl.val fun t86 =>
    Ite (decide ((t86.n : Int) = 0))
      (Dr <| WithS fun S =>
      LdS S t84 Sl.val fun t93 =>
      LdNS S x3 5 fun t95 =>
      Bld #[(.string ⟨#[]⟩), (.bool false), (Sl.val ⟨none, 0, 0⟩), (.int .i64 0), (.int .u64 0)] (fun i => some (i * 5, 5)) [(0, (.agg t95))] fun ct96 =>
      New 181 ct96 fun t96 =>
      Sv S <|
      slices_Insert_s_btree_item_string_api_Record_btree_item_string_api_Record.call t93 t17x0 (Sl.mk (some t96) 1 1) fun t97 =>
      St t84 (Sl.val t97) <|
      btree_node_string_api_Record_put.s1 Q (some t84) old4 false)
      (Dr <|
      Ld (t84.add 1) Sl.val fun t24 =>
      Idx t24 t17x0 1 fun t26 =>
      Ld t26 Value.pointer fun t27 =>
      LdN x3 5 fun t28 =>
      btree_node_string_api_Record_put.call t27 t28 fun t29x0 t29x1 t29x2 t29x3 =>
      StN old4 4 t29x0 <|
      Ite (!(t29x2).isNone)
        (Dr <| WithS fun S =>
        Nn t29x2 fun t43 =>
        LdS S t84 Sl.val fun t40 =>
        LdNS S t43 5 fun t44 =>
        Bld #[(.string ⟨#[]⟩), (.bool false), (Sl.val ⟨none, 0, 0⟩), (.int .i64 0), (.int .u64 0)] (fun i => some (i * 5, 5)) [(0, (.agg t44))] fun ct45 =>
        New 181 ct45 fun t45 =>
        Sv S <|
        slices_Insert_s_btree_item_string_api_Record_btree_item_string_api_Record.call t40 t17x0 (Sl.mk (some t45) 1 1) fun t46 =>
        St t84 (Sl.val t46) <|
        Ld (t84.add 1) Sl.val fun t53 =>
        Ar (IntKind.wrap .i64 (t17x0 + 1)) fun t55 =>
        New 175 #[(.pointer t29x3)] fun t57 =>
        slices_Insert_s_btree_node_string_api_Record_btree_node_string_api_Record.call t53 t55 (Sl.mk (some t57) 1 1) fun t58 =>
        St (t84.add 1) (Sl.val t58) <|
        btree_node_string_api_Record_put.s1 Q (some t84) old4 t29x1)
        (btree_node_string_api_Record_put.s1 Q (some t84) old4 t29x1)))
theorem btree_node_string_api_Record_put_ok (n0 : (Option Addr)) (x1 : (Array Value)) (Q : (Array Value) → Bool → (Option Addr) → (Option Addr) → K) (w : World) (h : btree_node_string_api_Record_put n0 x1 Q w) : btree_node_string_api_Record_put.call n0 x1 Q w := by
  have hJ22 : JH 22 fun D => ∃ (old4_2 : Addr) (right7_2 : Addr) (m12_2 : Addr), D [(4, (.pointer (some old4_2))), (7, (.pointer (some right7_2))), (12, (.pointer (some m12_2)))] (fun C => ∀ (had5_2 : Bool), C [(4, (.pointer (some old4_2))), (5, (.bool had5_2)), (7, (.pointer (some right7_2))), (12, (.pointer (some m12_2)))] (btree_node_string_api_Record_put.s2 Q old4_2 had5_2 right7_2 m12_2)) := by intros; exact ⟨fun _ ⟨_, _, _, h⟩ => ⟨_, _, h⟩⟩
  have hJ14 : JH 14 fun D => ∃ (n0_1 : (Option Addr)) (old4_1 : Addr), D [(0, (.pointer n0_1)), (4, (.pointer (some old4_1)))] (fun C => ∀ (had5_1 : Bool), C [(0, (.pointer n0_1)), (4, (.pointer (some old4_1))), (5, (.bool had5_1))] (btree_node_string_api_Record_put.s1 Q n0_1 old4_1 had5_1)) := by intros; exact ⟨fun _ ⟨_, _, h⟩ => ⟨_, _, h⟩⟩
  have hD10 : DH 10 1 [9] (.s [0, 1, 2, 4, 5, 3, 6, 7, 8] (.a [(9, 0, .e)])) := by intros; exact ⟨⟩
  have hD13 : DH 13 2 [8, 11] (.s [0, 1, 2, 3, 5, 4, 6] (.a [(7, 1, .a [(8, 0, .s [9, 10] (.a [(11, 0, .e)]))])])) := by intros; exact ⟨⟩
  have hD6 : DH 6 2 [10, 13] (.s [0, 1, 2, 3, 5, 6, 7, 4, 8] (.a [(9, 1, .a [(10, 0, .s [11, 12] (.a [(13, 0, .e)]))])])) := by intros; exact ⟨⟩
  have hD4 : DH 4 1 [8, 14] (.s [0, 1, 2, 4, 3, 5, 6, 7] (.a [(8, 0, .s [9, 10, 11, 12, 13] (.a [(14, 0, .s [15, 16, 17] .e)]))])) := by intros; exact ⟨⟩
  exact g_walk 156 h Tryz.func131
def btree_node_string_api_Record_last (n0 : (Option Addr)) (Q : (Array Value) → K) : K :=
  New 181 #[(.string ⟨#[]⟩), (.bool false), (Sl.val ⟨none, 0, 0⟩), (.int .i64 0), (.int .u64 0)] fun t2 =>
  Nn n0 fun t7 =>
  Ld (t7.add 1) Sl.val fun t9 =>
  Ar (IntKind.wrap .i64 ((t9.n : Int) - 1)) fun t11 =>
  Ite (decide ((0 : Int) ≤ t11))
    (Ld (t7.add 1) Sl.val fun t17 =>
    Idx t17 t11 1 fun t19 =>
    Ld t19 Value.pointer fun t20 =>
    btree_node_string_api_Record_last.call t20 fun t21 =>
    New 181 #[(.string ⟨#[]⟩), (.bool false), (Sl.val ⟨none, 0, 0⟩), (.int .i64 0), (.int .u64 0)] fun x4 =>
    StN x4 5 t21 <|
    btree_node_string_api_Record_mend.call (some t7) t11 <|
    LdN x4 5 fun t25 =>
    StN t2 5 t25 <|
    LdN t2 5 fun r0 =>
    Q r0)
    (Dr <| WithS fun S =>
    LdS S t7 Sl.val fun t29 =>
    LdS S t7 Sl.val fun t33 =>
    Ar (IntKind.wrap .i64 ((t33.n : Int) - 1)) fun t35 =>
    Idx t29 t35 5 fun t36 =>
    LdNS S t36 5 fun t37 =>
    New 181 #[(.string ⟨#[]⟩), (.bool false), (Sl.val ⟨none, 0, 0⟩), (.int .i64 0), (.int .u64 0)] fun x5 =>
    Sv S <|
    StN x5 5 t37 <|
    Dr <|
    Ld t7 Sl.val fun t42 =>
    Ld t7 Sl.val fun t46 =>
    Ar (IntKind.wrap .i64 ((t46.n : Int) - 1)) fun t48 =>
    Slc t42 0 t48 (t42.c : Int) 5 fun t49 =>
    St t7 (Sl.val t49) <|
    LdN x5 5 fun t52 =>
    StN t2 5 t52 <|
    LdN t2 5 fun r0 =>
    Q r0)
theorem btree_node_string_api_Record_last_ok (n0 : (Option Addr)) (Q : (Array Value) → K) (w : World) (h : btree_node_string_api_Record_last n0 Q w) : btree_node_string_api_Record_last.call n0 Q w := by
  have hD7 : DH 7 1 [14] (.s [0, 1, 2, 3, 5, 6, 7, 4, 8, 9, 10, 11, 12, 13] (.a [(14, 0, .e)])) := by intros; exact ⟨⟩
  have hD6 : DH 6 2 [13] (.s [0, 1, 2, 4, 5, 6, 3, 7, 8, 9, 10, 11] (.a [(12, 1, .a [(13, 0, .e)])])) := by intros; exact ⟨⟩
  exact g_walk 53 h Tryz.func155
def btree_node_string_api_Record_mend.s2 (Q : K)  (n0_2 : Addr) (i1_2 : Int) (kid4_2 : Addr) (t202_2 : Bool) : K :=
  Ite t202_2
    (Ld (n0_2.add 1) Sl.val fun t229 =>
    Ar (IntKind.wrap .i64 (i1_2 + 1)) fun t231 =>
    Idx t229 t231 1 fun t232 =>
    Ld t232 Value.pointer fun t233 =>
    Dr <| WithS fun S =>
    LdS S kid4_2 Sl.val fun t238 =>
    LdS S n0_2 Sl.val fun t242 =>
    Idx t242 i1_2 5 fun t244 =>
    LdNS S t244 5 fun t245 =>
    Bld #[(.string ⟨#[]⟩), (.bool false), (Sl.val ⟨none, 0, 0⟩), (.int .i64 0), (.int .u64 0)] (fun i => some (i * 5, 5)) [(0, (.agg t245))] fun ct246 =>
    New 181 ct246 fun t246 =>
    Sv S <|
    Do Tryz.prog (Builtin.append_ #[182, 182] 182 #[(Sl.val t238), (Sl.val (Sl.mk (some t246) 1 1))]) Sl.val fun t247 =>
    St kid4_2 (Sl.val t247) <|
    Dr <|
    Nn t233 fun t256 =>
    Ld n0_2 Sl.val fun t253 =>
    Ld t256 Sl.val fun t258 =>
    Idx t258 0 5 fun t259 =>
    LdN t259 5 fun t260 =>
    Idx t253 i1_2 5 fun t261 =>
    StN t261 5 t260 <|
    Ld t256 Sl.val fun t266 =>
    slices_Delete_s_btree_item_string_api_Record_btree_item_string_api_Record.call t266 0 1 fun t267 =>
    St t256 (Sl.val t267) <|
    Ld (t256.add 1) Sl.val fun t273 =>
    Ite (decide ((0 : Int) < (t273.n : Int)))
      (Dr <| WithS fun S =>
      LdS S (kid4_2.add 1) Sl.val fun t280 =>
      LdS S (t256.add 1) Sl.val fun t284 =>
      Idx t284 0 1 fun t285 =>
      LdS S t285 Value.pointer fun t286 =>
      New 175 #[(.pointer t286)] fun t287 =>
      Sv S <|
      Do Tryz.prog (Builtin.append_ #[183, 183] 183 #[(Sl.val t280), (Sl.val (Sl.mk (some t287) 1 1))]) Sl.val fun t288 =>
      St (kid4_2.add 1) (Sl.val t288) <|
      Ld (t256.add 1) Sl.val fun t295 =>
      slices_Delete_s_btree_node_string_api_Record_btree_node_string_api_Record.call t295 0 1 fun t296 =>
      St (t256.add 1) (Sl.val t296) <|
      Q)
      (Q))
    (Ar (if (1 : Int) > i1_2 then 1 else i1_2) fun t18 =>
    Dr <|
    Ld (n0_2.add 1) Sl.val fun t22 =>
    Ar (IntKind.wrap .i64 (t18 - 1)) fun t24 =>
    Idx t22 t24 1 fun t25 =>
    Ld t25 Value.pointer fun t26 =>
    Ld (n0_2.add 1) Sl.val fun t30 =>
    Idx t30 t18 1 fun t32 =>
    Ld t32 Value.pointer fun t33 =>
    Dr <| WithS fun S =>
    Nn t26 fun t36 =>
    Ar (IntKind.wrap .i64 (t18 - 1)) fun t44 =>
    Nn t33 fun t50 =>
    LdS S t36 Sl.val fun t38 =>
    LdS S n0_2 Sl.val fun t42 =>
    Idx t42 t44 5 fun t45 =>
    LdNS S t45 5 fun t46 =>
    LdS S t50 Sl.val fun t52 =>
    Bld #[(.string ⟨#[]⟩), (.bool false), (Sl.val ⟨none, 0, 0⟩), (.int .i64 0), (.int .u64 0)] (fun i => some (i * 5, 5)) [(0, (.agg t46))] fun ct47 =>
    New 181 ct47 fun t47 =>
    Sv S <|
    Do Tryz.prog (Builtin.append_ #[182, 182] 182 #[(Sl.val t38), (Sl.val (Sl.mk (some t47) 1 1))]) Sl.val fun t48 =>
    Sv S <|
    Do Tryz.prog (Builtin.append_ #[182, 182] 182 #[(Sl.val t48), (Sl.val t52)]) Sl.val fun t53 =>
    St t36 (Sl.val t53) <|
    Dr <|
    Ld (t36.add 1) Sl.val fun t60 =>
    Ld (t50.add 1) Sl.val fun t64 =>
    Do Tryz.prog (Builtin.append_ #[183, 183] 183 #[(Sl.val t60), (Sl.val t64)]) Sl.val fun t65 =>
    St (t36.add 1) (Sl.val t65) <|
    Ld n0_2 Sl.val fun t72 =>
    Ar (IntKind.wrap .i64 (t18 - 1)) fun t74 =>
    slices_Delete_s_btree_item_string_api_Record_btree_item_string_api_Record.call t72 t74 t18 fun t76 =>
    St n0_2 (Sl.val t76) <|
    Ld (n0_2.add 1) Sl.val fun t83 =>
    Ar (IntKind.wrap .i64 (t18 + 1)) fun t86 =>
    slices_Delete_s_btree_node_string_api_Record_btree_node_string_api_Record.call t83 t18 t86 fun t87 =>
    St (n0_2.add 1) (Sl.val t87) <|
    Q)
def btree_node_string_api_Record_mend.s1 (Q : K)  (n0_1 : Addr) (i1_1 : Int) (kid4_1 : Addr) (t97_1 : Bool) : K :=
  Ite t97_1
    (Ld (n0_1.add 1) Sl.val fun t118 =>
    Ar (IntKind.wrap .i64 (i1_1 - 1)) fun t120 =>
    Idx t118 t120 1 fun t121 =>
    Ld t121 Value.pointer fun t122 =>
    Nn t122 fun t124 =>
    Ld t124 Sl.val fun t126 =>
    Ar (IntKind.wrap .i64 ((t126.n : Int) - 1)) fun t128 =>
    Dr <| WithS fun S =>
    Ar (IntKind.wrap .i64 (i1_1 - 1)) fun t139 =>
    LdS S kid4_1 Sl.val fun t133 =>
    LdS S n0_1 Sl.val fun t137 =>
    Idx t137 t139 5 fun t140 =>
    LdNS S t140 5 fun t141 =>
    Bld #[(.string ⟨#[]⟩), (.bool false), (Sl.val ⟨none, 0, 0⟩), (.int .i64 0), (.int .u64 0)] (fun i => some (i * 5, 5)) [(0, (.agg t141))] fun ct142 =>
    New 181 ct142 fun t142 =>
    Sv S <|
    slices_Insert_s_btree_item_string_api_Record_btree_item_string_api_Record.call t133 0 (Sl.mk (some t142) 1 1) fun t143 =>
    St kid4_1 (Sl.val t143) <|
    Dr <|
    Ar (IntKind.wrap .i64 (i1_1 - 1)) fun t151 =>
    Ld n0_1 Sl.val fun t149 =>
    Ld t124 Sl.val fun t155 =>
    Idx t155 t128 5 fun t157 =>
    LdN t157 5 fun t158 =>
    Idx t149 t151 5 fun t159 =>
    StN t159 5 t158 <|
    Ld t124 Sl.val fun t164 =>
    Slc t164 0 t128 (t164.c : Int) 5 fun t166 =>
    St t124 (Sl.val t166) <|
    Ld (t124.add 1) Sl.val fun t172 =>
    Ite (decide ((0 : Int) < (t172.n : Int)))
      (Dr <| WithS fun S =>
      Ar (IntKind.wrap .i64 (t128 + 1)) fun t185 =>
      LdS S (kid4_1.add 1) Sl.val fun t179 =>
      LdS S (t124.add 1) Sl.val fun t183 =>
      Idx t183 t185 1 fun t186 =>
      LdS S t186 Value.pointer fun t187 =>
      New 175 #[(.pointer t187)] fun t188 =>
      Sv S <|
      slices_Insert_s_btree_node_string_api_Record_btree_node_string_api_Record.call t179 0 (Sl.mk (some t188) 1 1) fun t189 =>
      St (kid4_1.add 1) (Sl.val t189) <|
      Ld (t124.add 1) Sl.val fun t196 =>
      Ar (IntKind.wrap .i64 (t128 + 1)) fun t198 =>
      Slc t196 0 t198 (t196.c : Int) 1 fun t199 =>
      St (t124.add 1) (Sl.val t199) <|
      Q)
      (Q))
    (Ar (IntKind.wrap .i64 (i1_1 + 1)) fun t204 =>
    Ld (n0_1.add 1) Sl.val fun t208 =>
    Ite (decide (t204 < (t208.n : Int)))
      (Ld (n0_1.add 1) Sl.val fun t215 =>
      Ar (IntKind.wrap .i64 (i1_1 + 1)) fun t217 =>
      Idx t215 t217 1 fun t218 =>
      Ld t218 Value.pointer fun t219 =>
      Nn t219 fun t220 =>
      Ld t220 Sl.val fun t222 =>
      btree_node_string_api_Record_mend.s2 Q n0_1 i1_1 kid4_1 (decide ((2 : Int) < (t222.n : Int))))
      (btree_node_string_api_Record_mend.s2 Q n0_1 i1_1 kid4_1 false))
def btree_node_string_api_Record_mend (n0 : (Option Addr)) (i1 : Int) (Q : K) : K :=
  Nn n0 fun t11 =>
  Ld (t11.add 1) Sl.val fun t13 =>
  Idx t13 i1 1 fun t15 =>
  Ld t15 Value.pointer fun t16 =>
  Nn t16 fun t92 =>
  Ld t92 Sl.val fun t94 =>
  Ite (decide ((2 : Int) ≤ (t94.n : Int)))
    (Q)
    (Ite (decide ((0 : Int) < i1))
      (Ld (t11.add 1) Sl.val fun t104 =>
      Ar (IntKind.wrap .i64 (i1 - 1)) fun t106 =>
      Idx t104 t106 1 fun t107 =>
      Ld t107 Value.pointer fun t108 =>
      Nn t108 fun t109 =>
      Ld t109 Sl.val fun t111 =>
      btree_node_string_api_Record_mend.s1 Q t11 i1 t92 (decide ((2 : Int) < (t111.n : Int))))
      (btree_node_string_api_Record_mend.s1 Q t11 i1 t92 false))
theorem btree_node_string_api_Record_mend_ok (n0 : (Option Addr)) (i1 : Int) (Q : K) (w : World) (h : btree_node_string_api_Record_mend n0 i1 Q w) : btree_node_string_api_Record_mend.call n0 i1 Q w := by
  have hD15 : DH 15 2 [14, 17] (.s [0, 1, 2, 3, 5, 6, 7, 9, 10, 4, 8, 11, 12] (.a [(13, 1, .a [(14, 0, .s [15, 16] (.a [(17, 0, .e)]))])])) := by intros; exact ⟨⟩
  have hD12 : DH 12 1 [14] (.s [0, 1, 2, 4, 5, 6, 7, 8, 10, 3, 9, 11, 12, 13] (.a [(14, 0, .e)])) := by intros; exact ⟨⟩
  have hD11 : DH 11 2 [14, 17] (.s [0, 1, 2, 3, 5, 6, 7, 9, 10, 4, 8, 11, 12] (.a [(13, 1, .a [(14, 0, .s [15, 16] (.a [(17, 0, .e)]))])])) := by intros; exact ⟨⟩
  have hD23 : DH 23 2 [12, 15] (.s [0, 1, 2, 3, 5, 6, 7, 4, 8, 9, 10] (.a [(11, 1, .a [(12, 0, .s [13, 14] (.a [(15, 0, .e)]))])])) := by intros; exact ⟨⟩
  have hD20 : DH 20 1 [12] (.s [0, 1, 2, 4, 5, 6, 7, 3, 8, 9, 10, 11] (.a [(12, 0, .e)])) := by intros; exact ⟨⟩
  have hD19 : DH 19 2 [13, 16] (.s [0, 1, 2, 3, 5, 6, 7, 9, 4, 8, 10, 11] (.a [(12, 1, .a [(13, 0, .s [14, 15] (.a [(16, 0, .e)]))])])) := by intros; exact ⟨⟩
  have hD4 : DH 4 1 [9, 12] (.s [0, 1, 2, 3, 5, 6, 7, 4, 8] (.a [(9, 0, .s [10, 11] (.a [(12, 0, .e)]))])) := by intros; exact ⟨⟩
  have hD3 : DH 3 2 [19, 22] (.s [0, 1, 2, 3, 5, 6, 7, 9, 10, 15, 16, 17, 4, 8, 11, 12, 18] (.a [(13, 1, .a [(14, 1, .a [(19, 0, .s [20, 21] (.a [(22, 0, .e)]))])])])) := by intros; exact ⟨⟩
  have hJ18 : JH 18 fun D => ∃ (n0_2 : Addr) (i1_2 : Int) (kid4_2 : Addr), D [(0, (.pointer (some n0_2))), (1, (.int .i64 i1_2)), (4, (.pointer (some kid4_2)))] (fun C => ∀ (t202_2 : Bool), C [(0, (.pointer (some n0_2))), (1, (.int .i64 i1_2)), (4, (.pointer (some kid4_2))), (202, (.bool t202_2))] (btree_node_string_api_Record_mend.s2 Q n0_2 i1_2 kid4_2 t202_2)) := by intros; exact ⟨fun _ ⟨_, _, _, h⟩ => ⟨_, _, h⟩⟩
  have hJ9 : JH 9 fun D => ∃ (n0_1 : Addr) (i1_1 : Int) (kid4_1 : Addr), D [(0, (.pointer (some n0_1))), (1, (.int .i64 i1_1)), (4, (.pointer (some kid4_1)))] (fun C => ∀ (t97_1 : Bool), C [(0, (.pointer (some n0_1))), (1, (.int .i64 i1_1)), (4, (.pointer (some kid4_1))), (97, (.bool t97_1))] (btree_node_string_api_Record_mend.s1 Q n0_1 i1_1 kid4_1 t97_1)) := by intros; exact ⟨fun _ ⟨_, _, _, h⟩ => ⟨_, _, h⟩⟩
  exact g_walk 299 h Tryz.func156
end Go.Proofs.YtfjjocopmknhgaaGreat
/- Plain forms of functions, and that their code comes to them (package lib_btree). -/
namespace Go.Proofs.YtfjjocopmknhgaaGreat
open Go Go.Sep
set_option linter.unusedVariables false
set_option linter.unusedSimpArgs false
set_option maxRecDepth 100000
set_option maxHeartbeats 4000000
attribute [local irreducible] G Gp Cx Tx Ex Sx Dx Ox Ax Lx Rx Fx Bx Bj Al Do Ld LdN St StN New CallF Ar DoU Rd Rd2 Pu Cd Ite Fv CallV CallY Ans0 Ans1 Ans2 Ans3 Ans4 Ans5 Ext Dead Dr WithS Sv LdS LdNS RdS Rd2S Nn Idx IdxA IdxS Fld Bld Slc SlcS Cat All LoopK RangeF RangeJ TakeD
namespace F_IRLibBtree
instance at_181 : AT Tryz.prog 181 5 := ⟨by kernel_rfl⟩
instance cb_172 : CB Tryz.prog 172 := ⟨by kernel_rfl⟩
instance cb_174 : CB Tryz.prog 174 := ⟨by kernel_rfl⟩
instance cb_177 : CB Tryz.prog 177 := ⟨by kernel_rfl⟩
instance cb_178 : CB Tryz.prog 178 := ⟨by kernel_rfl⟩
instance cb_179 : CB Tryz.prog 179 := ⟨by kernel_rfl⟩
instance cb_180 : CB Tryz.prog 180 := ⟨by kernel_rfl⟩
instance ct_175 : CT Tryz.prog 175 := ⟨by kernel_rfl⟩
instance ext_171 : EXT Tryz.prog 171 (Extern.SlicesOverlaps.overlaps #[182, 182] #[4]) := ext_of Tryz.func171 (by kernel_rfl) (by kernel_rfl) (by kernel_rfl) (by kernel_rfl)
instance ext_173 : EXT Tryz.prog 173 (Extern.SlicesOverlaps.overlaps #[183, 183] #[4]) := ext_of Tryz.func173 (by kernel_rfl) (by kernel_rfl) (by kernel_rfl) (by kernel_rfl)
instance in_210 : INT Tryz.prog 210 .u64 := ⟨by kernel_rfl⟩
instance in_3 : INT Tryz.prog 3 .i64 := ⟨by kernel_rfl⟩
instance mx : MX Tryz.prog := ⟨mixed⟩
instance sl_182 : SLT Tryz.prog 182 181 5 := ⟨by kernel_rfl⟩
instance sl_183 : SLT Tryz.prog 183 175 1 := ⟨by kernel_rfl⟩
instance sz_175 : SZ Tryz.prog 175 1 := ⟨by kernel_rfl⟩
instance sz_181 : SZ Tryz.prog 181 5 := ⟨by kernel_rfl⟩
instance un_182 : UN Tryz.prog 182 (.slice 181) := ⟨Tryz.underlying182⟩
instance un_183 : UN Tryz.prog 183 (.slice 175) := ⟨Tryz.underlying183⟩
instance zt_175 : ZT Tryz.prog 175 (.pointer none) := ⟨Tryz.t175, by kernel_rfl, by kernel_rfl⟩
instance zt_181 : ZT Tryz.prog 181 (.agg #[(.string ⟨#[]⟩), (.bool false), (Sl.val ⟨none, 0, 0⟩), (.int .i64 0), (.int .u64 0)]) := ⟨Tryz.t181, by kernel_rfl, by kernel_rfl⟩
end F_IRLibBtree
def slices_BinarySearchFunc_s_btree_item_string_api_Record_btree_item_string_api_Record_string.s2 (Q : Int → Bool → K) (X1 : Int → Int → K) (t6_2 : Int) (t7_2 : Bool) : K :=
  Q t6_2 t7_2
def slices_BinarySearchFunc_s_btree_item_string_api_Record_btree_item_string_api_Record_string.b1 (Q : Int → Bool → K)  (X1 : Int → Int → K) (x0_1 : Sl) (target1_1 : ByteArray) (cmp2_1 : Value) (n8_1 : Int) (i9_1 : Int) (j10_1 : Int) : K :=
  Ite (decide (i9_1 < j10_1))
    (Ar (IntKind.wrap .i64 (i9_1 + j10_1)) fun t20 =>
    Ar (IntKind.wrap .u64 t20) fun t21 =>
    Cd (0 ≤ (1 : Int)) <|
    Ar (shrOf .u64 t21 1) fun t22 =>
    Ar (IntKind.wrap .i64 t22) fun t23 =>
    Idx x0_1 t23 5 fun t27 =>
    LdN t27 5 fun t28 =>
    CallV Tryz.prog cmp2_1 [(.agg t28), (.string target1_1)] <| Ans1 (fun (t30 : Int) => (Value.int .i64) t30) fun t30 =>
    Ite (decide (t30 < 0))
      (Ar (IntKind.wrap .i64 (t23 + 1)) fun t33 =>
      X1 t33 j10_1)
      (X1 i9_1 t23))
    (Ite (decide (i9_1 < n8_1))
      (Idx x0_1 i9_1 5 fun t43 =>
      LdN t43 5 fun t44 =>
      CallV Tryz.prog cmp2_1 [(.agg t44), (.string target1_1)] <| Ans1 (fun (t46 : Int) => (Value.int .i64) t46) fun t46 =>
      slices_BinarySearchFunc_s_btree_item_string_api_Record_btree_item_string_api_Record_string.s2 Q X1 i9_1 (decide (t46 = 0)))
      (slices_BinarySearchFunc_s_btree_item_string_api_Record_btree_item_string_api_Record_string.s2 Q X1 i9_1 false))
def slices_BinarySearchFunc_s_btree_item_string_api_Record_btree_item_string_api_Record_string (x0 : Sl) (target1 : ByteArray) (cmp2 : Value) (Q : Int → Bool → K) : K :=
  LoopK (α := Int × Int) (fun X x => slices_BinarySearchFunc_s_btree_item_string_api_Record_btree_item_string_api_Record_string.b1 Q (fun i9_1 j10_1 => X (i9_1, j10_1)) x0 target1 cmp2 (x0.n : Int) x.1 x.2) (0, (x0.n : Int))
theorem slices_BinarySearchFunc_s_btree_item_string_api_Record_btree_item_string_api_Record_string_ok (x0 : Sl) (target1 : ByteArray) (cmp2 : Value) (Q : Int → Bool → K) (w : World) (h : slices_BinarySearchFunc_s_btree_item_string_api_Record_btree_item_string_api_Record_string x0 target1 cmp2 Q w) : slices_BinarySearchFunc_s_btree_item_string_api_Record_btree_item_string_api_Record_string.call x0 target1 cmp2 Q w := by
  have hJ1000008 : ∀ (X1 : (Int × Int) → K), XH 3 X1 → JH 1000008 fun D => D [] (fun C => ∀ (t6_2 : Int) (t7_2 : Bool), C [(6, (.int .i64 t6_2)), (7, (.bool t7_2))] (slices_BinarySearchFunc_s_btree_item_string_api_Record_btree_item_string_api_Record_string.s2 Q (fun i9_1 j10_1 => X1 (i9_1, j10_1)) t6_2 t7_2)) := by intros; exact ⟨fun _ h => ⟨_, _, h⟩⟩
  have hL3 : ∀ (x0_1 : Sl) (target1_1 : ByteArray) (cmp2_1 : Value) (n8_1 : Int), LH 3 (fun x : Int × Int => [(0, (Sl.val x0_1)), (1, (.string target1_1)), (2, cmp2_1), (8, (.int .i64 n8_1)), (9, (.int .i64 x.1)), (10, (.int .i64 x.2))]) (fun X x => slices_BinarySearchFunc_s_btree_item_string_api_Record_btree_item_string_api_Record_string.b1 Q (fun i9_1 j10_1 => X (i9_1, j10_1)) x0_1 target1_1 cmp2_1 n8_1 x.1 x.2) := by intros; exact ⟨⟩
  exact g_walk 49 h Tryz.func121
def slices_Delete_s_btree_item_string_api_Record_btree_item_string_api_Record (s0 : Sl) (i1 : Int) (j2 : Int) (Q : Sl → K) : K :=
  Slc s0 i1 j2 (s0.n : Int) 5 fun t13 =>
  Ite (decide (i1 = j2))
    (Q s0)
    (Dr <|
    Slc s0 0 i1 (s0.c : Int) 5 fun t22 =>
    Slc s0 j2 (s0.n : Int) (s0.c : Int) 5 fun t25 =>
    Do Tryz.prog (Builtin.append_ #[182, 182] 182 #[(Sl.val t22), (Sl.val t25)]) Sl.val fun t26 =>
    Slc t26 (t26.n : Int) (s0.n : Int) (t26.c : Int) 5 fun t31 =>
    Do Tryz.prog (Builtin.clear_ #[182] 0 #[(Sl.val t31)]) id fun _ =>
    Q t26)
theorem slices_Delete_s_btree_item_string_api_Record_btree_item_string_api_Record_ok (s0 : Sl) (i1 : Int) (j2 : Int) (Q : Sl → K) (w : World) (h : slices_Delete_s_btree_item_string_api_Record_btree_item_string_api_Record s0 i1 j2 Q w) : slices_Delete_s_btree_item_string_api_Record_btree_item_string_api_Record.call s0 i1 j2 Q w := by
  have hD5 : DH 5 0 [] (.s [0, 1, 2, 3, 4, 5] (.a [(6, 0, .s [7] .e)])) := by intros; exact ⟨⟩
  exact g_walk 33 h Tryz.func154
def slices_Insert_s_btree_item_string_api_Record_btree_item_string_api_Record (s0 : Sl) (i1 : Int) (v2 : Sl) (Q : Sl → K) : K :=
  Slc s0 i1 (s0.n : Int) (s0.c : Int) 5 fun t12 =>
  Ite (decide ((v2.n : Int) = 0))
    (Q s0)
    (Ite (decide (i1 = (s0.n : Int)))
      (Do Tryz.prog (Builtin.append_ #[182, 182] 182 #[(Sl.val s0), (Sl.val v2)]) Sl.val fun t25 =>
      Q t25)
      (Ar (IntKind.wrap .i64 ((s0.n : Int) + (v2.n : Int))) fun t28 =>
      Do Tryz.prog (Builtin.cap_ #[182] 3 #[(Sl.val s0)]) (Value.int .i64) fun t30 =>
      Ite (decide (t30 < t28))
        (Slc s0 0 i1 (s0.c : Int) 5 fun t34 =>
        Ar (IntKind.wrap .i64 ((s0.n : Int) + (v2.n : Int))) fun t37 =>
        Ar (IntKind.wrap .i64 (t37 - i1)) fun t39 =>
        Do Tryz.prog (Builtin.append_ #[182, 3] 182 #[(Sl.val t34), (.int .i64 t39)]) Sl.val fun t40 =>
        Slc t40 i1 (t40.n : Int) (t40.c : Int) 5 fun t43 =>
        Do Tryz.prog (Builtin.copy_ #[182, 182] 3 #[(Sl.val t43), (Sl.val v2)]) (Value.int .i64) fun t45 =>
        Dr <|
        Ar (IntKind.wrap .i64 (i1 + (v2.n : Int))) fun t49 =>
        Slc t40 t49 (t40.n : Int) (t40.c : Int) 5 fun t50 =>
        Slc s0 i1 (s0.n : Int) (s0.c : Int) 5 fun t53 =>
        Do Tryz.prog (Builtin.copy_ #[182, 182] 3 #[(Sl.val t50), (Sl.val t53)]) (Value.int .i64) fun t54 =>
        Q t40)
        (Ar (IntKind.wrap .i64 ((s0.n : Int) + (v2.n : Int))) fun t59 =>
        Slc s0 0 t59 (s0.c : Int) 5 fun t60 =>
        Ar (IntKind.wrap .i64 (i1 + (v2.n : Int))) fun t65 =>
        Slc t60 t65 (t60.n : Int) (t60.c : Int) 5 fun t66 =>
        Rd Tryz.prog (Extern.SlicesOverlaps.overlaps #[182, 182] #[4] [(Sl.val v2), (Sl.val t66)].toArray) Value.bool fun t67 =>
        Ite (!t67)
          (Dr <|
          Ar (IntKind.wrap .i64 (i1 + (v2.n : Int))) fun t72 =>
          Slc t60 t72 (t60.n : Int) (t60.c : Int) 5 fun t73 =>
          Slc t60 i1 (t60.n : Int) (t60.c : Int) 5 fun t76 =>
          Do Tryz.prog (Builtin.copy_ #[182, 182] 3 #[(Sl.val t73), (Sl.val t76)]) (Value.int .i64) fun t77 =>
          Slc t60 i1 (t60.n : Int) (t60.c : Int) 5 fun t80 =>
          Do Tryz.prog (Builtin.copy_ #[182, 182] 3 #[(Sl.val t80), (Sl.val v2)]) (Value.int .i64) fun t82 =>
          Q t60)
          (Slc t60 (s0.n : Int) (t60.n : Int) (t60.c : Int) 5 fun t86 =>
          Do Tryz.prog (Builtin.copy_ #[182, 182] 3 #[(Sl.val t86), (Sl.val v2)]) (Value.int .i64) fun t88 =>
          Slc t60 i1 (t60.n : Int) (t60.c : Int) 5 fun t91 =>
          slices_rotateRight_btree_item_string_api_Record.call t91 (v2.n : Int) <|
          Q t60))))
theorem slices_Insert_s_btree_item_string_api_Record_btree_item_string_api_Record_ok (s0 : Sl) (i1 : Int) (v2 : Sl) (Q : Sl → K) (w : World) (h : slices_Insert_s_btree_item_string_api_Record_btree_item_string_api_Record s0 i1 v2 Q w) : slices_Insert_s_btree_item_string_api_Record_btree_item_string_api_Record.call s0 i1 v2 Q w := by
  have hD11 : DH 11 0 [] (.s [0, 1, 2, 3, 4, 5, 6, 7] (.a [(8, 0, .e)])) := by intros; exact ⟨⟩
  have hD15 : DH 15 0 [] (.s [0, 1, 2, 3, 4, 5, 6, 7] (.a [(8, 0, .e)])) := by intros; exact ⟨⟩
  exact g_walk 95 h Tryz.func157
def slices_Insert_s_btree_node_string_api_Record_btree_node_string_api_Record (s0 : Sl) (i1 : Int) (v2 : Sl) (Q : Sl → K) : K :=
  Slc s0 i1 (s0.n : Int) (s0.c : Int) 1 fun t12 =>
  Ite (decide ((v2.n : Int) = 0))
    (Q s0)
    (Ite (decide (i1 = (s0.n : Int)))
      (Do Tryz.prog (Builtin.append_ #[183, 183] 183 #[(Sl.val s0), (Sl.val v2)]) Sl.val fun t25 =>
      Q t25)
      (Ar (IntKind.wrap .i64 ((s0.n : Int) + (v2.n : Int))) fun t28 =>
      Do Tryz.prog (Builtin.cap_ #[183] 3 #[(Sl.val s0)]) (Value.int .i64) fun t30 =>
      Ite (decide (t30 < t28))
        (Slc s0 0 i1 (s0.c : Int) 1 fun t34 =>
        Ar (IntKind.wrap .i64 ((s0.n : Int) + (v2.n : Int))) fun t37 =>
        Ar (IntKind.wrap .i64 (t37 - i1)) fun t39 =>
        Do Tryz.prog (Builtin.append_ #[183, 3] 183 #[(Sl.val t34), (.int .i64 t39)]) Sl.val fun t40 =>
        Slc t40 i1 (t40.n : Int) (t40.c : Int) 1 fun t43 =>
        Do Tryz.prog (Builtin.copy_ #[183, 183] 3 #[(Sl.val t43), (Sl.val v2)]) (Value.int .i64) fun t45 =>
        Dr <|
        Ar (IntKind.wrap .i64 (i1 + (v2.n : Int))) fun t49 =>
        Slc t40 t49 (t40.n : Int) (t40.c : Int) 1 fun t50 =>
        Slc s0 i1 (s0.n : Int) (s0.c : Int) 1 fun t53 =>
        Do Tryz.prog (Builtin.copy_ #[183, 183] 3 #[(Sl.val t50), (Sl.val t53)]) (Value.int .i64) fun t54 =>
        Q t40)
        (Ar (IntKind.wrap .i64 ((s0.n : Int) + (v2.n : Int))) fun t59 =>
        Slc s0 0 t59 (s0.c : Int) 1 fun t60 =>
        Ar (IntKind.wrap .i64 (i1 + (v2.n : Int))) fun t65 =>
        Slc t60 t65 (t60.n : Int) (t60.c : Int) 1 fun t66 =>
        Rd Tryz.prog (Extern.SlicesOverlaps.overlaps #[183, 183] #[4] [(Sl.val v2), (Sl.val t66)].toArray) Value.bool fun t67 =>
        Ite (!t67)
          (Dr <|
          Ar (IntKind.wrap .i64 (i1 + (v2.n : Int))) fun t72 =>
          Slc t60 t72 (t60.n : Int) (t60.c : Int) 1 fun t73 =>
          Slc t60 i1 (t60.n : Int) (t60.c : Int) 1 fun t76 =>
          Do Tryz.prog (Builtin.copy_ #[183, 183] 3 #[(Sl.val t73), (Sl.val t76)]) (Value.int .i64) fun t77 =>
          Slc t60 i1 (t60.n : Int) (t60.c : Int) 1 fun t80 =>
          Do Tryz.prog (Builtin.copy_ #[183, 183] 3 #[(Sl.val t80), (Sl.val v2)]) (Value.int .i64) fun t82 =>
          Q t60)
          (Slc t60 (s0.n : Int) (t60.n : Int) (t60.c : Int) 1 fun t86 =>
          Do Tryz.prog (Builtin.copy_ #[183, 183] 3 #[(Sl.val t86), (Sl.val v2)]) (Value.int .i64) fun t88 =>
          Slc t60 i1 (t60.n : Int) (t60.c : Int) 1 fun t91 =>
          slices_rotateRight_btree_node_string_api_Record.call t91 (v2.n : Int) <|
          Q t60))))
theorem slices_Insert_s_btree_node_string_api_Record_btree_node_string_api_Record_ok (s0 : Sl) (i1 : Int) (v2 : Sl) (Q : Sl → K) (w : World) (h : slices_Insert_s_btree_node_string_api_Record_btree_node_string_api_Record s0 i1 v2 Q w) : slices_Insert_s_btree_node_string_api_Record_btree_node_string_api_Record.call s0 i1 v2 Q w := by
  have hD11 : DH 11 0 [] (.s [0, 1, 2, 3, 4, 5, 6, 7] (.a [(8, 0, .e)])) := by intros; exact ⟨⟩
  have hD15 : DH 15 0 [] (.s [0, 1, 2, 3, 4, 5, 6, 7] (.a [(8, 0, .e)])) := by intros; exact ⟨⟩
  exact g_walk 95 h Tryz.func158
def slices_Clone_s_btree_item_string_api_Record_btree_item_string_api_Record (s0 : Sl) (Q : Sl → K) : K :=
  Ite ((s0).a.isNone)
    (Q (Sl.mk none 0 0))
    (New 181 #[] fun t5 =>
    Do Tryz.prog (Builtin.append_ #[182, 182] 182 #[(Sl.val (Sl.mk (some t5) 0 0)), (Sl.val s0)]) Sl.val fun t7 =>
    Q t7)
theorem slices_Clone_s_btree_item_string_api_Record_btree_item_string_api_Record_ok (s0 : Sl) (Q : Sl → K) (w : World) (h : slices_Clone_s_btree_item_string_api_Record_btree_item_string_api_Record s0 Q w) : slices_Clone_s_btree_item_string_api_Record_btree_item_string_api_Record.call s0 Q w := by
  exact g_walk 8 h Tryz.func159
def slices_Clone_s_btree_node_string_api_Record_btree_node_string_api_Record (s0 : Sl) (Q : Sl → K) : K :=
  Ite ((s0).a.isNone)
    (Q (Sl.mk none 0 0))
    (New 175 #[] fun t5 =>
    Do Tryz.prog (Builtin.append_ #[183, 183] 183 #[(Sl.val (Sl.mk (some t5) 0 0)), (Sl.val s0)]) Sl.val fun t7 =>
    Q t7)
theorem slices_Clone_s_btree_node_string_api_Record_btree_node_string_api_Record_ok (s0 : Sl) (Q : Sl → K) (w : World) (h : slices_Clone_s_btree_node_string_api_Record_btree_node_string_api_Record s0 Q w) : slices_Clone_s_btree_node_string_api_Record_btree_node_string_api_Record.call s0 Q w := by
  exact g_walk 8 h Tryz.func160
def slices_Delete_s_btree_node_string_api_Record_btree_node_string_api_Record (s0 : Sl) (i1 : Int) (j2 : Int) (Q : Sl → K) : K :=
  Slc s0 i1 j2 (s0.n : Int) 1 fun t13 =>
  Ite (decide (i1 = j2))
    (Q s0)
    (Dr <|
    Slc s0 0 i1 (s0.c : Int) 1 fun t22 =>
    Slc s0 j2 (s0.n : Int) (s0.c : Int) 1 fun t25 =>
    Do Tryz.prog (Builtin.append_ #[183, 183] 183 #[(Sl.val t22), (Sl.val t25)]) Sl.val fun t26 =>
    Slc t26 (t26.n : Int) (s0.n : Int) (t26.c : Int) 1 fun t31 =>
    Do Tryz.prog (Builtin.clear_ #[183] 0 #[(Sl.val t31)]) id fun _ =>
    Q t26)
theorem slices_Delete_s_btree_node_string_api_Record_btree_node_string_api_Record_ok (s0 : Sl) (i1 : Int) (j2 : Int) (Q : Sl → K) (w : World) (h : slices_Delete_s_btree_node_string_api_Record_btree_node_string_api_Record s0 i1 j2 Q w) : slices_Delete_s_btree_node_string_api_Record_btree_node_string_api_Record.call s0 i1 j2 Q w := by
  have hD5 : DH 5 0 [] (.s [0, 1, 2, 3, 4, 5] (.a [(6, 0, .s [7] .e)])) := by intros; exact ⟨⟩
  exact g_walk 33 h Tryz.func170
def slices_rotateRight_btree_item_string_api_Record (s0 : Sl) (r1 : Int) (Q : K) : K :=
  Ar (IntKind.wrap .i64 ((s0.n : Int) - r1)) fun t8 =>
  slices_rotateLeft_btree_item_string_api_Record.call s0 t8 <|
  Q
theorem slices_rotateRight_btree_item_string_api_Record_ok (s0 : Sl) (r1 : Int) (Q : K) (w : World) (h : slices_rotateRight_btree_item_string_api_Record s0 r1 Q w) : slices_rotateRight_btree_item_string_api_Record.call s0 r1 Q w := by
  exact g_walk 10 h Tryz.func172
def slices_rotateRight_btree_node_string_api_Record (s0 : Sl) (r1 : Int) (Q : K) : K :=
  Ar (IntKind.wrap .i64 ((s0.n : Int) - r1)) fun t8 =>
  slices_rotateLeft_btree_node_string_api_Record.call s0 t8 <|
  Q
theorem slices_rotateRight_btree_node_string_api_Record_ok (s0 : Sl) (r1 : Int) (Q : K) (w : World) (h : slices_rotateRight_btree_node_string_api_Record s0 r1 Q w) : slices_rotateRight_btree_node_string_api_Record.call s0 r1 Q w := by
  exact g_walk 10 h Tryz.func174
def slices_rotateLeft_btree_item_string_api_Record (s0 : Sl) (r1 : Int) (Q : K) : K :=
  Slc s0 0 r1 (s0.c : Int) 5 fun t6 =>
  slices_Reverse_s_btree_item_string_api_Record_btree_item_string_api_Record.call t6 <|
  Slc s0 r1 (s0.n : Int) (s0.c : Int) 5 fun t10 =>
  slices_Reverse_s_btree_item_string_api_Record_btree_item_string_api_Record.call t10 <|
  slices_Reverse_s_btree_item_string_api_Record_btree_item_string_api_Record.call s0 <|
  Q
theorem slices_rotateLeft_btree_item_string_api_Record_ok (s0 : Sl) (r1 : Int) (Q : K) (w : World) (h : slices_rotateLeft_btree_item_string_api_Record s0 r1 Q w) : slices_rotateLeft_btree_item_string_api_Record.call s0 r1 Q w := by
  exact g_walk 14 h Tryz.func177
def slices_rotateLeft_btree_node_string_api_Record (s0 : Sl) (r1 : Int) (Q : K) : K :=
  Slc s0 0 r1 (s0.c : Int) 1 fun t6 =>
  slices_Reverse_s_btree_node_string_api_Record_btree_node_string_api_Record.call t6 <|
  Slc s0 r1 (s0.n : Int) (s0.c : Int) 1 fun t10 =>
  slices_Reverse_s_btree_node_string_api_Record_btree_node_string_api_Record.call t10 <|
  slices_Reverse_s_btree_node_string_api_Record_btree_node_string_api_Record.call s0 <|
  Q
theorem slices_rotateLeft_btree_node_string_api_Record_ok (s0 : Sl) (r1 : Int) (Q : K) (w : World) (h : slices_rotateLeft_btree_node_string_api_Record s0 r1 Q w) : slices_rotateLeft_btree_node_string_api_Record.call s0 r1 Q w := by
  exact g_walk 14 h Tryz.func178
def slices_Reverse_s_btree_item_string_api_Record_btree_item_string_api_Record.b1 (Q : K)  (X1 : Int → Int → K) (s0_1 : Sl) (i2_1 : Int) (j3_1 : Int) : K :=
  Ite (decide (i2_1 < j3_1))
    (Dr <|
    Idx s0_1 j3_1 5 fun t20 =>
    Idx s0_1 i2_1 5 fun t24 =>
    LdN t20 5 fun t21 =>
    LdN t24 5 fun t25 =>
    Idx s0_1 i2_1 5 fun t26 =>
    StN t26 5 t21 <|
    Idx s0_1 j3_1 5 fun t27 =>
    StN t27 5 t25 <|
    Ar (IntKind.wrap .i64 (i2_1 + 1)) fun t11 =>
    Ar (IntKind.wrap .i64 (j3_1 - 1)) fun t13 =>
    X1 t11 t13)
    (Q)
def slices_Reverse_s_btree_item_string_api_Record_btree_item_string_api_Record (s0 : Sl) (Q : K) : K :=
  Ar (IntKind.wrap .i64 ((s0.n : Int) - 1)) fun t6 =>
  LoopK (α := Int × Int) (fun X x => slices_Reverse_s_btree_item_string_api_Record_btree_item_string_api_Record.b1 Q (fun i2_1 j3_1 => X (i2_1, j3_1)) s0 x.1 x.2) (0, t6)
theorem slices_Reverse_s_btree_item_string_api_Record_btree_item_string_api_Record_ok (s0 : Sl) (Q : K) (w : World) (h : slices_Reverse_s_btree_item_string_api_Record_btree_item_string_api_Record s0 Q w) : slices_Reverse_s_btree_item_string_api_Record_btree_item_string_api_Record.call s0 Q w := by
  have hD3 : DH 3 1 [13, 15] (.s [0, 1, 2, 3, 4, 5, 6, 8, 9, 10, 7, 11, 12] (.a [(13, 0, .s [14] (.a [(15, 0, .e)]))])) := by intros; exact ⟨⟩
  have hL1 : ∀ (s0_1 : Sl), LH 1 (fun x : Int × Int => [(0, (Sl.val s0_1)), (2, (.int .i64 x.1)), (3, (.int .i64 x.2))]) (fun X x => slices_Reverse_s_btree_item_string_api_Record_btree_item_string_api_Record.b1 Q (fun i2_1 j3_1 => X (i2_1, j3_1)) s0_1 x.1 x.2) := by intros; exact ⟨⟩
  exact g_walk 28 h Tryz.func179
def slices_Reverse_s_btree_node_string_api_Record_btree_node_string_api_Record.b1 (Q : K)  (X1 : Int → Int → K) (s0_1 : Sl) (i2_1 : Int) (j3_1 : Int) : K :=
  Ite (decide (i2_1 < j3_1))
    (Dr <|
    Idx s0_1 j3_1 1 fun t20 =>
    Idx s0_1 i2_1 1 fun t24 =>
    Ld t20 Value.pointer fun t21 =>
    Ld t24 Value.pointer fun t25 =>
    Idx s0_1 i2_1 1 fun t26 =>
    St t26 (.pointer t21) <|
    Idx s0_1 j3_1 1 fun t27 =>
    St t27 (.pointer t25) <|
    Ar (IntKind.wrap .i64 (i2_1 + 1)) fun t11 =>
    Ar (IntKind.wrap .i64 (j3_1 - 1)) fun t13 =>
    X1 t11 t13)
    (Q)
def slices_Reverse_s_btree_node_string_api_Record_btree_node_string_api_Record (s0 : Sl) (Q : K) : K :=
  Ar (IntKind.wrap .i64 ((s0.n : Int) - 1)) fun t6 =>
  LoopK (α := Int × Int) (fun X x => slices_Reverse_s_btree_node_string_api_Record_btree_node_string_api_Record.b1 Q (fun i2_1 j3_1 => X (i2_1, j3_1)) s0 x.1 x.2) (0, t6)
theorem slices_Reverse_s_btree_node_string_api_Record_btree_node_string_api_Record_ok (s0 : Sl) (Q : K) (w : World) (h : slices_Reverse_s_btree_node_string_api_Record_btree_node_string_api_Record s0 Q w) : slices_Reverse_s_btree_node_string_api_Record_btree_node_string_api_Record.call s0 Q w := by
  have hD3 : DH 3 1 [13, 15] (.s [0, 1, 2, 3, 4, 5, 6, 8, 9, 10, 7, 11, 12] (.a [(13, 0, .s [14] (.a [(15, 0, .e)]))])) := by intros; exact ⟨⟩
  have hL1 : ∀ (s0_1 : Sl), LH 1 (fun x : Int × Int => [(0, (Sl.val s0_1)), (2, (.int .i64 x.1)), (3, (.int .i64 x.2))]) (fun X x => slices_Reverse_s_btree_node_string_api_Record_btree_node_string_api_Record.b1 Q (fun i2_1 j3_1 => X (i2_1, j3_1)) s0_1 x.1 x.2) := by intros; exact ⟨⟩
  exact g_walk 28 h Tryz.func180
end Go.Proofs.YtfjjocopmknhgaaGreat
/- Plain forms of functions, and that their code comes to them (package lib_cmp). -/
namespace Go.Proofs.YtfjjocopmknhgaaGreat
open Go Go.Sep
set_option linter.unusedVariables false
set_option linter.unusedSimpArgs false
set_option maxRecDepth 100000
set_option maxHeartbeats 4000000
attribute [local irreducible] G Gp Cx Tx Ex Sx Dx Ox Ax Lx Rx Fx Bx Bj Al Do Ld LdN St StN New CallF Ar DoU Rd Rd2 Pu Cd Ite Fv CallV CallY Ans0 Ans1 Ans2 Ans3 Ans4 Ans5 Ext Dead Dr WithS Sv LdS LdNS RdS Rd2S Nn Idx IdxA IdxS Fld Bld Slc SlcS Cat All LoopK RangeF RangeJ TakeD
namespace F_IRLibCmp
instance cb_133 : CB Tryz.prog 133 := ⟨by kernel_rfl⟩
instance cb_166 : CB Tryz.prog 166 := ⟨by kernel_rfl⟩
instance mx : MX Tryz.prog := ⟨mixed⟩
end F_IRLibCmp
def cmp_Compare_string (x0 : ByteArray) (y1 : ByteArray) (Q : Int → K) : K :=
  cmp_isNaN_string.call x0 fun t8 =>
  cmp_isNaN_string.call y1 fun t10 =>
  Ite t8
    (Ite t10
      (Q 0)
      (Q (-1)))
    (Ite t10
      (Q 1)
      (Ite (Op.bytesLess x0.toList y1.toList)
        (Q (-1))
        (Ite (!(Op.bytesLess x0.toList y1.toList || x0.toList == y1.toList))
          (Q 1)
          (Q 0))))
theorem cmp_Compare_string_ok (x0 : ByteArray) (y1 : ByteArray) (Q : Int → K) (w : World) (h : cmp_Compare_string x0 y1 Q w) : cmp_Compare_string.call x0 y1 Q w := by
  exact g_walk 20 h Tryz.func123
def cmp_isNaN_string (x0 : ByteArray) (Q : Bool → K) : K :=
  Q (!(x0.toList == x0.toList))
theorem cmp_isNaN_string_ok (x0 : ByteArray) (Q : Bool → K) (w : World) (h : cmp_isNaN_string x0 Q w) : cmp_isNaN_string.call x0 Q w := by
  exact g_walk 6 h Tryz.func133
def cmp_Less_int.s1 (Q : Bool → K)  (t4_1 : Bool) : K :=
  Q t4_1
def cmp_Less_int (x0 : Int) (y1 : Int) (Q : Bool → K) : K :=
  cmp_isNaN_int.call x0 fun t6 =>
  Ite t6
    (cmp_isNaN_int.call y1 fun t9 =>
    Ite (!t9)
      (cmp_Less_int.s1 Q true)
      (cmp_Less_int.s1 Q (decide (x0 < y1))))
    (cmp_Less_int.s1 Q (decide (x0 < y1)))
theorem cmp_Less_int_ok (x0 : Int) (y1 : Int) (Q : Bool → K) (w : World) (h : cmp_Less_int x0 y1 Q w) : cmp_Less_int.call x0 y1 Q w := by
  have hJ1000001 : JH 1000001 fun D => D [] (fun C => ∀ (t4_1 : Bool), C [(4, (.bool t4_1))] (cmp_Less_int.s1 Q t4_1)) := by intros; exact ⟨fun _ h => ⟨_, _, h⟩⟩
  exact g_walk 17 h Tryz.func140
def cmp_Less_string.s1 (Q : Bool → K)  (t4_1 : Bool) : K :=
  Q t4_1
def cmp_Less_string (x0 : ByteArray) (y1 : ByteArray) (Q : Bool → K) : K :=
  cmp_isNaN_string.call x0 fun t6 =>
  Ite t6
    (cmp_isNaN_string.call y1 fun t9 =>
    Ite (!t9)
      (cmp_Less_string.s1 Q true)
      (cmp_Less_string.s1 Q (Op.bytesLess x0.toList y1.toList)))
    (cmp_Less_string.s1 Q (Op.bytesLess x0.toList y1.toList))
theorem cmp_Less_string_ok (x0 : ByteArray) (y1 : ByteArray) (Q : Bool → K) (w : World) (h : cmp_Less_string x0 y1 Q w) : cmp_Less_string.call x0 y1 Q w := by
  have hJ1000001 : JH 1000001 fun D => D [] (fun C => ∀ (t4_1 : Bool), C [(4, (.bool t4_1))] (cmp_Less_string.s1 Q t4_1)) := by intros; exact ⟨fun _ h => ⟨_, _, h⟩⟩
  exact g_walk 17 h Tryz.func151
def cmp_isNaN_int (x0 : Int) (Q : Bool → K) : K :=
  Q (decide (x0 ≠ x0))
theorem cmp_isNaN_int_ok (x0 : Int) (Q : Bool → K) (w : World) (h : cmp_isNaN_int x0 Q w) : cmp_isNaN_int.call x0 Q w := by
  exact g_walk 6 h Tryz.func166
end Go.Proofs.YtfjjocopmknhgaaGreat
/- The B-tree of records by strings is one of Bt's. -/
namespace Go.Proofs.YtfjjocopmknhgaaGreat
open Go Go.Sep Go.Sep.Bt
set_option linter.unusedSimpArgs false
set_option linter.unusedVariables false
set_option maxRecDepth 100000

noncomputable def btS : BtT ByteArray where
  P := Tryz.prog
  tI := ty_btree_item_string_api_Record
  tSI := ty_s_btree_item_string_api_Record
  tV := ty_api_Record
  tK := ty_p_btree_node_string_api_Record
  tSK := ty_s_p_btree_node_string_api_Record
  tN := ty_btree_node_string_api_Record
  tT := ty_btree_Tree_string_api_Record
  nv := 4
  kz := .string ⟨#[]⟩
  vz := [.bool false, Sl.val ⟨none, 0, 0⟩, .int .i64 0, .int .u64 0]
  kV := Value.string
  cv := .func (.func 122) #[] #[]
  bsC := slices_BinarySearchFunc_s_btree_item_string_api_Record_btree_item_string_api_Record_string.call
  nsearchC := btree_node_string_api_Record_search.call
  nputC := btree_node_string_api_Record_put.call
  insIC := slices_Insert_s_btree_item_string_api_Record_btree_item_string_api_Record.call
  insKC := slices_Insert_s_btree_node_string_api_Record_btree_node_string_api_Record.call
  cloneIC := slices_Clone_s_btree_item_string_api_Record_btree_item_string_api_Record.call
  cloneKC := slices_Clone_s_btree_node_string_api_Record_btree_node_string_api_Record.call

/-- How strings are compared. -/
def cmpS (a b : ByteArray) : Int := if a.toList < b.toList then -1 else if a.toList = b.toList then 0 else 1
theorem toList_inj {a b : ByteArray} (h : a.toList = b.toList) : a = b := by
  obtain ⟨x, rfl⟩ := bs_of a
  obtain ⟨y, rfl⟩ := bs_of b
  rw [bs_list, bs_list] at h
  rw [h]
theorem cmpS_neg {a b : ByteArray} : cmpS a b < 0 ↔ a.toList < b.toList := by
  unfold cmpS
  split
  · simp [*]
  · split <;> simp [*]
theorem cmpS_zero {a b : ByteArray} : cmpS a b = 0 ↔ a = b := by
  unfold cmpS
  split
  · rename_i h
    simp only [show ¬ ((-1 : Int) = 0) by omega, false_iff]
    rintro rfl; exact List.lt_irrefl _ h
  · split
    · rename_i h; simp [toList_inj h]
    · rename_i h
      simp only [show ¬ ((1 : Int) = 0) by omega, false_iff]
      rintro rfl; exact h rfl
theorem list_tri {x y : List UInt8} (h1 : ¬ x < y) (h2 : ¬ x = y) : y < x := by
  have h4 : y ≤ x := by rw [← List.not_lt]; exact h1
  rcases List.le_iff_lt_or_eq.1 h4 with h5 | h5
  · exact h5
  · exact absurd h5.symm h2
theorem cmpS_pos {a b : ByteArray} : 0 < cmpS a b ↔ b.toList < a.toList := by
  unfold cmpS
  split
  · rename_i h
    simp only [show ¬ (0 < (-1 : Int)) by omega, false_iff]
    exact fun h2 => List.lt_irrefl _ (List.lt_trans h h2)
  · split
    · rename_i h
      simp only [show ¬ (0 < (0 : Int)) by omega, false_iff]
      rw [h]; exact List.lt_irrefl _
    · rename_i h1 h2
      simp only [show 0 < (1 : Int) by omega, true_iff]
      exact list_tri h1 h2
theorem isNaN_spec {B : World} {Γ : List HProp} {x : ByteArray} {q : Bool → K} (h : HG B Γ (q false)) : HG B Γ (cmp_isNaN_string.call x q) := fun w hw => cmp_isNaN_string_ok _ _ _ (by unfold cmp_isNaN_string; simpa using h w hw)
theorem Compare_spec {B : World} {Γ : List HProp} {x y : ByteArray} {q : Int → K} (h : HG B Γ (q (cmpS x y))) : HG B Γ (cmp_Compare_string.call x y q) := fun w hw => by
  refine cmp_Compare_string_ok _ _ _ _ ?_
  refine hg hw ?_
  unfold cmp_Compare_string
  refine isNaN_spec (isNaN_spec ?_)
  refine s_f ?_ rfl
  refine s_f ?_ rfl
  rw [gt_dec, bytesLess_dec]
  refine s_ite (fun h1 => ?_) fun h1 => ?_
  · have e : cmpS x y = -1 := by unfold cmpS; rw [if_pos (by simpa using h1)]
    rw [e] at h; exact h
  refine s_ite (fun h2 => ?_) fun h2 => ?_
  · have h3 : y.toList < x.toList := by simpa using h2
    have e : cmpS x y = 1 := by
      unfold cmpS
      rw [if_neg (by simpa using h1), if_neg fun h4 => by rw [h4] at h3; exact List.lt_irrefl _ h3]
    rw [e] at h; exact h
  · have h3 : ¬ y.toList < x.toList := by simpa using h2
    have e : cmpS x y = 0 := by
      unfold cmpS
      rw [if_neg (by simpa using h1), if_pos (Classical.byContradiction fun h4 => h3 (list_tri (by simpa using h1) h4))]
    rw [e] at h; exact h
theorem btS_ok : BtOk btS cmpS where
  kf := fun _ => rfl
  kzf := rfl
  vz := ⟨rfl, rfl⟩
  TI := by kernel_rfl
  ZI := by kernel_rfl
  TK := by kernel_rfl
  ZK := by kernel_rfl
  tr := fun h1 h2 => cmpS_neg.2 (List.lt_trans (cmpS_neg.1 h1) (cmpS_neg.1 h2))
  eq := cmpS_zero
  sw := by intro a b; rw [cmpS_neg, cmpS_pos]
  cmp := fun a b vs q hl h => by
    refine s_callv ?_
    refine fun w hw => btree_node_string_api_Record_search_1_ok _ _ _ _ ?_
    refine hg hw ?_
    clear hw w
    unfold btree_node_string_api_Record_search_1
    refine s_new fun t => ?_
    refine s_ld (b := t) (x := a) ?_
    refine Compare_spec ?_
    exact s_end h
  bs := fun s k Q w h => slices_BinarySearchFunc_s_btree_item_string_api_Record_btree_item_string_api_Record_string_ok _ _ _ _ _ h
  search := fun n k Q w h => btree_node_string_api_Record_search_ok _ _ _ _ h
  put := fun n x Q w h => btree_node_string_api_Record_put_ok _ _ _ _ h
  insI := ⟨_, _, fun s i v Q w h => slices_Insert_s_btree_item_string_api_Record_btree_item_string_api_Record_ok _ _ _ _ _ h⟩
  insK := ⟨_, _, fun s i v Q w h => slices_Insert_s_btree_node_string_api_Record_btree_node_string_api_Record_ok _ _ _ _ _ h⟩
  cloneI := fun s Q w h => slices_Clone_s_btree_item_string_api_Record_btree_item_string_api_Record_ok _ _ _ h
  cloneK := fun s Q w h => slices_Clone_s_btree_node_string_api_Record_btree_node_string_api_Record_ok _ _ _ h

section
variable {B : World} {Γ : List HProp}
theorem btNew_spec {Q : Option Addr → K} (h : ∀ t, HG B (TreeR btS cmpS t [] :: Γ) (Q (some ⟨t, 0, none⟩))) : HG B Γ (btree_New_string_api_Record.call Q) := fun w hw =>
  btree_New_string_api_Record_ok _ _ (show tnew btS Q w from hg hw (tnew_spec h))
theorem btGet_spec {t : Nat} {L : List btS.It} {k : ByteArray} {Q : Array Value → Bool → K} (hfound : ∀ A v C, L = A ++ (k, v) :: C → HG B (TreeR btS cmpS t L :: Γ) (Q v.1.toArray true)) (hnot : (∀ A C, L = A ++ C → (∀ x ∈ A, cmpS x.1 k < 0) → (∀ x ∈ C, cmpS k x.1 < 0) → HG B (TreeR btS cmpS t L :: Γ) (Q btS.vz.toArray false))) :
    HG B (TreeR btS cmpS t L :: Γ) (btree_Tree_string_api_Record_Get.call (some ⟨t, 0, none⟩) k Q) := fun w hw =>
  btree_Tree_string_api_Record_Get_ok _ _ _ _ (show tget btS (some ⟨t, 0, none⟩) k Q w from hg hw (tget_spec btS_ok hfound hnot))
theorem btPut_spec {t : Nat} {L : List btS.It} {k : ByteArray} {v : Cel btS.nv} {Q : Array Value → Bool → K} (hL : L.length < 1000000000) (h : ∀ L' old had, PutR cmpS (btS.z0 btS_ok.vz) L k v L' old had → HG B (TreeR btS cmpS t L' :: Γ) (Q old.1.toArray had)) :
    HG B (TreeR btS cmpS t L :: Γ) (btree_Tree_string_api_Record_Put.call (some ⟨t, 0, none⟩) k v.1.toArray Q) := fun w hw =>
  btree_Tree_string_api_Record_Put_ok _ _ _ _ _ (show tput btS (some ⟨t, 0, none⟩) k v.1.toArray Q w from hg hw (tput_spec btS_ok hL h))
end
end Go.Proofs.YtfjjocopmknhgaaGreat
/- Plain forms of functions, and that their code comes to them (package lib_bytes). -/
namespace Go.Proofs.YtfjjocopmknhgaaGreat
open Go Go.Sep
set_option linter.unusedVariables false
set_option linter.unusedSimpArgs false
set_option maxRecDepth 100000
set_option maxHeartbeats 4000000
attribute [local irreducible] G Gp Cx Tx Ex Sx Dx Ox Ax Lx Rx Fx Bx Bj Al Do Ld LdN St StN New CallF Ar DoU Rd Rd2 Pu Cd Ite Fv CallV CallY Ans0 Ans1 Ans2 Ans3 Ans4 Ans5 Ext Dead Dr WithS Sv LdS LdNS RdS Rd2S Nn Idx IdxA IdxS Fld Bld Slc SlcS Cat All LoopK RangeF RangeJ TakeD
namespace F_IRLibBytes
instance mx : MX Tryz.prog := ⟨mixed⟩
instance sl_45 : SLT Tryz.prog 45 5 1 := ⟨by kernel_rfl⟩
instance un_45 : UN Tryz.prog 45 (.slice 5) := ⟨Tryz.underlying45⟩
instance zt_5 : ZT Tryz.prog 5 (.int .u8 0) := ⟨Tryz.t5, by kernel_rfl, by kernel_rfl⟩
end F_IRLibBytes
def bytes_Clone (b0 : Sl) (Q : Sl → K) : K :=
  Ite ((b0).a.isNone)
    (Q (Sl.mk none 0 0))
    (New 5 #[] fun t5 =>
    Do Tryz.prog (Builtin.append_ #[45, 45] 45 #[(Sl.val (Sl.mk (some t5) 0 0)), (Sl.val b0)]) Sl.val fun t7 =>
    Q t7)
theorem bytes_Clone_ok (b0 : Sl) (Q : Sl → K) (w : World) (h : bytes_Clone b0 Q w) : bytes_Clone.call b0 Q w := by
  exact g_walk 8 h Tryz.func54
def bytes_Equal (a0 : Sl) (b1 : Sl) (Q : Bool → K) : K :=
  Rd Tryz.prog (convert 45 9 (Sl.val a0)) Value.string fun t6 =>
  Rd Tryz.prog (convert 45 9 (Sl.val b1)) Value.string fun t8 =>
  Q (t6.toList == t8.toList)
theorem bytes_Equal_ok (a0 : Sl) (b1 : Sl) (Q : Bool → K) (w : World) (h : bytes_Equal a0 b1 Q w) : bytes_Equal.call a0 b1 Q w := by
  exact g_walk 10 h Tryz.func96
end Go.Proofs.YtfjjocopmknhgaaGreat
/- bytes.Clone gives the same bytes in memory of one's own. -/
namespace Go.Proofs.YtfjjocopmknhgaaGreat
open Go Go.Sep
set_option linter.unusedSimpArgs false
set_option linter.unusedVariables false
section
variable {B w : World} {Γ : List HProp}
theorem bytes_Clone_spec {b : Sl} {xs : List UInt8} {k : Sl → K} (h : Holds B Γ w) (hr : ∀ w, Holds B Γ w → RdB w b xs) (hl : xs.length ≤ 1000000000)
    (hk : ∀ s w, Holds B (Bytes ty_uint8 s xs :: Γ) w → s.a.isNone = b.a.isNone → k s w) : bytes_Clone.call b k w := by
  refine bytes_Clone_ok _ _ _ ?_
  unfold bytes_Clone
  refine r_ite (fun hb => ?_) (fun hb => ?_)
  · have hx : xs = [] := by
      have h1 := (hr w h).nil (by simpa using hb)
      have h2 := (hr w h).len
      rw [h1] at h2; simpa using h2
    subst hx
    exact hk _ _ (h.nilSl _ _) (by rw [hb]; rfl)
  · refine r_new h ?_
    clear h
    intro t w h
    try simp only [add_mk, Nat.zero_add, Nat.reduceAdd]
    have hn : b.n = xs.length := by have h2 := (hr w h.tail).len; simpa using h2.symm
    refine r_append (vs := []) (h.imp (blk_SlC rfl rfl)) (by kernel_rfl) (by kernel_rfl) (by' := 1) (by kernel_rfl) zero_ty_uint8 rfl (hr w h.tail) (byteV_flat _) (by simp only [hn]; omega) (by decide) fun s w h hs ha => ?_
    refine hk s w h ?_
    rw [hb]
    have := ha rfl
    cases hh : s.a <;> simp [hh] at this ⊢
end
end Go.Proofs.YtfjjocopmknhgaaGreat
/- Plain forms of functions, and that their code comes to them (package store). -/
namespace Go.Proofs.YtfjjocopmknhgaaGreat
open Go Go.Sep
set_option linter.unusedVariables false
set_option linter.unusedSimpArgs false
set_option maxRecDepth 100000
set_option maxHeartbeats 4000000
attribute [local irreducible] G Gp Cx Tx Ex Sx Dx Ox Ax Lx Rx Fx Bx Bj Al Do Ld LdN St StN New CallF Ar DoU Rd Rd2 Pu Cd Ite Fv CallV CallY Ans0 Ans1 Ans2 Ans3 Ans4 Ans5 Ext Dead Dr WithS Sv LdS LdNS RdS Rd2S Nn Idx IdxA IdxS Fld Bld Slc SlcS Cat All LoopK RangeF RangeJ TakeD
namespace F_IRStore
instance at_47 : AT Tryz.prog 47 4 := ⟨by kernel_rfl⟩
instance cb_117 : CB Tryz.prog 117 := ⟨by kernel_rfl⟩
instance cb_118 : CB Tryz.prog 118 := ⟨by kernel_rfl⟩
instance cb_14 : CB Tryz.prog 14 := ⟨by kernel_rfl⟩
instance cb_52 : CB Tryz.prog 52 := ⟨by kernel_rfl⟩
instance cb_53 : CB Tryz.prog 53 := ⟨by kernel_rfl⟩
instance cb_54 : CB Tryz.prog 54 := ⟨by kernel_rfl⟩
instance cb_63 : CB Tryz.prog 63 := ⟨by kernel_rfl⟩
instance cb_72 : CB Tryz.prog 72 := ⟨by kernel_rfl⟩
instance cb_87 : CB Tryz.prog 87 := ⟨by kernel_rfl⟩
instance ct_117 : CT Tryz.prog 117 := ⟨by kernel_rfl⟩
instance ct_3 : CT Tryz.prog 3 := ⟨by kernel_rfl⟩
instance ct_35 : CT Tryz.prog 35 := ⟨by kernel_rfl⟩
instance ct_4 : CT Tryz.prog 4 := ⟨by kernel_rfl⟩
instance ct_45 : CT Tryz.prog 45 := ⟨by kernel_rfl⟩
instance ct_60 : CT Tryz.prog 60 := ⟨by kernel_rfl⟩
instance ft_119_0 : FT Tryz.prog 119 0 0 1 := ⟨by kernel_rfl⟩
instance ft_119_1 : FT Tryz.prog 119 1 1 1 := ⟨by kernel_rfl⟩
instance ft_47_0 : FT Tryz.prog 47 0 0 1 := ⟨by kernel_rfl⟩
instance ft_47_1 : FT Tryz.prog 47 1 1 1 := ⟨by kernel_rfl⟩
instance ft_47_2 : FT Tryz.prog 47 2 2 1 := ⟨by kernel_rfl⟩
instance ft_47_3 : FT Tryz.prog 47 3 3 1 := ⟨by kernel_rfl⟩
instance in_3 : INT Tryz.prog 3 .i64 := ⟨by kernel_rfl⟩
instance in_5 : INT Tryz.prog 5 .u8 := ⟨by kernel_rfl⟩
instance mx : MX Tryz.prog := ⟨mixed⟩
instance pl_119 : PLT Tryz.prog 119 [(0, 1), (1, 1)] := ⟨_, Tryz.underlying119, by kernel_rfl⟩
instance pl_75 : PLT Tryz.prog 75 [(0, 1), (1, 4)] := ⟨_, Tryz.underlying75, by kernel_rfl⟩
instance sl_60 : SLT Tryz.prog 60 75 5 := ⟨by kernel_rfl⟩
instance st_9 : STT Tryz.prog 9 := ⟨by kernel_rfl⟩
instance sz_3 : SZ Tryz.prog 3 1 := ⟨by kernel_rfl⟩
instance sz_35 : SZ Tryz.prog 35 1 := ⟨by kernel_rfl⟩
instance sz_4 : SZ Tryz.prog 4 1 := ⟨by kernel_rfl⟩
instance sz_45 : SZ Tryz.prog 45 1 := ⟨by kernel_rfl⟩
instance sz_47 : SZ Tryz.prog 47 4 := ⟨by kernel_rfl⟩
instance sz_60 : SZ Tryz.prog 60 1 := ⟨by kernel_rfl⟩
instance zt_119 : ZT Tryz.prog 119 (.agg #[(.int .i64 0), (.pointer none)]) := ⟨Tryz.t119, by kernel_rfl, by kernel_rfl⟩
instance zt_47 : ZT Tryz.prog 47 (.agg #[(.bool false), (Sl.val ⟨none, 0, 0⟩), (.int .i64 0), (.int .u64 0)]) := ⟨Tryz.t47, by kernel_rfl, by kernel_rfl⟩
instance zt_60 : ZT Tryz.prog 60 (Sl.val ⟨none, 0, 0⟩) := ⟨Tryz.t60, by kernel_rfl, by kernel_rfl⟩
instance zt_75 : ZT Tryz.prog 75 (.agg #[(.string ⟨#[]⟩), (.bool false), (Sl.val ⟨none, 0, 0⟩), (.int .i64 0), (.int .u64 0)]) := ⟨Tryz.t75, by kernel_rfl, by kernel_rfl⟩
end F_IRStore
def store_Store_Get.s1 (Q : (Array Value) → K)  (t4_1 : Addr) (r5_1 : Addr) : K :=
  Ld (r5_1.add 1) Sl.val fun t26 =>
  bytes_Clone.call t26 fun t27 =>
  St (r5_1.add 1) (Sl.val t27) <|
  LdN r5_1 4 fun t29 =>
  StN t4_1 4 t29 <|
  LdN t4_1 4 fun r0 =>
  Q r0
def store_Store_Get (s0 : (Option Addr)) (key1 : ByteArray) (Q : (Array Value) → K) : K :=
  New 47 #[(.bool false), (Sl.val ⟨none, 0, 0⟩), (.int .i64 0), (.int .u64 0)] fun t4 =>
  Nn s0 fun t9 =>
  Ld (t9.add 1) Value.pointer fun t11 =>
  btree_Tree_string_api_Record_Get.call t11 key1 fun t13x0 t13x1 =>
  New 47 #[(.bool false), (Sl.val ⟨none, 0, 0⟩), (.int .i64 0), (.int .u64 0)] fun r5 =>
  StN r5 4 t13x0 <|
  Ite (!t13x1)
    (Ld t9 (Value.int .i64) fun t22 =>
    store_Default.call key1 t22 fun t23 =>
    St (r5.add 2) (.int .i64 t23) <|
    store_Store_Get.s1 Q t4 r5)
    (store_Store_Get.s1 Q t4 r5)
theorem store_Store_Get_ok (s0 : (Option Addr)) (key1 : ByteArray) (Q : (Array Value) → K) (w : World) (h : store_Store_Get s0 key1 Q w) : store_Store_Get.call s0 key1 Q w := by
  have hJ4 : JH 4 fun D => ∃ (t4_1 : Addr) (r5_1 : Addr), D [(4, (.pointer (some t4_1))), (5, (.pointer (some r5_1)))] (fun C => C [(4, (.pointer (some t4_1))), (5, (.pointer (some r5_1)))] (store_Store_Get.s1 Q t4_1 r5_1)) := by intros; exact ⟨fun _ ⟨_, _, h⟩ => ⟨_, _, h⟩⟩
  exact g_walk 30 h Tryz.func14
def store_Store_Rows (s0 : (Option Addr)) (Q : Sl → K) : K :=
  New 60 #[(Sl.val ⟨none, 0, 0⟩)] fun out2 =>
  Nn s0 fun t6 =>
  Ld (t6.add 1) Value.pointer fun t8 =>
  btree_Tree_string_api_Record_All.call t8 fun t9 =>
  RangeJ Tryz.prog t9 .ret (fun x : ByteArray × (Array Value) => [(.string x.1), (.agg x.2)]) (fun BG1 KN1 KJ1 x =>
    New 47 #[(.bool false), (Sl.val ⟨none, 0, 0⟩), (.int .i64 0), (.int .u64 0)] fun r4 =>
    StN r4 4 x.2 <|
    BG1 <|
    Ld (r4.add 1) Sl.val fun t13 =>
    bytes_Clone.call t13 fun t14 =>
    St (r4.add 1) (Sl.val t14) <|
    Ld out2 Sl.val fun t16 =>
    LdN r4 4 fun t18 =>
    Bld #[(.string ⟨#[]⟩), (.bool false), (Sl.val ⟨none, 0, 0⟩), (.int .i64 0), (.int .u64 0)] ([(0, 1), (1, 4)][·]?) [(0, (.string x.1)), (1, (.agg t18))] fun t19 =>
    Bld #[(.string ⟨#[]⟩), (.bool false), (Sl.val ⟨none, 0, 0⟩), (.int .i64 0), (.int .u64 0)] (fun i => some (i * 5, 5)) [(0, (.agg t19))] fun ct20 =>
    New 75 ct20 fun t20 =>
    Do Tryz.prog (Builtin.append_ #[60, 60] 60 #[(Sl.val t16), (Sl.val (Sl.mk (some t20) 1 1))]) Sl.val fun t21 =>
    St out2 (Sl.val t21) <|
    KN1)
    (fun D1 =>
      Ld out2 Sl.val fun t22 =>
      St out2 (Sl.val t22) <|
      TakeD D1 <|
      Ld out2 Sl.val fun r0 =>
      Q r0)
    (fun D1 =>
      Dead)
theorem store_Store_Rows_ok (s0 : (Option Addr)) (Q : Sl → K) (w : World) (h : store_Store_Rows s0 Q w) : store_Store_Rows.call s0 Q w := by
  exact g_walk 23 h Tryz.func23
def store_New.s1 (Q : (Option Addr) → Int → K)  (regions0_1 : Int) (t9_1 : Bool) : K :=
  Ite t9_1
    (Q none 1)
    (btree_New_string_api_Record.call  fun t11 =>
    New 119 #[(.int .i64 regions0_1), (.pointer t11)] fun t13 =>
    Q (some t13) 0)
def store_New (regions0 : Int) (Q : (Option Addr) → Int → K) : K :=
  Ite (decide (regions0 < 1))
    (store_New.s1 Q regions0 true)
    (store_New.s1 Q regions0 (decide ((3 : Int) < regions0)))
theorem store_New_ok (regions0 : Int) (Q : (Option Addr) → Int → K) (w : World) (h : store_New regions0 Q w) : store_New.call regions0 Q w := by
  have hJ2 : JH 2 fun D => ∃ (regions0_1 : Int), D [(0, (.int .i64 regions0_1))] (fun C => ∀ (t9_1 : Bool), C [(0, (.int .i64 regions0_1)), (9, (.bool t9_1))] (store_New.s1 Q regions0_1 t9_1)) := by intros; exact ⟨fun _ ⟨_, h⟩ => ⟨_, _, h⟩⟩
  exact g_walk 14 h Tryz.func31
def store_Store_Move.s1 (Q : Int → K)  (s0_1 : (Option Addr)) (key1_1 : ByteArray) (home2_1 : Int) (r7_1 : Addr) (t11_1 : Bool) : K :=
  Ite t11_1
    (Q 1)
    (Ld (r7_1.add 3) (Value.int .u64) fun t24 =>
    Ite (decide (t24 = 18446744073709551615))
      (Q 111)
      (St (r7_1.add 2) (.int .i64 home2_1) <|
      Ld (r7_1.add 3) (Value.int .u64) fun t29 =>
      Ar (IntKind.wrap .u64 (t29 + 1)) fun t30 =>
      St (r7_1.add 3) (.int .u64 t30) <|
      LdN r7_1 4 fun t34 =>
      store_Store_set.call s0_1 key1_1 t34 <|
      Q 0))
def store_Store_Move (s0 : (Option Addr)) (key1 : ByteArray) (home2 : Int) (Q : Int → K) : K :=
  store_Store_Get.call s0 key1 fun t10 =>
  New 47 #[(.bool false), (Sl.val ⟨none, 0, 0⟩), (.int .i64 0), (.int .u64 0)] fun r7 =>
  StN r7 4 t10 <|
  Ite (decide (home2 < 0))
    (store_Store_Move.s1 Q s0 key1 home2 r7 true)
    (Nn s0 fun t17 =>
    Ld t17 (Value.int .i64) fun t19 =>
    store_Store_Move.s1 Q (some t17) key1 home2 r7 (decide (t19 ≤ home2)))
theorem store_Store_Move_ok (s0 : (Option Addr)) (key1 : ByteArray) (home2 : Int) (Q : Int → K) (w : World) (h : store_Store_Move s0 key1 home2 Q w) : store_Store_Move.call s0 key1 home2 Q w := by
  have hJ3 : JH 3 fun D => ∃ (s0_1 : (Option Addr)) (key1_1 : ByteArray) (home2_1 : Int) (r7_1 : Addr), D [(0, (.pointer s0_1)), (1, (.string key1_1)), (2, (.int .i64 home2_1)), (7, (.pointer (some r7_1)))] (fun C => ∀ (t11_1 : Bool), C [(0, (.pointer s0_1)), (1, (.string key1_1)), (2, (.int .i64 home2_1)), (7, (.pointer (some r7_1))), (11, (.bool t11_1))] (store_Store_Move.s1 Q s0_1 key1_1 home2_1 r7_1 t11_1)) := by intros; exact ⟨fun _ ⟨_, _, _, _, h⟩ => ⟨_, _, h⟩⟩
  exact g_walk 36 h Tryz.func48
def store_Default.b1 (Q : Int → K)  (X1 : Int → Int → K) (key0_1 : ByteArray) (regions1_1 : Int) (t10_1 : Int) (sum5_1 : Int) (t11_1 : Int) : K :=
  Ite (decide (t11_1 < t10_1))
    (IdxS key0_1 t11_1 fun t17 =>
    Ar (IntKind.wrap .i64 t17) fun t18 =>
    Ar (IntKind.wrap .i64 (sum5_1 + t18)) fun t19 =>
    Cd (regions1_1 ≠ 0) <|
    Ar (Int.tmod t19 regions1_1) fun t21 =>
    Ar (IntKind.wrap .i64 (t11_1 + 1)) fun t22 =>
    X1 t21 t22)
    (Q sum5_1)
def store_Default (key0 : ByteArray) (regions1 : Int) (Q : Int → K) : K :=
  Ite (decide (regions1 < 1))
    (Q 0)
    (LoopK (α := Int × Int) (fun X x => store_Default.b1 Q (fun sum5_1 t11_1 => X (sum5_1, t11_1)) key0 regions1 (key0.size : Int) x.1 x.2) (0, 0))
theorem store_Default_ok (key0 : ByteArray) (regions1 : Int) (Q : Int → K) (w : World) (h : store_Default key0 regions1 Q w) : store_Default.call key0 regions1 Q w := by
  have hL5 : ∀ (key0_1 : ByteArray) (regions1_1 : Int) (t10_1 : Int), LH 5 (fun x : Int × Int => [(0, (.string key0_1)), (1, (.int .i64 regions1_1)), (5, (.int .i64 x.1)), (10, (.int .i64 t10_1)), (11, (.int .i64 x.2))]) (fun X x => store_Default.b1 Q (fun sum5_1 t11_1 => X (sum5_1, t11_1)) key0_1 regions1_1 t10_1 x.1 x.2) := by intros; exact ⟨⟩
  exact g_walk 24 h Tryz.func53
def store_Store_Put (s0 : (Option Addr)) (key1 : ByteArray) (value2 : Sl) (Q : K) : K :=
  store_Store_Get.call s0 key1 fun t9 =>
  New 47 #[(.bool false), (Sl.val ⟨none, 0, 0⟩), (.int .i64 0), (.int .u64 0)] fun r6 =>
  StN r6 4 t9 <|
  bytes_Clone.call value2 fun t11 =>
  St r6 (.bool true) <|
  St (r6.add 1) (Sl.val t11) <|
  LdN r6 4 fun t16 =>
  store_Store_set.call s0 key1 t16 <|
  Q
theorem store_Store_Put_ok (s0 : (Option Addr)) (key1 : ByteArray) (value2 : Sl) (Q : K) (w : World) (h : store_Store_Put s0 key1 value2 Q w) : store_Store_Put.call s0 key1 value2 Q w := by
  exact g_walk 18 h Tryz.func56
def store_Store_Delete (s0 : (Option Addr)) (key1 : ByteArray) (Q : K) : K :=
  store_Store_Get.call s0 key1 fun t7 =>
  New 47 #[(.bool false), (Sl.val ⟨none, 0, 0⟩), (.int .i64 0), (.int .u64 0)] fun r4 =>
  StN r4 4 t7 <|
  St r4 (.bool false) <|
  St (r4.add 1) (Sl.val (Sl.mk none 0 0)) <|
  LdN r4 4 fun t12 =>
  store_Store_set.call s0 key1 t12 <|
  Q
theorem store_Store_Delete_ok (s0 : (Option Addr)) (key1 : ByteArray) (Q : K) (w : World) (h : store_Store_Delete s0 key1 Q w) : store_Store_Delete.call s0 key1 Q w := by
  exact g_walk 14 h Tryz.func68
def store_Store_set.s1 (Q : K)  (s0_1 : (Option Addr)) (key1_1 : ByteArray) (r5_1 : Addr) (t13_1 : Bool) : K :=
  Ite t13_1
    (Nn s0_1 fun t15 =>
    Ld (t15.add 1) Value.pointer fun t17 =>
    btree_Tree_string_api_Record_Delete.call t17 key1_1 fun t19x0 t19x1 =>
    Q)
    (Dr <|
    Nn s0_1 fun t21 =>
    Ld (t21.add 1) Value.pointer fun t23 =>
    LdN r5_1 4 fun t25 =>
    btree_Tree_string_api_Record_Put.call t23 key1_1 t25 fun t26x0 t26x1 =>
    Q)
def store_Store_set (s0 : (Option Addr)) (key1 : ByteArray) (r2 : (Array Value)) (Q : K) : K :=
  New 47 r2 fun r5 =>
  Ld r5 Value.bool fun t7 =>
  Ite (!t7)
    (Ld (r5.add 3) (Value.int .u64) fun t11 =>
    store_Store_set.s1 Q s0 key1 r5 (decide (t11 = 0)))
    (store_Store_set.s1 Q s0 key1 r5 false)
theorem store_Store_set_ok (s0 : (Option Addr)) (key1 : ByteArray) (r2 : (Array Value)) (Q : K) (w : World) (h : store_Store_set s0 key1 r2 Q w) : store_Store_set.call s0 key1 r2 Q w := by
  have hD3 : DH 3 1 [6] (.s [0, 1, 2, 4, 3, 5] (.a [(6, 0, .e)])) := by intros; exact ⟨⟩
  have hJ2 : JH 2 fun D => ∃ (s0_1 : (Option Addr)) (key1_1 : ByteArray) (r5_1 : Addr), D [(0, (.pointer s0_1)), (1, (.string key1_1)), (5, (.pointer (some r5_1)))] (fun C => ∀ (t13_1 : Bool), C [(0, (.pointer s0_1)), (1, (.string key1_1)), (5, (.pointer (some r5_1))), (13, (.bool t13_1))] (store_Store_set.s1 Q s0_1 key1_1 r5_1 t13_1)) := by intros; exact ⟨fun _ ⟨_, _, _, h⟩ => ⟨_, _, h⟩⟩
  exact g_walk 27 h Tryz.func87
end Go.Proofs.YtfjjocopmknhgaaGreat
/- The store: its records, and what its functions do to them. -/
namespace Go.Proofs.YtfjjocopmknhgaaGreat
open Go Go.Sep Go.Sep.Bt
set_option linter.unusedSimpArgs false
set_option linter.unusedVariables false
set_option maxRecDepth 100000

structure Rec where
  has : Bool
  val : List UInt8
  home : Int
  cnt : Int
def Rec.ok (r : Rec) : Prop := 0 ≤ r.cnt ∧ r.cnt ≤ 18446744073709551615 ∧ r.val.length ≤ 1000000000
abbrev recL (r : Rec) (s : Sl) : List Value := [.bool r.has, s.val, .int .i64 r.home, .int .u64 r.cnt]
abbrev recA (r : Rec) (s : Sl) : Array Value := #[.bool r.has, s.val, .int .i64 r.home, .int .u64 r.cnt]
abbrev recC (x : Rec × Sl) : Cel 4 := ⟨recL x.1 x.2, rfl, rfl⟩
abbrev Recs := List (ByteArray × Rec)
abbrev RecX := ByteArray × (Rec × Sl)
abbrev recB (x : RecX) : HProp := Bytes ty_uint8 x.2.2 x.2.1.val
abbrev recI (x : RecX) : btS.It := (x.1, recC x.2)
abbrev recM (x : RecX) : ByteArray × Rec := (x.1, x.2.1)
/-- The first home of a key. -/
def homeOf (k : List UInt8) (n : Nat) : Nat := k.foldl (fun s b => (s + b.toNat) % n) 0
def getM (M : Recs) (k : ByteArray) : Option Rec := (M.find? fun x => decide (x.1 = k)).map Prod.snd
def putM (M : Recs) (k : ByteArray) (r : Rec) : Recs := match M with
  | [] => [(k, r)]
  | x :: M => if cmpS x.1 k < 0 then x :: putM M k r else if x.1 = k then (k, r) :: M else (k, r) :: x :: M
def sGet (n : Nat) (M : Recs) (k : ByteArray) : Rec := (getM M k).getD ⟨false, [], homeOf k.toList n, 0⟩
def sMove (n : Nat) (M : Recs) (k : ByteArray) (h : Int) : Recs × Int :=
  if h < 0 ∨ (n : Int) ≤ h then (M, 1) else if (sGet n M k).cnt = 18446744073709551615 then (M, 111) else (putM M k { sGet n M k with home := h, cnt := (sGet n M k).cnt + 1 }, 0)
theorem getM_put (M : Recs) (k k' : ByteArray) (r : Rec) : getM (putM M k r) k' = if k' = k then some r else getM M k' := by
  induction M with
  | nil => by_cases h : k' = k <;> simp [putM, getM, h, eq_comm]
  | cons x M ih =>
    unfold putM
    split
    · rename_i h
      have hx : x.1 ≠ k := fun e => by rw [e] at h; have := cmpS_neg.1 h; exact List.lt_irrefl _ this
      by_cases h2 : k' = k
      · subst h2
        have := ih
        simp only [getM, List.find?_cons, if_true] at this ⊢
        rw [show decide (x.1 = k') = false by simpa using hx]
        simpa using this
      · simp only [if_neg h2] at ih ⊢
        by_cases h3 : x.1 = k'
        · simp [getM, List.find?_cons, h3]
        · simp only [getM, List.find?_cons, show decide (x.1 = k') = false by simpa using h3]
          simpa [getM] using ih
    · split
      · rename_i h h1
        by_cases h2 : k' = k
        · subst h2; simp [getM]
        · simp [getM, List.find?_cons, h2, Ne.symm h2, h1]
      · rename_i h h1
        by_cases h2 : k' = k
        · subst h2; simp [getM]
        · simp [getM, List.find?_cons, h2, Ne.symm h2]
theorem putM_len (M : Recs) (k : ByteArray) (r : Rec) : (putM M k r).length ≤ M.length + 1 := by
  induction M with
  | nil => simp [putM]
  | cons x M ih =>
    unfold putM
    split
    · simp; omega
    · split <;> simp
theorem putM_mem {M : Recs} {k : ByteArray} {r : Rec} {x : ByteArray × Rec} (h : x ∈ putM M k r) : x = (k, r) ∨ x ∈ M := by
  induction M with
  | nil => simpa [putM] using h
  | cons y M ih =>
    unfold putM at h
    split at h
    · rcases List.mem_cons.1 h with rfl | h
      · exact .inr List.mem_cons_self
      · rcases ih h with h | h
        · exact .inl h
        · exact .inr (List.mem_cons_of_mem _ h)
    · split at h
      · rcases List.mem_cons.1 h with rfl | h
        · exact .inl rfl
        · exact .inr (List.mem_cons_of_mem _ h)
      · rcases List.mem_cons.1 h with rfl | h
        · exact .inl rfl
        · exact .inr h
theorem sGet_put (n : Nat) (M : Recs) (k k' : ByteArray) (r : Rec) : sGet n (putM M k r) k' = if k' = k then r else sGet n M k' := by
  unfold sGet
  rw [getM_put]
  split <;> simp
theorem getM_mem {M : Recs} {k : ByteArray} {r : Rec} (h : getM M k = some r) : (k, r) ∈ M := by
  simp only [getM, Option.map_eq_some_iff] at h
  obtain ⟨x, hx, rfl⟩ := h
  have h1 := List.mem_of_find?_eq_some hx
  have h2 := List.find?_some hx
  simp only [decide_eq_true_eq] at h2
  rw [← h2]; exact h1
theorem getM_mid {A C : Recs} {k : ByteArray} {r : Rec} (hA : ∀ x ∈ A, x.1 ≠ k) : getM (A ++ (k, r) :: C) k = some r := by
  unfold getM
  rw [List.find?_append, List.find?_eq_none.2 (fun x hx => by simpa using hA x hx)]
  simp
theorem getM_none {M : Recs} {k : ByteArray} (h : ∀ x ∈ M, x.1 ≠ k) : getM M k = none := by
  unfold getM
  rw [List.find?_eq_none.2 (fun x hx => by simpa using h x hx)]; rfl
theorem putM_mid {A C : Recs} {k : ByteArray} {r0 r : Rec} (hA : ∀ x ∈ A, cmpS x.1 k < 0) : putM (A ++ (k, r0) :: C) k r = A ++ (k, r) :: C := by
  induction A with
  | nil =>
    have : ¬ cmpS k k < 0 := fun h => List.lt_irrefl _ (cmpS_neg.1 h)
    simp [putM, this]
  | cons x A ih =>
    rw [List.cons_append, putM, if_pos (hA x List.mem_cons_self), ih (fun y hy => hA y (List.mem_cons_of_mem _ hy))]; rfl
theorem putM_new {A C : Recs} {k : ByteArray} {r : Rec} (hA : ∀ x ∈ A, cmpS x.1 k < 0) (hC : ∀ x ∈ C, cmpS k x.1 < 0) : putM (A ++ C) k r = A ++ (k, r) :: C := by
  induction A with
  | nil =>
    cases C with
    | nil => rfl
    | cons y C =>
      have h := cmpS_neg.1 (hC y List.mem_cons_self)
      have h1 : ¬ cmpS y.1 k < 0 := fun h2 => List.lt_irrefl _ (List.lt_trans h (cmpS_neg.1 h2))
      have h2 : ¬ y.1 = k := fun e => by rw [e] at h; exact List.lt_irrefl _ h
      simp [putM, h1, h2]
  | cons x A ih =>
    rw [List.cons_append, putM, if_pos (hA x List.mem_cons_self), ih (fun y hy => hA y (List.mem_cons_of_mem _ hy))]; rfl

/-- A store of some regions. -/
def StoreR (st n : Nat) (M : Recs) : HProp := ex fun t => ex fun X : List RecX => Sep.stars [pur (M = X.map recM ∧ (∀ x ∈ M, x.2.ok) ∧ 1 ≤ n ∧ n ≤ 3), blk st (.cells [.int .i64 n, .pointer (some ⟨t, 0, none⟩)].toArray ty_store_Store (0, 0)), TreeR btS cmpS t (X.map recI), Sep.stars (X.map recB)]
section
variable {B : World} {Γ Δ : List HProp}
instance (priority := high) own_store {st n : Nat} {M : Recs} : Sep.Own st (StoreR st n M :: Γ) (StoreR st n M) Γ := ⟨.refl _⟩
theorem s_store {st n : Nat} {M : Recs} {k : K} (h : ∀ t (X : List RecX), M = X.map recM → (∀ x ∈ M, x.2.ok) → 1 ≤ n → n ≤ 3 → HG B (blk st (.cells [.int .i64 n, .pointer (some ⟨t, 0, none⟩)].toArray ty_store_Store (0, 0)) :: TreeR btS cmpS t (X.map recI) :: Sep.stars (X.map recB) :: Γ) k) : HG B (StoreR st n M :: Γ) k :=
  s_ex fun t => s_ex fun X => s_flat <| s_pur fun ⟨h1, h2, h3, h4⟩ => h t X h1 h2 h3 h4
theorem s_mkStore {st n t : Nat} {X : List RecX} {k : K} (h2 : ∀ x ∈ X.map recM, x.2.ok) (h3 : 1 ≤ n) (h4 : n ≤ 3) (h : HG B (StoreR st n (X.map recM) :: Γ) k) : HG B (blk st (.cells [.int .i64 n, .pointer (some ⟨t, 0, none⟩)].toArray ty_store_Store (0, 0)) :: TreeR btS cmpS t (X.map recI) :: Sep.stars (X.map recB) :: Γ) k := fun w hw => by
  refine h w ?_
  have h3 : Holds B (Sep.stars [pur (X.map recM = X.map recM ∧ (∀ x ∈ X.map recM, x.2.ok) ∧ 1 ≤ n ∧ n ≤ 3), blk st (.cells [.int .i64 n, .pointer (some ⟨t, 0, none⟩)].toArray ty_store_Store (0, 0)), TreeR btS cmpS t (X.map recI), Sep.stars (X.map recB)] :: Γ) w := Holds.flat.2 (Holds.pur.2 ⟨⟨rfl, h2, h3, h4⟩, hw⟩)
  exact h3.imp fun g hg => ⟨t, X, hg⟩

theorem Default_spec {k : ByteArray} {n : Nat} {q : Int → K} (h1 : 1 ≤ n) (hn : n ≤ 1000) (hk : k.size < 1000000000000) (h : HG B Γ (q (homeOf k.toList n : Nat))) : HG B Γ (store_Default.call k n q) := fun w hw => by
  refine store_Default_ok _ _ _ _ ?_
  refine hg hw ?_
  clear hw w
  unfold store_Default
  refine s_f ?_
  obtain ⟨l, rfl⟩ := bs_of k
  rw [bs_list] at h
  have hsz : (bs l).size = l.length := rfl
  refine s_loopC (fun x : Int × Int => ∃ i s : Nat, x = ((s : Int), (i : Int)) ∧ i ≤ l.length ∧ s = homeOf (l.take i) n ∧ s < n) (fun x => l.length - x.2.toNat) ⟨0, 0, rfl, Nat.zero_le _, rfl, by omega⟩ fun k' x hx hk' => ?_
  obtain ⟨i, s, rfl, hi, hs, hsn⟩ := hx
  unfold store_Default.b1
  dsimp only
  refine s_ite (fun hb => ?_) fun hb => ?_
  · have hil : i < l.length := by simp only [decide_eq_true_eq] at hb; omega
    refine fun w hw => ⟨(l[i].toNat : Int), l[i], by omega, ?_, rfl, hg hw ?_⟩
    · show (bs l)[((i : Nat) : Int).toNat]? = _
      rw [Int.toNat_natCast]
      exact Array.getElem?_eq_getElem (xs := l.toArray) (by simpa using hil)
    have hb8 : l[i].toNat < 256 := l[i].toNat_lt
    refine s_ai ?_
    refine s_ai ?_
    refine s_cd (by omega) ?_
    refine s_ar (e' := (((s + l[i].toNat) % n : Nat) : Int)) ?_ ?_
    · rw [Int.tmod_eq_emod_of_nonneg (by omega)]; simp
    refine s_ai ?_
    refine hk' _ ⟨i + 1, (s + l[i].toNat) % n, by simp, hil, ?_, Nat.mod_lt _ (by omega)⟩ (by simp only; omega)
    rw [hs, List.take_succ_eq_append_getElem hil, homeOf, homeOf, List.foldl_append]; rfl
  · have hil : i = l.length := by simp only [decide_eq_false_iff_not] at hb; omega
    rw [hil, List.take_length] at hs
    rw [hs]
    exact h

theorem bytesClone_hg {b : Sl} {xs : List UInt8} {q : Sl → K} (hr : ∀ w, Holds B Γ w → RdB w b xs) (hl : xs.length ≤ 1000000000) (hk : ∀ s, s.a.isNone = b.a.isNone → HG B (Bytes ty_uint8 s xs :: Γ) (q s)) : HG B Γ (bytes_Clone.call b q) := fun w hw =>
  bytes_Clone_spec hw hr hl fun s w h hs => hk s hs w h
theorem storeNew_spec {n : Nat} {q : Option Addr → Int → K} (h1 : 1 ≤ n) (h3 : n ≤ 3) (h : ∀ st, HG B (StoreR st n [] :: Γ) (q (some ⟨st, 0, none⟩) 0)) : HG B Γ (store_New.call n q) := fun w hw => by
  refine store_New_ok _ _ _ ?_
  refine hg hw ?_
  clear hw w
  unfold store_New
  refine s_f ?_
  unfold store_New.s1
  refine s_f ?_
  refine btNew_spec fun t => ?_
  show HG B (TreeR btS cmpS t (([] : List RecX).map recI) :: Γ) _
  refine s_new fun st => ?_
  refine fun w hw => ?_
  refine hg (show Holds B (Sep.stars (([] : List RecX).map recB) :: _) w from Holds.flat.2 hw) ?_
  refine s_end (Δ := blk st (.cells [.int .i64 n, .pointer (some ⟨t, 0, none⟩)].toArray ty_store_Store (0, 0)) :: TreeR btS cmpS t (([] : List RecX).map recI) :: Sep.stars (([] : List RecX).map recB) :: Γ) ?_
  exact s_mkStore (by simp) h1 h3 (h st)

theorem split_rec {X : List RecX} {A C : List btS.It} {k : ByteArray} {v : Cel btS.nv} (e : X.map recI = A ++ ((k, v) : btS.It) :: C) : ∃ XA r XC, X = XA ++ (k, r) :: XC ∧ A = XA.map recI ∧ C = XC.map recI ∧ v = recC r := by
  obtain ⟨XA, X2, rfl, rfl, h2⟩ := List.map_eq_append_iff.1 e
  obtain ⟨⟨k', r⟩, XC, rfl, h3, rfl⟩ := List.map_eq_cons_iff.1 h2
  simp only [recI, Prod.mk.injEq] at h3
  obtain ⟨rfl, rfl⟩ := h3
  exact ⟨XA, r, XC, rfl, rfl, rfl, rfl⟩
theorem split_app {X : List RecX} {A C : List btS.It} (e : X.map recI = A ++ C) : ∃ XA XC, X = XA ++ XC ∧ A = XA.map recI ∧ C = XC.map recI := by
  obtain ⟨XA, X2, rfl, rfl, rfl⟩ := List.map_eq_append_iff.1 e
  exact ⟨XA, X2, rfl, rfl, rfl⟩
theorem lt_of_srt {X Y : List RecX} {k : ByteArray} {r : Rec × Sl} (h : Srt cmpS ((X ++ (k, r) :: Y).map recI)) : ∀ x ∈ X, cmpS x.1 k < 0 := fun x hx => by
  rw [List.map_append] at h
  exact (List.pairwise_append.1 h).2.2 (recI x) (List.mem_map.2 ⟨x, hx, rfl⟩) (recI (k, r)) (by simp)
theorem ne_of_lt {a b : ByteArray} (h : cmpS a b < 0) : a ≠ b := fun e => by rw [e] at h; exact List.lt_irrefl _ (cmpS_neg.1 h)

theorem sGet1 {t4 r5 : Nat} {r : Rec} {s : Sl} {z : List Value} {q : Array Value → K} (hz : z.length = 4) (hzf : z.all flatV = true) (hr : ∀ w, Holds B Γ w → RdB w s r.val) (hl : r.val.length ≤ 1000000000) (h : ∀ s', s'.a.isNone = s.a.isNone → HG B (Bytes ty_uint8 s' r.val :: Γ) (q (recA r s'))) :
    HG B (blk r5 (.cells (recL r s).toArray ty_api_Record (0, 0)) :: blk t4 (.cells z.toArray ty_api_Record (0, 0)) :: Γ) (store_Store_Get.s1 q ⟨t4, 0, none⟩ ⟨r5, 0, none⟩) := by
  unfold store_Store_Get.s1
  refine s_ld (b := r5) (x := s) ?_
  refine bytesClone_hg (fun w hw => hr w hw.tail.tail) hl fun s' hs' => ?_
  refine s_st (b := r5) ?_
  refine s_ldN (b := r5) ?_
  refine s_stN (b := t4) ?_ hz rfl rfl
  refine s_ldN (b := t4) ?_
  exact s_end (h s' hs')
/-- Get. -/
theorem storeGet_spec {st n : Nat} {M : Recs} {k : ByteArray} {q : Array Value → K} (hk : k.size < 1000000000000) (h : ∀ s, (sGet n M k).ok → HG B (Bytes ty_uint8 s (sGet n M k).val :: StoreR st n M :: Γ) (q (recA (sGet n M k) s))) : HG B (StoreR st n M :: Γ) (store_Store_Get.call (some ⟨st, 0, none⟩) k q) := fun w hw => by
  refine store_Store_Get_ok _ _ _ _ ?_
  refine hg hw ?_
  clear hw w
  refine s_store fun t X hM hok h1 h3 => ?_
  unfold store_Store_Get
  refine s_new fun t4 => ?_
  refine s_nn ?_
  refine s_ld (b := st) (x := some ⟨t, 0, none⟩) ?_
  refine s_own t ?_
  refine tree_srt fun hs => ?_
  refine btGet_spec (fun A v C e => ?_) fun A C e hA hC => ?_
  · obtain ⟨XA, r, XC, rfl, rfl, rfl, rfl⟩ := split_rec e
    have hlt := lt_of_srt hs
    have hg' : getM M k = some r.1 := by
      rw [hM, List.map_append]
      exact getM_mid fun x hx => by
        obtain ⟨y, hy, rfl⟩ := List.mem_map.1 hx
        exact ne_of_lt (hlt y hy)
    have hr : sGet n M k = r.1 := by unfold sGet; rw [hg']; rfl
    have hrok : r.1.ok := hok (k, r.1) (getM_mem hg')
    rw [hr] at h
    refine s_new fun r5 => ?_
    refine s_stN (b := r5) (l' := recL r.1 r.2) ?_
    refine s_f ?_
    refine s_end (Δ := blk r5 (.cells (recL r.1 r.2).toArray ty_api_Record (0, 0)) :: blk t4 (.cells [.bool false, Sl.val ⟨none, 0, 0⟩, .int .i64 0, .int .u64 0].toArray ty_api_Record (0, 0)) :: blk st (.cells [.int .i64 n, .pointer (some ⟨t, 0, none⟩)].toArray ty_store_Store (0, 0)) :: TreeR btS cmpS t ((XA ++ (k, r) :: XC).map recI) :: Sep.stars ((XA ++ (k, r) :: XC).map recB) :: Γ) ?_
    refine sGet1 (r := r.1) rfl rfl (fun w hw => ?_) hrok.2.2 fun s' hs' => ?_
    · have h5 : Holds B (recB (k, r) :: _) w := (Holds.flat.1 (hw.tail.tail)).perm mid_perm |>.perm List.perm_middle
      exact h5.rdC List.mem_cons_self
    · rw [hM] at h
      refine s_end (Δ := blk st (.cells [.int .i64 n, .pointer (some ⟨t, 0, none⟩)].toArray ty_store_Store (0, 0)) :: TreeR btS cmpS t ((XA ++ (k, r) :: XC).map recI) :: Sep.stars ((XA ++ (k, r) :: XC).map recB) :: Bytes ty_uint8 s' r.1.val :: Γ) ?_
      refine s_mkStore (by rw [← hM]; exact hok) h1 h3 ?_
      exact s_end (h s' hrok)
  · obtain ⟨XA, XC, rfl, rfl, rfl⟩ := split_app e
    have hg' : getM M k = none := by
      rw [hM, List.map_append]
      refine getM_none fun x hx => ?_
      rcases List.mem_append.1 hx with hx | hx
      · obtain ⟨y, hy, rfl⟩ := List.mem_map.1 hx
        exact ne_of_lt (hA (recI y) (List.mem_map.2 ⟨y, hy, rfl⟩))
      · obtain ⟨y, hy, rfl⟩ := List.mem_map.1 hx
        exact Ne.symm (ne_of_lt (hC (recI y) (List.mem_map.2 ⟨y, hy, rfl⟩)))
    have hr : sGet n M k = ⟨false, [], homeOf k.toList n, 0⟩ := by unfold sGet; rw [hg']; rfl
    rw [hr] at h
    refine s_new fun r5 => ?_
    refine s_stN (b := r5) (l' := recL ⟨false, [], 0, 0⟩ ⟨none, 0, 0⟩) ?_
    refine s_t ?_
    refine s_ld (b := st) (x := (n : Int)) ?_
    refine Default_spec h1 (by omega) hk ?_
    refine s_st (b := r5) ?_
    refine s_end (Δ := blk r5 (.cells (recL ⟨false, [], homeOf k.toList n, 0⟩ ⟨none, 0, 0⟩).toArray ty_api_Record (0, 0)) :: blk t4 (.cells [.bool false, Sl.val ⟨none, 0, 0⟩, .int .i64 0, .int .u64 0].toArray ty_api_Record (0, 0)) :: blk st (.cells [.int .i64 n, .pointer (some ⟨t, 0, none⟩)].toArray ty_store_Store (0, 0)) :: TreeR btS cmpS t ((XA ++ XC).map recI) :: Sep.stars ((XA ++ XC).map recB) :: Γ) ?_
    refine sGet1 (r := ⟨false, [], homeOf k.toList n, 0⟩) rfl rfl (fun w hw => RdC.none') (by simp) fun s' hs' => ?_
    rw [hM] at h
    refine s_end (Δ := blk st (.cells [.int .i64 n, .pointer (some ⟨t, 0, none⟩)].toArray ty_store_Store (0, 0)) :: TreeR btS cmpS t ((XA ++ XC).map recI) :: Sep.stars ((XA ++ XC).map recB) :: Bytes ty_uint8 s' [] :: Γ) ?_
    refine s_mkStore (by rw [← hM]; exact hok) h1 h3 ?_
    exact s_end (h s' ⟨by simp, by simp, by simp⟩)

theorem srt_M {X : List RecX} (h : Srt cmpS (X.map recI)) : Srt cmpS (X.map recM) := by
  unfold Srt at h ⊢
  rw [List.pairwise_map] at h ⊢
  exact h
/-- What a store is told of a key. -/
theorem storePut_hg {st t n : Nat} {X : List RecX} {k : ByteArray} {r : Rec} {s : Sl} {q : Array Value → Bool → K} (hok : ∀ x ∈ X.map recM, x.2.ok) (hr : r.ok) (h1 : 1 ≤ n) (h3 : n ≤ 3) (hL : X.length < 1000000000)
    (h : ∀ a b, HG B (StoreR st n (putM (X.map recM) k r) :: Γ) (q a b)) :
    HG B (blk st (.cells [.int .i64 n, .pointer (some ⟨t, 0, none⟩)].toArray ty_store_Store (0, 0)) :: TreeR btS cmpS t (X.map recI) :: Sep.stars (X.map recB) :: Bytes ty_uint8 s r.val :: Γ) (btree_Tree_string_api_Record_Put.call (some ⟨t, 0, none⟩) k (recA r s) q) := by
  refine s_own t ?_
  refine tree_srt fun hs => ?_
  refine btPut_spec (v := recC (r, s)) (by simpa using hL) fun L' old had hp => ?_
  have hput : ∀ x ∈ putM (X.map recM) k r, x.2.ok := fun x hx => by
    rcases putM_mem hx with rfl | hx
    · exact hr
    · exact hok x hx
  rcases hp with ⟨A, C, e, rfl, rfl⟩ | ⟨A, C, e, hA, hC, rfl, rfl, rfl⟩
  · obtain ⟨XA, r0, XC, rfl, rfl, rfl, rfl⟩ := split_rec e
    have hlt := lt_of_srt hs
    have e2 : putM ((XA ++ (k, r0) :: XC).map recM) k r = (XA ++ (k, (r, s)) :: XC).map recM := by
      rw [List.map_append, List.map_cons]
      rw [show recM (k, r0) = (k, r0.1) from rfl, putM_mid (fun x hx => by
        obtain ⟨y, hy, rfl⟩ := List.mem_map.1 hx
        exact hlt y hy)]
      simp
    rw [e2] at h hput
    refine s_pick (Sep.stars ((XA ++ (k, r0) :: XC).map recB)) ?_
    refine s_mid ?_
    have e3 : XA.map recI ++ ((k, recC (r, s)) : btS.It) :: XC.map recI = (XA ++ (k, (r, s)) :: XC).map recI := by simp
    refine s_end (Δ := recB (k, (r, s)) :: Sep.stars ((XA ++ XC).map recB) :: blk st (.cells [.int .i64 n, .pointer (some ⟨t, 0, none⟩)].toArray ty_store_Store (0, 0)) :: TreeR btS cmpS t (XA.map recI ++ ((k, recC (r, s)) : btS.It) :: XC.map recI) :: Γ) ?_
    refine s_unmid ?_
    rw [e3]
    refine s_end (Δ := blk st (.cells [.int .i64 n, .pointer (some ⟨t, 0, none⟩)].toArray ty_store_Store (0, 0)) :: TreeR btS cmpS t ((XA ++ (k, (r, s)) :: XC).map recI) :: Sep.stars ((XA ++ (k, (r, s)) :: XC).map recB) :: Γ) ?_
    exact s_mkStore hput h1 h3 (h _ _)
  · obtain ⟨XA, XC, rfl, rfl, rfl⟩ := split_app e
    have e2 : putM ((XA ++ XC).map recM) k r = (XA ++ (k, (r, s)) :: XC).map recM := by
      rw [List.map_append, putM_new (fun x hx => by
        obtain ⟨y, hy, rfl⟩ := List.mem_map.1 hx
        exact hA (recI y) (List.mem_map.2 ⟨y, hy, rfl⟩)) (fun x hx => by
        obtain ⟨y, hy, rfl⟩ := List.mem_map.1 hx
        exact hC (recI y) (List.mem_map.2 ⟨y, hy, rfl⟩))]
      simp
    rw [e2] at h hput
    have e3 : XA.map recI ++ ((k, recC (r, s)) : btS.It) :: XC.map recI = (XA ++ (k, (r, s)) :: XC).map recI := by simp
    refine s_end (Δ := recB (k, (r, s)) :: Sep.stars ((XA ++ XC).map recB) :: blk st (.cells [.int .i64 n, .pointer (some ⟨t, 0, none⟩)].toArray ty_store_Store (0, 0)) :: TreeR btS cmpS t (XA.map recI ++ ((k, recC (r, s)) : btS.It) :: XC.map recI) :: Γ) ?_
    refine s_unmid ?_
    rw [e3]
    refine s_end (Δ := blk st (.cells [.int .i64 n, .pointer (some ⟨t, 0, none⟩)].toArray ty_store_Store (0, 0)) :: TreeR btS cmpS t ((XA ++ (k, (r, s)) :: XC).map recI) :: Sep.stars ((XA ++ (k, (r, s)) :: XC).map recB) :: Γ) ?_
    exact s_mkStore hput h1 h3 (h _ _)
theorem storeSet_spec {st n : Nat} {M : Recs} {k : ByteArray} {r : Rec} {s : Sl} {q : K} (hr : r.ok) (hne : r.has = true ∨ r.cnt ≠ 0) (hL : M.length < 1000000000) (h : HG B (StoreR st n (putM M k r) :: Γ) q) : HG B (StoreR st n M :: Bytes ty_uint8 s r.val :: Γ) (store_Store_set.call (some ⟨st, 0, none⟩) k (recA r s) q) := fun w hw => by
  refine store_Store_set_ok _ _ _ _ _ ?_
  refine hg hw ?_
  clear hw w
  refine s_store fun t X hM hok h1 h3 => ?_
  subst hM
  unfold store_Store_set
  refine s_new fun r5 => ?_
  refine s_ld (b := r5) (x := r.has) ?_
  have key : HG B (blk r5 (.cells (recL r s).toArray ty_api_Record (0, 0)) :: blk st (.cells [.int .i64 n, .pointer (some ⟨t, 0, none⟩)].toArray ty_store_Store (0, 0)) :: TreeR btS cmpS t (X.map recI) :: Sep.stars (X.map recB) :: Bytes ty_uint8 s r.val :: Γ) (store_Store_set.s1 q (some ⟨st, 0, none⟩) k ⟨r5, 0, none⟩ false) := by
    unfold store_Store_set.s1
    refine s_f ?_
    refine s_dr ?_
    refine s_nn ?_
    refine s_ld (b := st) (x := some ⟨t, 0, none⟩) ?_
    refine s_ldN (b := r5) ?_
    refine s_end (Δ := blk st (.cells [.int .i64 n, .pointer (some ⟨t, 0, none⟩)].toArray ty_store_Store (0, 0)) :: TreeR btS cmpS t (X.map recI) :: Sep.stars (X.map recB) :: Bytes ty_uint8 s r.val :: Γ) ?_
    exact storePut_hg hok hr h1 h3 (by simpa using hL) fun _ _ => h
  refine s_ite (fun hb => ?_) fun hb => key
  refine s_ld (b := r5) (x := r.cnt) ?_
  have hc : r.cnt ≠ 0 := hne.resolve_left (by simpa using hb)
  rw [show decide (r.cnt = 0) = false by simpa using hc]
  exact key
/-- Move. -/
theorem storeMove_spec {st n : Nat} {M : Recs} {k : ByteArray} {to : Int} {q : Int → K} (hk : k.size < 1000000000000) (hL : M.length < 1000000000) (h : HG B (StoreR st n (sMove n M k to).1 :: Γ) (q (sMove n M k to).2)) : HG B (StoreR st n M :: Γ) (store_Store_Move.call (some ⟨st, 0, none⟩) k to q) := fun w hw => by
  refine store_Store_Move_ok _ _ _ _ _ ?_
  refine hg hw ?_
  clear hw w
  unfold store_Store_Move
  refine storeGet_spec hk fun s hok => ?_
  generalize hR : sGet n M k = r at *
  refine s_new fun r7 => ?_
  refine s_stN (b := r7) (l' := recL r s) ?_
  have bad : to < 0 ∨ (n : Int) ≤ to → ∀ s0, HG B (blk r7 (.cells (recL r s).toArray ty_api_Record (0, 0)) :: Bytes ty_uint8 s r.val :: StoreR st n M :: Γ) (store_Store_Move.s1 q s0 k to ⟨r7, 0, none⟩ true) := fun hb s0 => by
    unfold store_Store_Move.s1
    refine s_t ?_
    have e : sMove n M k to = (M, 1) := by unfold sMove; rw [if_pos hb]
    rw [e] at h
    exact s_end h
  refine s_ite (fun hb => bad (.inl (by simpa using hb)) _) fun hb => ?_
  refine s_nn ?_
  refine s_own st ?_
  refine s_store fun t X hM hok2 h1 h3 => ?_
  refine s_ld (b := st) (x := (n : Int)) ?_
  subst hM
  refine s_mkStore hok2 h1 h3 ?_
  refine s_end (Δ := blk r7 (.cells (recL r s).toArray ty_api_Record (0, 0)) :: Bytes ty_uint8 s r.val :: StoreR st n (X.map recM) :: Γ) ?_
  by_cases hb2 : (n : Int) ≤ to
  · rw [show decide ((n : Int) ≤ to) = true by simpa using hb2]
    exact bad (.inr hb2) _
  rw [show decide ((n : Int) ≤ to) = false by simpa using hb2]
  have hnb : ¬ (to < 0 ∨ (n : Int) ≤ to) := by
    simp only [decide_eq_false_iff_not] at hb
    omega
  unfold store_Store_Move.s1
  refine s_f ?_
  refine s_ld (b := r7) (x := r.cnt) ?_
  refine s_ite (fun hc => ?_) fun hc => ?_
  · have e : sMove n (X.map recM) k to = (X.map recM, 111) := by unfold sMove; rw [if_neg hnb, hR, if_pos (by simpa using hc)]
    rw [e] at h
    exact s_end h
  have hc' : r.cnt ≠ 18446744073709551615 := by simpa using hc
  obtain ⟨o1, o2, o3⟩ := hok
  refine s_st (b := r7) ?_
  refine s_ld (b := r7) (x := r.cnt) ?_
  refine s_ar (wrapU64 (by omega) (by omega)) ?_
  refine s_st (b := r7) ?_
  refine s_ldN (b := r7) (l' := recL { r with home := to, cnt := r.cnt + 1 } s) ?_
  refine s_end (Δ := StoreR st n (X.map recM) :: Bytes ty_uint8 s r.val :: Γ) ?_
  refine storeSet_spec (r := { r with home := to, cnt := r.cnt + 1 }) ⟨by simp only; omega, by simp only; omega, o3⟩ (.inr (by simp only; omega)) hL ?_
  have e : sMove n (X.map recM) k to = (putM (X.map recM) k { r with home := to, cnt := r.cnt + 1 }, 0) := by unfold sMove; rw [if_neg hnb, hR, if_neg hc']
  rw [e] at h
  exact h
end
end Go.Proofs.YtfjjocopmknhgaaGreat
/- How the arguments of laws read. -/
namespace Go.Proofs.YtfjjocopmknhgaaGreat
open Go Go.Sep
def Sh_ty_s_argosylaw10_Move : Sh := (.sl (.fld 0 1 .str (.fld 1 1 (.int .i64) .nil)) 2)
theorem sh_22 : mkSh Tryz.prog 9 22 = Sh_ty_s_argosylaw10_Move := by kernel_rfl
def Sh_ty_api_Txn : Sh := (.fld 0 1 (.int .i64) (.fld 1 1 (.sl .str 1) (.fld 2 1 (.sl .str 1) (.fld 3 1 (.sl (.fld 0 1 (.int .i64) (.fld 1 1 .str (.fld 2 1 (.sl (.int .u8) 1) (.fld 3 1 (.int .i64) .nil)))) 4) (.fld 4 1 (.int .i64) .nil)))))
theorem sh_26 : mkSh Tryz.prog 9 26 = Sh_ty_api_Txn := by kernel_rfl
def Sh_ty_api_Tag : Sh := (.fld 0 3 (.fld 0 1 (.int .i64) (.fld 1 1 (.int .u64) (.fld 2 1 (.int .u64) .nil))) (.fld 3 1 (.int .i64) .nil))
theorem sh_39 : mkSh Tryz.prog 9 39 = Sh_ty_api_Tag := by kernel_rfl
def Sh_ty_s_argosylaw07_Cell : Sh := (.sl (.fld 0 1 .str (.fld 1 1 (.sl (.int .u8) 1) (.fld 2 1 .bool (.fld 3 1 (.int .i64) .nil)))) 4)
theorem sh_52 : mkSh Tryz.prog 9 52 = Sh_ty_s_argosylaw07_Cell := by kernel_rfl
def Sh_ty_s_api_Txn : Sh := (.sl (.fld 0 1 (.int .i64) (.fld 1 1 (.sl .str 1) (.fld 2 1 (.sl .str 1) (.fld 3 1 (.sl (.fld 0 1 (.int .i64) (.fld 1 1 .str (.fld 2 1 (.sl (.int .u8) 1) (.fld 3 1 (.int .i64) .nil)))) 4) (.fld 4 1 (.int .i64) .nil))))) 5)
theorem sh_77 : mkSh Tryz.prog 9 77 = Sh_ty_s_api_Txn := by kernel_rfl
def Sh_ty_s_argosylaw16_Op : Sh := (.sl (.fld 0 1 (.int .i64) (.fld 1 1 (.int .i64) (.fld 2 4 (.fld 0 3 (.fld 0 1 (.int .i64) (.fld 1 1 (.int .u64) (.fld 2 1 (.int .u64) .nil))) (.fld 3 1 (.int .i64) .nil)) (.fld 6 1 .str (.fld 7 1 (.sl (.fld 0 1 .str (.fld 1 1 (.int .i64) (.fld 2 1 (.int .u64) .nil))) 3) .nil))))) 8)
theorem sh_79 : mkSh Tryz.prog 9 79 = Sh_ty_s_argosylaw16_Op := by kernel_rfl
end Go.Proofs.YtfjjocopmknhgaaGreat
/- Plain forms of functions, and that their code comes to them (package route). -/
namespace Go.Proofs.YtfjjocopmknhgaaGreat
open Go Go.Sep
set_option linter.unusedVariables false
set_option linter.unusedSimpArgs false
set_option maxRecDepth 100000
set_option maxHeartbeats 4000000
attribute [local irreducible] G Gp Cx Tx Ex Sx Dx Ox Ax Lx Rx Fx Bx Bj Al Do Ld LdN St StN New CallF Ar DoU Rd Rd2 Pu Cd Ite Fv CallV CallY Ans0 Ans1 Ans2 Ans3 Ans4 Ans5 Ext Dead Dr WithS Sv LdS LdNS RdS Rd2S Nn Idx IdxA IdxS Fld Bld Slc SlcS Cat All LoopK RangeF RangeJ TakeD
namespace F_IRRoute
instance at_26 : AT Tryz.prog 26 5 := ⟨by kernel_rfl⟩
instance at_39 : AT Tryz.prog 39 4 := ⟨by kernel_rfl⟩
instance at_42 : AT Tryz.prog 42 10 := ⟨by kernel_rfl⟩
instance cb_14 : CB Tryz.prog 14 := ⟨by kernel_rfl⟩
instance cb_50 : CB Tryz.prog 50 := ⟨by kernel_rfl⟩
instance cb_51 : CB Tryz.prog 51 := ⟨by kernel_rfl⟩
instance cb_90 : CB Tryz.prog 90 := ⟨by kernel_rfl⟩
instance ct_3 : CT Tryz.prog 3 := ⟨by kernel_rfl⟩
instance ct_35 : CT Tryz.prog 35 := ⟨by kernel_rfl⟩
instance ct_9 : CT Tryz.prog 9 := ⟨by kernel_rfl⟩
instance ft_105_1 : FT Tryz.prog 105 1 1 1 := ⟨by kernel_rfl⟩
instance ft_105_2 : FT Tryz.prog 105 2 2 1 := ⟨by kernel_rfl⟩
instance ft_47_2 : FT Tryz.prog 47 2 2 1 := ⟨by kernel_rfl⟩
instance ft_47_3 : FT Tryz.prog 47 3 3 1 := ⟨by kernel_rfl⟩
instance mx : MX Tryz.prog := ⟨mixed⟩
instance pl_105 : PLT Tryz.prog 105 [(0, 1), (1, 1), (2, 1)] := ⟨_, Tryz.underlying105, by kernel_rfl⟩
instance pl_42 : PLT Tryz.prog 42 [(0, 4), (4, 5), (9, 1)] := ⟨_, Tryz.underlying42, by kernel_rfl⟩
instance sl_23 : SLT Tryz.prog 23 9 1 := ⟨by kernel_rfl⟩
instance sl_40 : SLT Tryz.prog 40 105 3 := ⟨by kernel_rfl⟩
instance sz_42 : SZ Tryz.prog 42 10 := ⟨by kernel_rfl⟩
instance sz_47 : SZ Tryz.prog 47 4 := ⟨by kernel_rfl⟩
instance zt_105 : ZT Tryz.prog 105 (.agg #[(.string ⟨#[]⟩), (.int .i64 0), (.int .u64 0)]) := ⟨Tryz.t105, by kernel_rfl, by kernel_rfl⟩
instance zt_42 : ZT Tryz.prog 42 (.agg #[(.int .i64 0), (.int .u64 0), (.int .u64 0), (.int .i64 0), (.int .i64 0), (Sl.val ⟨none, 0, 0⟩), (Sl.val ⟨none, 0, 0⟩), (Sl.val ⟨none, 0, 0⟩), (.int .i64 0), (Sl.val ⟨none, 0, 0⟩)]) := ⟨Tryz.t42, by kernel_rfl, by kernel_rfl⟩
instance zt_47 : ZT Tryz.prog 47 (.agg #[(.bool false), (Sl.val ⟨none, 0, 0⟩), (.int .i64 0), (.int .u64 0)]) := ⟨Tryz.t47, by kernel_rfl, by kernel_rfl⟩
end F_IRRoute
def route_Make (s0 : (Option Addr)) (tag1 : (Array Value)) (t2 : (Array Value)) (Q : (Array Value) → K) : K :=
  New 39 tag1 fun tag4 =>
  New 26 t2 fun t5 =>
  New 42 #[(.int .i64 0), (.int .u64 0), (.int .u64 0), (.int .i64 0), (.int .i64 0), (Sl.val ⟨none, 0, 0⟩), (Sl.val ⟨none, 0, 0⟩), (Sl.val ⟨none, 0, 0⟩), (.int .i64 0), (Sl.val ⟨none, 0, 0⟩)] fun t6 =>
  Dr <| WithS fun S =>
  LdNS S tag4 4 fun t7 =>
  LdNS S t5 5 fun t8 =>
  LdNS S t5 5 fun t11 =>
  prog_Copy.call t8 fun t9 =>
  Sv S <|
  route_Marks.call s0 t11 fun t12 =>
  Sv S <|
  Bld #[(.int .i64 0), (.int .u64 0), (.int .u64 0), (.int .i64 0), (.int .i64 0), (Sl.val ⟨none, 0, 0⟩), (Sl.val ⟨none, 0, 0⟩), (Sl.val ⟨none, 0, 0⟩), (.int .i64 0), (Sl.val ⟨none, 0, 0⟩)] ([(0, 4), (4, 5), (9, 1)][·]?) [(0, (.agg t7)), (1, (.agg t9)), (2, (Sl.val t12))] fun t13 =>
  StN t6 10 t13 <|
  LdN t6 10 fun r0 =>
  Q r0
theorem route_Make_ok (s0 : (Option Addr)) (tag1 : (Array Value)) (t2 : (Array Value)) (Q : (Array Value) → K) (w : World) (h : route_Make s0 tag1 t2 Q w) : route_Make.call s0 tag1 t2 Q w := by
  have hD1 : DH 1 2 [7] (.s [3, 0, 1, 4] (.a [(2, 1, .a [(5, 1, .s [6] (.a [(7, 0, .e)]))])])) := by intros; exact ⟨⟩
  exact g_walk 14 h Tryz.func12
def route_Look.s1 (Q : Int → K)  (t11_1 : Bool) : K :=
  Ite t11_1
    (Q 0)
    (Q 2)
def route_Look (r0 : (Array Value)) (m1 : (Array Value)) (Q : Int → K) : K :=
  New 47 r0 fun r2 =>
  New 105 m1 fun m3 =>
  Ld (m3.add 2) (Value.int .u64) fun t7 =>
  Ld (r2.add 3) (Value.int .u64) fun t9 =>
  Ite (decide (t9 < t7))
    (Q 1)
    (Ld (m3.add 2) (Value.int .u64) fun t13 =>
    Ld (r2.add 3) (Value.int .u64) fun t15 =>
    Ite (decide (t13 = t15))
      (Ld (m3.add 1) (Value.int .i64) fun t19 =>
      Ld (r2.add 2) (Value.int .i64) fun t21 =>
      route_Look.s1 Q (decide (t19 = t21)))
      (route_Look.s1 Q false))
theorem route_Look_ok (r0 : (Array Value)) (m1 : (Array Value)) (Q : Int → K) (w : World) (h : route_Look r0 m1 Q w) : route_Look.call r0 m1 Q w := by
  have hJ4 : JH 4 fun D => D [] (fun C => ∀ (t11_1 : Bool), C [(11, (.bool t11_1))] (route_Look.s1 Q t11_1)) := by intros; exact ⟨fun _ h => ⟨_, _, h⟩⟩
  exact g_walk 24 h Tryz.func44
def route_Marks.b1 (Q : Sl → K)  (X1 : Sl → Int → K) (s0_1 : (Option Addr)) (t9_1 : Sl) (t10_1 : Int) (out4_1 : Sl) (t11_1 : Int) : K :=
  Ite (decide (t11_1 < t10_1))
    (Idx t9_1 t11_1 1 fun t13 =>
    Ld t13 Value.string fun t14 =>
    store_Store_Get.call s0_1 t14 fun t17 =>
    New 47 #[(.bool false), (Sl.val ⟨none, 0, 0⟩), (.int .i64 0), (.int .u64 0)] fun r7 =>
    StN r7 4 t17 <|
    Ld (r7.add 2) (Value.int .i64) fun t21 =>
    Ld (r7.add 3) (Value.int .u64) fun t23 =>
    Bld #[(.string ⟨#[]⟩), (.int .i64 0), (.int .u64 0)] (fun i => some (i * 3, 3)) [(0, (.agg #[(.string t14), (.int .i64 t21), (.int .u64 t23)]))] fun ct25 =>
    New 105 ct25 fun t25 =>
    Do Tryz.prog (Builtin.append_ #[40, 40] 40 #[(Sl.val out4_1), (Sl.val (Sl.mk (some t25) 1 1))]) Sl.val fun t26 =>
    Ar (IntKind.wrap .i64 (t11_1 + 1)) fun t27 =>
    X1 t26 t27)
    (Q out4_1)
def route_Marks (s0 : (Option Addr)) (t1 : (Array Value)) (Q : Sl → K) : K :=
  New 26 t1 fun t3 =>
  LdN t3 5 fun t8 =>
  prog_Keys.call t8 fun t9 =>
  LoopK (α := Sl × Int) (fun X x => route_Marks.b1 Q (fun out4_1 t11_1 => X (out4_1, t11_1)) s0 t9 (t9.n : Int) x.1 x.2) ((Sl.mk none 0 0), 0)
theorem route_Marks_ok (s0 : (Option Addr)) (t1 : (Array Value)) (Q : Sl → K) (w : World) (h : route_Marks s0 t1 Q w) : route_Marks.call s0 t1 Q w := by
  have hL2 : ∀ (s0_1 : (Option Addr)) (t9_1 : Sl) (t10_1 : Int), LH 2 (fun x : Sl × Int => [(0, (.pointer s0_1)), (4, (Sl.val x.1)), (9, (Sl.val t9_1)), (10, (.int .i64 t10_1)), (11, (.int .i64 x.2))]) (fun X x => route_Marks.b1 Q (fun out4_1 t11_1 => X (out4_1, t11_1)) s0_1 t9_1 t10_1 x.1 x.2) := by intros; exact ⟨⟩
  exact g_walk 29 h Tryz.func51
end Go.Proofs.YtfjjocopmknhgaaGreat
/- Plain forms of functions, and that their code comes to them (package law10). -/
namespace Go.Proofs.YtfjjocopmknhgaaGreat
open Go Go.Sep
set_option linter.unusedVariables false
set_option linter.unusedSimpArgs false
set_option maxRecDepth 100000
set_option maxHeartbeats 4000000
attribute [local irreducible] G Gp Cx Tx Ex Sx Dx Ox Ax Lx Rx Fx Bx Bj Al Do Ld LdN St StN New CallF Ar DoU Rd Rd2 Pu Cd Ite Fv CallV CallY Ans0 Ans1 Ans2 Ans3 Ans4 Ans5 Ext Dead Dr WithS Sv LdS LdNS RdS Rd2S Nn Idx IdxA IdxS Fld Bld Slc SlcS Cat All LoopK RangeF RangeJ TakeD
namespace F_IRLaw10
instance at_107 : AT Tryz.prog 107 2 := ⟨by kernel_rfl⟩
instance at_47 : AT Tryz.prog 47 4 := ⟨by kernel_rfl⟩
instance cb_31 : CB Tryz.prog 31 := ⟨by kernel_rfl⟩
instance cb_33 : CB Tryz.prog 33 := ⟨by kernel_rfl⟩
instance cb_44 : CB Tryz.prog 44 := ⟨by kernel_rfl⟩
instance cb_48 : CB Tryz.prog 48 := ⟨by kernel_rfl⟩
instance cb_49 : CB Tryz.prog 49 := ⟨by kernel_rfl⟩
instance ct_3 : CT Tryz.prog 3 := ⟨by kernel_rfl⟩
instance ct_9 : CT Tryz.prog 9 := ⟨by kernel_rfl⟩
instance ft_107_0 : FT Tryz.prog 107 0 0 1 := ⟨by kernel_rfl⟩
instance ft_107_1 : FT Tryz.prog 107 1 1 1 := ⟨by kernel_rfl⟩
instance mx : MX Tryz.prog := ⟨mixed⟩
instance pl_105 : PLT Tryz.prog 105 [(0, 1), (1, 1), (2, 1)] := ⟨_, Tryz.underlying105, by kernel_rfl⟩
instance pl_47 : PLT Tryz.prog 47 [(0, 1), (1, 1), (2, 1), (3, 1)] := ⟨_, Tryz.underlying47, by kernel_rfl⟩
instance sl_22 : SLT Tryz.prog 22 107 2 := ⟨by kernel_rfl⟩
instance st_9 : STT Tryz.prog 9 := ⟨by kernel_rfl⟩
instance sz_107 : SZ Tryz.prog 107 2 := ⟨by kernel_rfl⟩
instance sz_47 : SZ Tryz.prog 47 4 := ⟨by kernel_rfl⟩
instance un_31 : UN Tryz.prog 31 (.pointer 119) := ⟨Tryz.underlying31⟩
instance zt_105 : ZT Tryz.prog 105 (.agg #[(.string ⟨#[]⟩), (.int .i64 0), (.int .u64 0)]) := ⟨Tryz.t105, by kernel_rfl, by kernel_rfl⟩
instance zt_107 : ZT Tryz.prog 107 (.agg #[(.string ⟨#[]⟩), (.int .i64 0)]) := ⟨Tryz.t107, by kernel_rfl, by kernel_rfl⟩
instance zt_47 : ZT Tryz.prog 47 (.agg #[(.bool false), (Sl.val ⟨none, 0, 0⟩), (.int .i64 0), (.int .u64 0)]) := ⟨Tryz.t47, by kernel_rfl, by kernel_rfl⟩
end F_IRLaw10
def law10_speaks.s1 (Q : Bool → K)  (t0_1 : Bool) : K :=
  Q t0_1
def law10_speaks  (Q : Bool → K) : K :=
  New 47 #[(.bool false), (Sl.val ⟨none, 0, 0⟩), (.int .i64 0), (.int .u64 0)] fun r1 =>
  StN r1 4 #[(.bool false), (Sl.val ⟨none, 0, 0⟩), (.int .i64 1), (.int .u64 2)] <|
  LdN r1 4 fun t3 =>
  route_Look.call t3 #[(.string ⟨#[]⟩), (.int .i64 1), (.int .u64 2)] fun t5 =>
  Ite (decide (t5 = 0))
    (LdN r1 4 fun t8 =>
    route_Look.call t8 #[(.string ⟨#[]⟩), (.int .i64 0), (.int .u64 3)] fun t10 =>
    Ite (decide (t10 = 1))
      (LdN r1 4 fun t14 =>
      route_Look.call t14 #[(.string ⟨#[]⟩), (.int .i64 0), (.int .u64 2)] fun t16 =>
      Ite (decide (t16 = 2))
        (LdN r1 4 fun t20 =>
        route_Look.call t20 #[(.string ⟨#[]⟩), (.int .i64 1), (.int .u64 1)] fun t22 =>
        law10_speaks.s1 Q (bif (bif (bif (decide (t22 = 2)) then true else false) then true else false) then true else false))
        (law10_speaks.s1 Q false))
      (law10_speaks.s1 Q false))
    (law10_speaks.s1 Q false)
theorem law10_speaks_ok  (Q : Bool → K) (w : World) (h : law10_speaks  Q w) : law10_speaks.call  Q w := by
  have hJ1000002 : JH 1000002 fun D => D [] (fun C => ∀ (t0_1 : Bool), C [(0, (.bool t0_1))] (law10_speaks.s1 Q t0_1)) := by intros; exact ⟨fun _ h => ⟨_, _, h⟩⟩
  exact g_walk 31 h Tryz.func7
def law10_great.b1 (Q : Bool → K)  (X1 : Int → K) (t8_1 : Sl) (t9_1 : Int) (t10_1 : Int) : K :=
  Ite (decide (t10_1 < t9_1))
    (Idx t8_1 t10_1 2 fun t12 =>
    LdN t12 2 fun t13 =>
    New 107 #[(.string ⟨#[]⟩), (.int .i64 0)] fun m4 =>
    StN m4 2 t13 <|
    Ld m4 Value.string fun t15 =>
    Ite (decide ((200 : Int) < (t15.size : Int)))
      (Q true)
      (Ar (IntKind.wrap .i64 (t10_1 + 1)) fun t18 =>
      X1 t18))
    (Q false)
def law10_great (moves0 : Sl) (Q : Bool → K) : K :=
  Ite (decide ((100 : Int) < (moves0.n : Int)))
    (Q true)
    (LoopK (α := Int) (fun X x => law10_great.b1 Q X moves0 (moves0.n : Int) x) 0)
theorem law10_great_ok (moves0 : Sl) (Q : Bool → K) (w : World) (h : law10_great moves0 Q w) : law10_great.call moves0 Q w := by
  have hL4 : ∀ (t8_1 : Sl) (t9_1 : Int), LH 4 (fun x : Int => [(8, (Sl.val t8_1)), (9, (.int .i64 t9_1)), (10, (.int .i64 x))]) (fun X x => law10_great.b1 Q X t8_1 t9_1 x) := by intros; exact ⟨⟩
  exact g_walk 19 h Tryz.func8
def law10_moved.s2 (Q : (Option Addr) → (Option Addr) → K) (X1 : Int → K) (s4_2 : (Option Addr)) (m6_2 : (Option Addr)) (x8_2 : Addr) (t14_2 : Sl) (t15_2 : Int) (t16_2 : Int) : K :=
  Ld x8_2 Value.string fun t30 =>
  Ld (x8_2.add 1) (Value.int .i64) fun t32 =>
  ref06_Store_Move.call m6_2 t30 t32 fun t33 =>
  Ar (IntKind.wrap .i64 (t16_2 + 1)) fun t34 =>
  X1 t34
def law10_moved.b1 (Q : (Option Addr) → (Option Addr) → K)  (X1 : Int → K) (s4_1 : (Option Addr)) (m6_1 : (Option Addr)) (t14_1 : Sl) (t15_1 : Int) (t16_1 : Int) : K :=
  Ite (decide (t16_1 < t15_1))
    (Idx t14_1 t16_1 2 fun t18 =>
    LdN t18 2 fun t19 =>
    New 107 #[(.string ⟨#[]⟩), (.int .i64 0)] fun x8 =>
    StN x8 2 t19 <|
    Ite (!(s4_1).isNone)
      (Ld x8 Value.string fun t24 =>
      Ld (x8.add 1) (Value.int .i64) fun t26 =>
      store_Store_Move.call s4_1 t24 t26 fun t27 =>
      law10_moved.s2 Q X1 s4_1 m6_1 x8 t14_1 t15_1 t16_1)
      (law10_moved.s2 Q X1 s4_1 m6_1 x8 t14_1 t15_1 t16_1))
    (Q s4_1 m6_1)
def law10_moved (moves0 : Sl) (Q : (Option Addr) → (Option Addr) → K) : K :=
  store_New.call 3 fun t10x0 t10x1 =>
  ref06_New.call 3 fun t13 =>
  LoopK (α := Int) (fun X x => law10_moved.b1 Q X t10x0 t13 moves0 (moves0.n : Int) x) 0
theorem law10_moved_ok (moves0 : Sl) (Q : (Option Addr) → (Option Addr) → K) (w : World) (h : law10_moved moves0 Q w) : law10_moved.call moves0 Q w := by
  have hJ8 : ∀ (X1 : Int → K), XH 4 X1 → JH 8 fun D => ∃ (s4_2 : (Option Addr)) (m6_2 : (Option Addr)) (x8_2 : Addr) (t14_2 : Sl) (t15_2 : Int) (t16_2 : Int), D [(4, (.pointer s4_2)), (6, (.pointer m6_2)), (8, (.pointer (some x8_2))), (14, (Sl.val t14_2)), (15, (.int .i64 t15_2)), (16, (.int .i64 t16_2))] (fun C => C [(4, (.pointer s4_2)), (6, (.pointer m6_2)), (8, (.pointer (some x8_2))), (14, (Sl.val t14_2)), (15, (.int .i64 t15_2)), (16, (.int .i64 t16_2))] (law10_moved.s2 Q X1 s4_2 m6_2 x8_2 t14_2 t15_2 t16_2)) := by intros; exact ⟨fun _ ⟨_, _, _, _, _, _, h⟩ => ⟨_, _, h⟩⟩
  have hL4 : ∀ (s4_1 : (Option Addr)) (m6_1 : (Option Addr)) (t14_1 : Sl) (t15_1 : Int), LH 4 (fun x : Int => [(4, (.pointer s4_1)), (6, (.pointer m6_1)), (14, (Sl.val t14_1)), (15, (.int .i64 t15_1)), (16, (.int .i64 x))]) (fun X x => law10_moved.b1 Q X s4_1 m6_1 t14_1 t15_1 x) := by intros; exact ⟨⟩
  exact g_walk 37 h Tryz.func11
end Go.Proofs.YtfjjocopmknhgaaGreat
/- Marks and records: what route.Look answers; the law's example; moves. -/
namespace Go.Proofs.YtfjjocopmknhgaaGreat
open Go Go.Sep Go.Sep.Bt
set_option linter.unusedSimpArgs false
set_option linter.unusedVariables false
set_option maxRecDepth 100000

def lookS (cnt mc home mh : Int) : Int := if cnt < mc then 1 else if mc = cnt ∧ mh = home then 0 else 2
structure Mv where
  key : ByteArray
  to : Int
def mvF (m : Mv) : List Value := [.string m.key, .int .i64 m.to]
theorem mvF_len (m : Mv) : (mvF m).length = 2 := rfl
def mvGreat (L : List Mv) : Bool := decide (100 < L.length) || L.any fun m => decide (200 < m.key.size)
section
variable {B : World} {Γ Δ : List HProp}
theorem lookHg {hs : Bool} {vl : Sl} {home cnt : Int} {key : ByteArray} {mh mc : Int} {q : Int → K} (h : HG B Γ (q (lookS cnt mc home mh))) :
    HG B Γ (route_Look.call #[.bool hs, vl.val, .int .i64 home, .int .u64 cnt] #[.string key, .int .i64 mh, .int .u64 mc] q) := fun w hw => by
  refine route_Look_ok _ _ _ _ ?_
  refine hg hw ?_
  clear hw w
  unfold route_Look
  refine s_new fun r => ?_
  refine s_new fun m => ?_
  refine s_end (Δ := blk m (.cells [.string key, .int .i64 mh, .int .u64 mc].toArray ty_api_Mark (0, 0)) :: blk r (.cells [.bool hs, vl.val, .int .i64 home, .int .u64 cnt].toArray ty_api_Record (0, 0)) :: Γ) ?_
  refine s_ld (b := m) (x := mc) ?_
  refine s_ld (b := r) (x := cnt) ?_
  refine s_ite (fun hb => ?_) fun hb => ?_
  · have e : lookS cnt mc home mh = 1 := by unfold lookS; rw [if_pos (by simpa using hb)]
    rw [e] at h; exact s_end h
  have hb' : ¬ cnt < mc := by simpa using hb
  refine s_ld (b := m) (x := mc) ?_
  refine s_ld (b := r) (x := cnt) ?_
  refine s_ite (fun hc => ?_) fun hc => ?_
  · have hc' : mc = cnt := by simpa using hc
    refine s_ld (b := m) (x := mh) ?_
    refine s_ld (b := r) (x := home) ?_
    unfold route_Look.s1
    refine s_ite (fun hd => ?_) fun hd => ?_
    · have e : lookS cnt mc home mh = 0 := by unfold lookS; rw [if_neg hb', if_pos ⟨hc', by simpa using hd⟩]
      rw [e] at h; exact s_end h
    · have e : lookS cnt mc home mh = 2 := by unfold lookS; rw [if_neg hb', if_neg fun x => by simp [x.2] at hd]
      rw [e] at h; exact s_end h
  · unfold route_Look.s1
    refine s_f ?_
    have e : lookS cnt mc home mh = 2 := by unfold lookS; rw [if_neg hb', if_neg fun x => by simp [x.1] at hc]
    rw [e] at h; exact s_end h
theorem speaks10 {q : Bool → K} (h : HG B Γ (q true)) : HG B Γ (law10_speaks.call q) := fun w hw => by
  refine law10_speaks_ok _ _ ?_
  refine hg hw ?_
  clear hw w
  unfold law10_speaks
  refine s_new fun r => ?_
  refine s_stN (b := r) (l' := recL ⟨false, [], 1, 2⟩ ⟨none, 0, 0⟩) ?_
  refine s_ldN (b := r) ?_
  refine lookHg (vl := ⟨none, 0, 0⟩) ?_
  refine s_t ?_
  refine s_ldN (b := r) ?_
  refine lookHg (vl := ⟨none, 0, 0⟩) ?_
  refine s_t ?_
  refine s_ldN (b := r) ?_
  refine lookHg (vl := ⟨none, 0, 0⟩) ?_
  refine s_t ?_
  refine s_ldN (b := r) ?_
  refine lookHg (vl := ⟨none, 0, 0⟩) ?_
  exact s_end h
theorem great10 {s : Sl} {L : List Mv} {q : Bool → K} (hr : RdC B s 2 (L.flatMap mvF)) (h : HG B Γ (q (mvGreat L))) : HG B Γ (law10_great.call s q) := fun w hw => by
  refine law10_great_ok _ _ _ ?_
  refine hg hw ?_
  clear hw w
  have hn := rd_len mvF_len (by omega) hr
  unfold law10_great
  refine s_ite (fun hb => ?_) fun hb => ?_
  · have hb' : 100 < L.length := by simp only [decide_eq_true_eq] at hb; omega
    have e : mvGreat L = true := by simp [mvGreat, hb']
    rw [e] at h; exact h
  have hb' : ¬ 100 < L.length := by simp only [decide_eq_false_iff_not] at hb; omega
  refine s_loopC (fun x : Int => ∃ i : Nat, x = (i : Int) ∧ i ≤ L.length ∧ (L.take i).any (fun m => decide (200 < m.key.size)) = false) (fun x => L.length - x.toNat) ⟨0, rfl, Nat.zero_le _, rfl⟩ fun k' x hx hk => ?_
  obtain ⟨i, rfl, hi, ha⟩ := hx
  unfold law10_great.b1
  refine s_ite (fun hlt => ?_) fun hlt => ?_
  · have hil : i < L.length := by simp only [decide_eq_true_eq] at hlt; omega
    refine s_idxN mvF mvF_len (fun w hw => hr.old hw) (List.getElem?_eq_getElem hil) ?_
    refine s_new fun m4 => ?_
    refine s_stN (b := m4) (l' := mvF L[i]) ?_
    refine s_ld (b := m4) (x := L[i].key) ?_
    have ht : (L.take (i + 1)).any (fun m => decide (200 < m.key.size)) = decide (200 < L[i].key.size) := by rw [List.take_succ_eq_append_getElem hil, List.any_append, ha]; simp
    refine s_ite (fun hg => ?_) fun hg => ?_
    · have hg' : 200 < L[i].key.size := by simp only [decide_eq_true_eq] at hg; omega
      have e : mvGreat L = true := by
        have : L.any (fun m => decide (200 < m.key.size)) = true := List.any_eq_true.2 ⟨L[i], List.getElem_mem hil, by simpa using hg'⟩
        simp [mvGreat, this]
      rw [e] at h; exact s_end h
    · have hg' : ¬ 200 < L[i].key.size := by simp only [decide_eq_false_iff_not] at hg; omega
      refine s_ai ?_
      refine s_end ?_ (Δ := Γ)
      exact hk _ ⟨i + 1, by simp, hil, by rw [ht]; simpa using hg'⟩ (by omega)
  · have hil : i = L.length := by simp only [decide_eq_false_iff_not] at hlt; omega
    rw [hil, List.take_length] at ha
    have e : mvGreat L = false := by simp [mvGreat, hb', ha]
    rw [e] at h; exact h
end
end Go.Proofs.YtfjjocopmknhgaaGreat

namespace Go.Proofs.YtfjjocopmknhgaaGreat
open Go Go.Sep Go.RowKit
theorem rdy_mv {w : World} {cs : List Value} (hc : cs.length = 2) (y : Rdy w (.fld 0 1 .str (.fld 1 1 (.int .i64) .nil)) cs) : ∃ x : Mv, cs = mvF x ∧ -9223372036854775808 ≤ x.to ∧ x.to ≤ 9223372036854775807 := by
  match cs, hc with
  | [a, b], _ =>
    obtain ⟨⟨s0, e0, _⟩, ⟨x1, e1, w1⟩, _⟩ := y
    cases e0; cases e1
    simp [Lit.wf, IntKind.min, IntKind.max, IntKind.signed, IntKind.bits] at w1
    exact ⟨⟨s0, x1⟩, rfl, by simp only; omega⟩
theorem rdy_moves {W : World} {s : Sl} (y0 : Rdy W Sh_ty_s_argosylaw10_Move (Sl.val s).cells.toList) : ∃ L : List Mv, RdC W s 2 (L.flatMap mvF) ∧ ∀ x ∈ L, -9223372036854775808 ≤ x.to ∧ x.to ≤ 9223372036854775807 := by
  obtain ⟨h1, h2⟩ := rdy_sl y0
  obtain ⟨L, _, hL, hd⟩ := rd_list mvF (fun x => -9223372036854775808 ≤ x.to ∧ x.to ≤ 9223372036854775807) mvF_len h1 h2 fun cs hc hr => rdy_mv hc hr
  exact ⟨L, hL, hd⟩
end Go.Proofs.YtfjjocopmknhgaaGreat
/- Maps: what a map of one's own does, as a list of keys and values. -/
namespace Go.Sep
open Go Go.RowKit Go.MapKept
set_option linter.unusedSimpArgs false
set_option linter.unusedVariables false
set_option linter.unusedSectionVars false

section
variable {α β : Type} [DecidableEq α]
def mget (k : α) : List (α × β) → Option β
  | [] => none
  | p :: m => if k = p.1 then some p.2 else mget k m
def mset (k : α) (v : β) : List (α × β) → List (α × β)
  | [] => [(k, v)]
  | p :: m => if k = p.1 then (k, v) :: m else p :: mset k v m
def mdel (k : α) : List (α × β) → List (α × β)
  | [] => []
  | p :: m => if k = p.1 then m else p :: mdel k m

theorem mfind (k : α) : ∀ m : List (α × β), (mget k m = none ∧ (∀ v, mset k v m = m ++ [(k, v)]) ∧ mdel k m = m ∧ ∀ p ∈ m, p.1 ≠ k) ∨
    ∃ j x, j < m.length ∧ m[j]? = some (k, x) ∧ (∀ i, i < j → ∀ p, m[i]? = some p → p.1 ≠ k) ∧ mget k m = some x ∧ (∀ v, mset k v m = m.set j (k, v)) ∧ mdel k m = m.eraseIdx j
  | [] => .inl ⟨rfl, fun _ => rfl, rfl, by simp⟩
  | p :: m => by
    by_cases hk : k = p.1
    · refine .inr ⟨0, p.2, by simp, by rw [hk]; rfl, fun i hi => by omega, by simp [mget, hk], fun v => by simp [mset, hk], by simp [mdel, hk]⟩
    · rcases mfind k m with ⟨h1, h2, h3, h4⟩ | ⟨j, x, hj, h0, hb, h1, h2, h3⟩
      · refine .inl ⟨by simp [mget, hk, h1], fun v => by simp [mset, hk, h2], by simp [mdel, hk, h3], fun q hq => ?_⟩
        rcases List.mem_cons.1 hq with rfl | hq
        · exact fun e => hk e.symm
        · exact h4 q hq
      · refine .inr ⟨j + 1, x, by simpa using hj, by simpa using h0, fun i hi q hq => ?_, by simp [mget, hk, h1], fun v => by simp [mset, hk, h2], by simp [mdel, hk, h3]⟩
        cases i with
        | zero => simp at hq; subst hq; exact fun e => hk e.symm
        | succ i => exact hb i (by omega) q (by simpa using hq)
end

/-- A way to write keys. -/
structure KeyE {α : Type} (d : TypeDesc) (enc : α → Value) : Prop where
  key : ∀ a, IsKey d (enc a)
  inj : ∀ a b, enc a = enc b → a = b
  bits : ∀ a, Instr.sameBits 10000 (enc a) (enc a) = true
theorem keyE_int (k : IntKind) : KeyE (.int k) (Value.int k) := ⟨fun _ => rfl, fun a b h => by injection h, fun a => by simp [Instr.sameBits]⟩
theorem keyE_string : KeyE .string Value.string := ⟨fun _ => trivial, fun a b h => by injection h, fun a => by
  show (a == a) = true
  rw [bytes_beq]⟩

section
variable {α β : Type} [DecidableEq α] {P : Program} {B w : World} {Γ : List HProp} {enc : α → Value} {cV : β → Value}

def mrel (enc : α → Value) (cV : β → Value) (es : Array MapEntry) (m : List (α × β)) : Prop := es.toList.map (fun e => (e.key, e.val)) = m.map fun p => (enc p.1, cV p.2)
/-- The entries' stamps are unlike, and below the clock. -/
def stamps (es : Array MapEntry) (c : Nat) : Prop := (es.toList.map (·.born)).Nodup ∧ ∀ e ∈ es.toList, e.born < c
theorem stamps_nil (c : Nat) : stamps #[] c := ⟨by simp, by simp⟩
theorem stamps_push {es : Array MapEntry} {c : Nat} (h : stamps es c) (k v : Value) : stamps (es.push { key := k, val := v, born := c }) (c + 1) := by
  refine ⟨?_, fun e he => ?_⟩
  · simp only [Array.toList_push, List.map_append, List.map_cons, List.map_nil]
    rw [List.nodup_append]
    refine ⟨h.1, by simp, fun x hx y hy => ?_⟩
    simp only [List.mem_singleton] at hy
    subst hy
    obtain ⟨e, he, rfl⟩ := List.mem_map.1 hx
    have := h.2 e he
    omega
  · simp only [Array.toList_push] at he
    rcases List.mem_append.1 he with he | he
    · have := h.2 e he; omega
    · simp only [List.mem_singleton] at he; subst he; exact Nat.lt_succ_self _
theorem stamps_modify {es : Array MapEntry} {c : Nat} (h : stamps es c) (j : Nat) (k v : Value) : stamps (es.modify j fun e => { e with key := k, val := v }) c := by
  have e1 : (es.modify j fun e => { e with key := k, val := v }).toList.map (·.born) = es.toList.map (·.born) := by
    apply List.ext_getElem?
    intro i
    simp only [List.getElem?_map, Array.getElem?_toList, Array.getElem?_modify]
    split
    · cases es[i]? <;> rfl
    · rfl
  refine ⟨by rw [e1]; exact h.1, fun e he => ?_⟩
  have : e.born ∈ es.toList.map (·.born) := by rw [← e1]; exact List.mem_map_of_mem he
  obtain ⟨e', he', hb⟩ := List.mem_map.1 this
  rw [← hb]; exact h.2 e' he'
theorem stamps_erase {es : Array MapEntry} {c : Nat} (h : stamps es c) (j : Nat) : stamps (es.eraseIdxIfInBounds j) c := by
  have hs : List.Sublist (es.eraseIdxIfInBounds j).toList es.toList := by
    unfold Array.eraseIdxIfInBounds
    split
    · rw [Array.toList_eraseIdx]; exact List.eraseIdx_sublist _ _
    · exact List.Sublist.refl _
  exact ⟨h.1.sublist (hs.map _), fun e he => h.2 e (hs.subset he)⟩
def MapR (enc : α → Value) (cV : β → Value) (b : Nat) (m : List (α × β)) : HProp := ex fun es : Array MapEntry => ex fun c : Nat => fun g => (mrel enc cV es m ∧ stamps es c) ∧ blk b (.map es c) g

theorem MapR.opens {b : Nat} {m : List (α × β)} (h : Holds B (MapR enc cV b m :: Γ) w) : ∃ es c, (mrel enc cV es m ∧ stamps es c) ∧ Holds B (blk b (.map es c) :: Γ) w := by
  obtain ⟨es, h⟩ := Holds.ex.1 h
  obtain ⟨c, h⟩ := Holds.ex.1 h
  exact ⟨es, c, h.fact fun g hg => hg.1, h.imp fun g hg => hg.2⟩
theorem MapR.shuts {b : Nat} {m : List (α × β)} {es : Array MapEntry} {c : Nat} (hr : mrel enc cV es m ∧ stamps es c) (h : Holds B (blk b (.map es c) :: Γ) w) : Holds B (MapR enc cV b m :: Γ) w :=
  Holds.ex.2 ⟨es, Holds.ex.2 ⟨c, h.imp fun g hg => ⟨hr, hg⟩⟩⟩

theorem mrel_at {es : Array MapEntry} {m : List (α × β)} (hr : mrel enc cV es m) (i : Nat) : (es.toList[i]?).map (fun e => (e.key, e.val)) = (m[i]?).map fun p => (enc p.1, cV p.2) := by
  have := congrArg (·[i]?) hr
  simpa using this
theorem mrel_keys {d : TypeDesc} (hE : KeyE d enc) {es : Array MapEntry} {m : List (α × β)} (hr : mrel enc cV es m) : ∀ x ∈ es.toList, IsKey d x.key := by
  intro x hx
  have : (x.key, x.val) ∈ m.map fun p => (enc p.1, cV p.2) := by rw [← hr]; exact List.mem_map_of_mem hx
  obtain ⟨p, _, hp⟩ := List.mem_map.1 this
  have : enc p.1 = x.key := congrArg Prod.fst hp
  rw [← this]; exact hE.key _

/-- Where a key is found. -/
theorem mfound {d : TypeDesc} (hE : KeyE d enc) {es : Array MapEntry} {m : List (α × β)} (hr : mrel enc cV es m) (k : α) :
    (Instr.findNow d (enc k) es.toList 0 = some none ∧ mget k m = none ∧ (∀ v, mset k v m = m ++ [(k, v)]) ∧ mdel k m = m) ∨
    ∃ j x, Instr.findNow d (enc k) es.toList 0 = some (some (j, cV x)) ∧ j < m.length ∧ m[j]? = some (k, x) ∧ mget k m = some x ∧ (∀ v, mset k v m = m.set j (k, v)) ∧ mdel k m = m.eraseIdx j := by
  have hlen : es.toList.length = m.length := by have := congrArg List.length hr; simpa using this
  rcases mfind k m with ⟨h1, h2, h3, h4⟩ | ⟨j, x, hj, h0, hb, h1, h2, h3⟩
  · refine .inl ⟨?_, h1, h2, h3⟩
    rcases findNow_spec (hE.key k) es.toList 0 (mrel_keys hE hr) with ⟨g1, _⟩ | ⟨i, e, g1, g2, g3⟩
    · exact g1
    · have := mrel_at hr i
      rw [g2] at this
      cases hm : m[i]? with
      | none => rw [hm] at this; simp at this
      | some p =>
        rw [hm] at this
        simp only [Option.map_some, Option.some.injEq, Prod.mk.injEq] at this
        exact absurd (hE.inj _ _ (this.1.symm.trans g3)) (h4 p (List.mem_of_getElem? hm))
  · have key : ∀ (l : List MapEntry) (m : List (α × β)) (j i : Nat), l.map (fun e => (e.key, e.val)) = m.map (fun p => (enc p.1, cV p.2)) → m[j]? = some (k, x) → (∀ i, i < j → ∀ p, m[i]? = some p → p.1 ≠ k) →
        Instr.findNow d (enc k) l i = some (some (i + j, cV x)) := by
      intro l
      induction l with
      | nil => intro m j i hr hm _; cases m <;> simp at hr hm
      | cons e l ih =>
        intro m j i hr hm hb
        cases m with
        | nil => simp at hr
        | cons p m =>
          simp only [List.map_cons, List.cons.injEq, Prod.mk.injEq] at hr
          obtain ⟨⟨e1, e2⟩, hr⟩ := hr
          obtain ⟨r, hs, hiff⟩ := sameNow_of_keys (hE.key k) (hE.key p.1)
          unfold Instr.findNow
          rw [e1, hs]
          cases j with
          | zero =>
            simp only [List.getElem?_cons_zero, Option.some.injEq] at hm
            subst hm
            have : r = true := hiff.2 rfl
            subst this
            simp only [e2, Nat.add_zero]
          | succ j =>
            have hne : p.1 ≠ k := hb 0 (by omega) p rfl
            have : r = false := by
              cases r with
              | false => rfl
              | true => exact absurd (hE.inj _ _ (hiff.1 rfl)) (fun e => hne e.symm)
            subst this
            simp only
            rw [ih m j (i + 1) hr (by simpa using hm) (fun i' hi' q hq => hb (i' + 1) (by omega) q (by simpa using hq))]
            congr 3; omega
    refine .inr ⟨j, x, ?_, hj, h0, h1, h2, h3⟩
    have := key es.toList m j 0 hr h0 hb
    rwa [Nat.zero_add] at this

/-- A map type, its key's kind and its element. -/
def mapIs (P : Program) (T : TypeId) (d : TypeDesc) (E : TypeId) : Prop := ∃ kt, P.underlying T = some (.map kt E) ∧ P.underlying kt = some d

theorem r_mkMap {T : TypeId} {d : TypeDesc} {E : TypeId} {k : Option Nat → K} (h : Holds B Γ w) (hk : ∀ b w, Holds B (MapR enc cV b [] :: Γ) w → k (some b) w) :
    Do P (Instr.makeMap T none) Value.map k w := by
  refine ⟨some w.heap.size, { w with heap := w.heap.push (.map #[] 0) }, rfl, hk _ _ (MapR.shuts (es := #[]) (c := 0) ⟨rfl, stamps_nil 0⟩ (h.alloc _))⟩

theorem run_look {T E : TypeId} {d : TypeDesc} {b : Nat} {m : List (α × β)} {z : β} {a : α} (hT : mapIs P T d E) (hE : KeyE d enc) (hz : zeroT P E (cV z)) {es : Array MapEntry} {c : Nat} (hb : w.heap[b]? = some (.map es c)) (hr : mrel enc cV es m) (ok : Bool) :
    (Instr.lookup T (.map (some b)) (enc a) ok).run P w = .ok (if ok then .tuple #[cV ((mget a m).getD z), .bool (mget a m).isSome] else cV ((mget a m).getD z)) w := by
  obtain ⟨kt, hT, hd⟩ := hT
  unfold Instr.lookup
  simp only [Sem.run_bind, run_underlying hT, Result.andThen, MapKept.run_getObj_map hb, run_checkKey hd (hE.key a), Sem.run_pure]
  rcases mfound hE hr a with ⟨h1, h2, _⟩ | ⟨j, x, h1, _, _, h2, _⟩
  · simp only [run_findKey hd h1, Result.andThen, Sem.run_bind, zeroT_spec hz, Sem.run_pure, h2]
    cases ok <;> rfl
  · simp only [run_findKey hd h1, Result.andThen, Sem.run_bind, Sem.run_pure, h2]
    cases ok <;> rfl

theorem r_look2 {T E : TypeId} {d : TypeDesc} {b : Nat} {m : List (α × β)} {z : β} {a : α} {k : β → Bool → K} (hT : mapIs P T d E) (hE : KeyE d enc) (hz : zeroT P E (cV z)) (h : Holds B (MapR enc cV b m :: Γ) w)
    (hk : k ((mget a m).getD z) (mget a m).isSome w) : Rd2 P (Instr.lookup T (.map (some b)) (enc a) true) (fun x y => .tuple #[cV x, .bool y]) k w := by
  obtain ⟨es, c, ⟨hr, hst⟩, h⟩ := MapR.opens h
  exact ⟨_, _, run_look hT hE hz h.block hr true, hk⟩
theorem r_look1 {T E : TypeId} {d : TypeDesc} {b : Nat} {m : List (α × β)} {z : β} {a : α} {k : β → K} (hT : mapIs P T d E) (hE : KeyE d enc) (hz : zeroT P E (cV z)) (h : Holds B (MapR enc cV b m :: Γ) w)
    (hk : k ((mget a m).getD z) w) : Rd P (Instr.lookup T (.map (some b)) (enc a) false) cV k w := by
  obtain ⟨es, c, ⟨hr, hst⟩, h⟩ := MapR.opens h
  exact ⟨_, run_look hT hE hz h.block hr false, hk⟩

theorem Holds.setMap {b : Nat} {es es' : Array MapEntry} {c c' : Nat} (h : Holds B (blk b (.map es c) :: Γ) w) : (setObj b (.map es' c')).run P w = .ok () { w with heap := w.heap.setIfInBounds b (.map es' c') } ∧
    Holds B (blk b (.map es' c') :: Γ) { w with heap := w.heap.setIfInBounds b (.map es' c') } :=
  ⟨run_setObj_map _ h.block, h.setBlock rfl⟩

theorem r_look2g {γ : Type} {cG : γ → Value} {g : β → γ} {T E : TypeId} {d : TypeDesc} {b : Nat} {m : List (α × β)} {z : β} {a : α} {k : γ → Bool → K} (hc : ∀ x, cV x = cG (g x)) (hT : mapIs P T d E) (hE : KeyE d enc) (hz : zeroT P E (cV z)) (h : Holds B (MapR enc cV b m :: Γ) w)
    (hk : k (g ((mget a m).getD z)) (mget a m).isSome w) : Rd2 P (Instr.lookup T (.map (some b)) (enc a) true) (fun x y => .tuple #[cG x, .bool y]) k w := by
  obtain ⟨es, c, ⟨hr, hst⟩, h⟩ := MapR.opens h
  have := run_look (a := a) hT hE hz h.block hr true
  exact ⟨g ((mget a m).getD z), _, by rw [hc] at this; exact this, hk⟩

theorem r_upd {T E : TypeId} {d : TypeDesc} {b : Nat} {m : List (α × β)} {a : α} {v : β} {k : K} (hT : mapIs P T d E) (hE : KeyE d enc) (h : Holds B (MapR enc cV b m :: Γ) w)
    (hk : ∀ w', Holds B (MapR enc cV b (mset a v m) :: Γ) w' → k w') : DoU P (Instr.mapUpdate T (.map (some b)) (enc a) (cV v)) k w := by
  obtain ⟨kt, hT, hd⟩ := hT
  obtain ⟨es, c, ⟨hr, hst⟩, h⟩ := MapR.opens h
  have hb := h.block
  have hlen : es.size = m.length := by have := congrArg List.length hr; simpa using this
  unfold Instr.mapUpdate DoU
  simp only [Sem.run_bind, run_underlying hT, Result.andThen, MapKept.run_getObj_map hb, run_checkKey hd (hE.key a)]
  rcases mfound hE hr a with ⟨h1, _, h2, _⟩ | ⟨j, x, h1, hj, h0, _, h2, _⟩
  · simp only [run_findKey hd h1, Result.andThen]
    obtain ⟨e1, h3⟩ := h.setMap (P := P) (es' := es.push { key := enc a, val := cV v, born := c }) (c' := c + 1)
    refine ⟨_, _, e1, hk _ (MapR.shuts ⟨?_, stamps_push hst _ _⟩ h3)⟩
    rw [h2]
    simp only [mrel, Array.toList_push, List.map_append, List.map_cons, List.map_nil]
    rw [show es.toList.map (fun e => (e.key, e.val)) = _ from hr]
  · have hes : ∃ e, es.toList[j]? = some e ∧ e.key = enc a := by
      have := mrel_at hr j
      rw [h0] at this
      cases he : es.toList[j]? with
      | none => rw [he] at this; simp at this
      | some e =>
        rw [he] at this
        simp only [Option.map_some, Option.some.injEq, Prod.mk.injEq] at this
        exact ⟨e, rfl, this.1⟩
    obtain ⟨e, he, hek⟩ := hes
    have he2 : es[j]? = some e := by rw [← he, Array.getElem?_toList]
    simp only [run_findKey hd h1, Result.andThen, Sem.run_bind, he2, Option.map_some, Option.getD_some, hek, Instr.keyThatStays, hE.bits, if_true, Sem.run_pure]
    obtain ⟨e1, h3⟩ := h.setMap (P := P) (es' := es.modify j fun e => { e with key := enc a, val := cV v }) (c' := c)
    refine ⟨_, _, e1, hk _ (MapR.shuts ⟨?_, stamps_modify hst _ _ _⟩ h3)⟩
    rw [h2]
    simp only [mrel]
    apply List.ext_getElem?
    intro i
    have hi := mrel_at hr i
    simp only [List.getElem?_map, Array.getElem?_toList, Array.getElem?_modify] at hi ⊢
    by_cases hij : j = i
    · subst hij
      rw [List.getElem?_set_self hj, he2]
      simp
    · rw [List.getElem?_set_ne hij, if_neg hij]
      exact hi

theorem r_mdelete {T KT E t : TypeId} {d : TypeDesc} {b : Nat} {m : List (α × β)} {a : α} {k : Value → K} (hT : mapIs P T d E) (hE : KeyE d enc) (h : Holds B (MapR enc cV b m :: Γ) w)
    (hk : ∀ w', Holds B (MapR enc cV b (mdel a m) :: Γ) w' → k (.tuple #[]) w') : Do P (Builtin.delete_ #[T, KT] t #[.map (some b), enc a]) id k w := by
  obtain ⟨kt, hT, hd⟩ := hT
  obtain ⟨es, c, ⟨hr, hst⟩, h⟩ := MapR.opens h
  have hb := h.block
  have hlen : es.size = m.length := by have := congrArg List.length hr; simpa using this
  have e0 : #[T, KT][0]? = some T := rfl
  have e1 : #[Value.map (some b), enc a][0]? = some (.map (some b)) := rfl
  have e2 : #[Value.map (some b), enc a][1]? = some (enc a) := rfl
  unfold Builtin.delete_ Do
  simp only [e0, e1, e2, Sem.run_bind, run_underlying hT, Result.andThen, MapKept.run_getObj_map hb, run_checkKey hd (hE.key a)]
  rcases mfound hE hr a with ⟨h1, _, _, h2⟩ | ⟨j, x, h1, hj, h0, _, _, h2⟩
  · simp only [run_findKey hd h1, Result.andThen, Sem.run_bind]
    obtain ⟨e3, h3⟩ := h.setMap (P := P) (es' := es) (c' := c)
    refine ⟨.tuple #[], _, ?_, hk _ (MapR.shuts ⟨?_, hst⟩ h3)⟩
    · simp only [Sem.run_bind, e3, Result.andThen, Sem.run_pure]; rfl
    rw [h2]; exact hr
  · simp only [run_findKey hd h1, Result.andThen, Sem.run_bind]
    obtain ⟨e3, h3⟩ := h.setMap (P := P) (es' := es.eraseIdxIfInBounds j) (c' := c)
    refine ⟨.tuple #[], _, ?_, hk _ (MapR.shuts ⟨?_, stamps_erase hst _⟩ h3)⟩
    · simp only [Sem.run_bind, e3, Result.andThen, Sem.run_pure]; rfl
    rw [h2]
    have hjs : j < es.size := by omega
    simp only [mrel, Array.eraseIdxIfInBounds, dif_pos hjs, Array.toList_eraseIdx]
    have mape : ∀ {α β : Type} (f : α → β) (l : List α) (i : Nat), (l.eraseIdx i).map f = (l.map f).eraseIdx i := by
      intro α β f l
      induction l with
      | nil => intro i; simp
      | cons x l ih => intro i; cases i <;> simp [ih]
    rw [mape, mape, show es.toList.map (fun e => (e.key, e.val)) = _ from hr]

theorem r_mclear {T t : TypeId} {d : TypeDesc} {E : TypeId} {b : Nat} {m : List (α × β)} {k : Value → K} (hT : mapIs P T d E) (h : Holds B (MapR enc cV b m :: Γ) w)
    (hk : ∀ w', Holds B (MapR enc cV b [] :: Γ) w' → k (.tuple #[]) w') : Do P (Builtin.clear_ #[T] t #[.map (some b)]) id k w := by
  obtain ⟨kt, hT, hd⟩ := hT
  obtain ⟨es, c, ⟨hr, hst⟩, h⟩ := MapR.opens h
  have hb := h.block
  have e0 : #[T][0]? = some T := rfl
  have e1 : #[Value.map (some b)][0]? = some (.map (some b)) := rfl
  unfold Builtin.clear_ Do
  simp only [e0, e1, Sem.run_bind, run_underlying hT, Result.andThen, MapKept.run_getObj_map hb]
  obtain ⟨e3, h3⟩ := h.setMap (P := P) (es' := #[]) (c' := c)
  exact ⟨.tuple #[], _, by simp only [Sem.run_bind, e3, Result.andThen, Sem.run_pure]; rfl, hk _ (MapR.shuts (es := #[]) (m := []) ⟨rfl, stamps_nil _⟩ h3)⟩
end
section
variable {α β γ : Type} [DecidableEq α]
theorem mget_map (g : β → γ) (k : α) : ∀ m : List (α × β), mget k (m.map fun p => (p.1, g p.2)) = (mget k m).map g
  | [] => rfl
  | p :: m => by
    simp only [List.map_cons, mget]
    split
    · rfl
    · exact mget_map g k m
theorem mdel_map (g : β → γ) (k : α) : ∀ m : List (α × β), mdel k (m.map fun p => (p.1, g p.2)) = (mdel k m).map fun p => (p.1, g p.2)
  | [] => rfl
  | p :: m => by
    simp only [List.map_cons, mdel]
    split
    · rfl
    · rw [List.map_cons, mdel_map g k m]
theorem mset_map (g : β → γ) (k : α) (v : β) : ∀ m : List (α × β), mset k (g v) (m.map fun p => (p.1, g p.2)) = (mset k v m).map fun p => (p.1, g p.2)
  | [] => rfl
  | p :: m => by
    simp only [List.map_cons, mset]
    split
    · rfl
    · rw [List.map_cons, mset_map g k v m]
theorem mset_none {k : α} {v : β} {m : List (α × β)} (h : mget k m = none) : mset k v m = m ++ [(k, v)] := by
  rcases mfind k m with ⟨_, h2, _⟩ | ⟨_, _, _, _, _, h1, _⟩
  · exact h2 v
  · rw [h] at h1; cases h1
theorem mdel_len {k : α} {m : List (α × β)} {x : β} (h : mget k m = some x) : (mdel k m).length + 1 = m.length := by
  rcases mfind k m with ⟨h1, _⟩ | ⟨j, _, hj, _, _, _, _, h2⟩
  · rw [h] at h1; cases h1
  · rw [h2, List.length_eraseIdx, if_pos hj]; omega
end
end Go.Sep
/- Maps of one's own, and lists of what is owned. Holds for every program. -/
namespace Go.Sep
open Go Go.RowKit
set_option linter.unusedSimpArgs false
set_option linter.unusedVariables false
section
variable {α β : Type} [DecidableEq α] {P : Program} {B w : World} {Γ Δ : List HProp} {enc : α → Value} {cV : β → Value} {k : K}
instance (priority := high) own_map {α β : Type} [DecidableEq α] {enc : α → Value} {cV : β → Value} {b : Nat} {m : List (α × β)} {Γ : List HProp} : Own b (MapR enc cV b m :: Γ) (MapR enc cV b m) Γ := ⟨.refl _⟩
theorem s_mkMap {T : TypeId} {k : Option Nat → K} (h : ∀ b, HG B (MapR enc cV b [] :: Γ) (k (some b))) : HG B Γ (Do P (Instr.makeMap T none) Value.map k) := fun w hw => by
  refine ⟨some w.heap.size, { w with heap := w.heap.push (.map #[] 0) }, rfl, h _ _ (MapR.shuts (es := #[]) (c := 0) ⟨rfl, stamps_nil 0⟩ (hw.alloc _))⟩
theorem s_look2 {γ : Type} {cG : γ → Value} {g : β → γ} {T E : TypeId} {d : TypeDesc} {b : Nat} {m : List (α × β)} {z : β} {a : α} {k : γ → Bool → K} (hc : ∀ x, cV x = cG (g x)) (hT : mapIs P T d E) (hE : KeyE d enc) (hz : zeroT P E (cV z)) (h : HG B Γ (k (g ((mget a m).getD z)) (mget a m).isSome)) [p : Own b Γ (MapR enc cV b m) Δ] :
    HG B Γ (Rd2 P (Instr.lookup T (.map (some b)) (enc a) true) (fun x y => .tuple #[cG x, .bool y]) k) := fun w hw => r_look2g hc hT hE hz (hw.perm p.perm) (h w hw)
theorem s_look1 {γ : Type} {cG : γ → Value} {g : β → γ} {T E : TypeId} {d : TypeDesc} {b : Nat} {m : List (α × β)} {z : β} {a : α} {k : γ → K} (hc : ∀ x, cV x = cG (g x)) (hT : mapIs P T d E) (hE : KeyE d enc) (hz : zeroT P E (cV z)) (h : HG B Γ (k (g ((mget a m).getD z)))) [p : Own b Γ (MapR enc cV b m) Δ] :
    HG B Γ (Rd P (Instr.lookup T (.map (some b)) (enc a) false) cG k) := fun w hw => by
  obtain ⟨x, hx, hk⟩ := r_look1 (P := P) (T := T) (a := a) (k := fun y w => y = (mget a m).getD z ∧ k (g y) w) hT hE hz (hw.perm p.perm) ⟨rfl, h w hw⟩
  obtain ⟨rfl, hk⟩ := hk
  exact ⟨_, by rw [hx, hc], hk⟩
theorem s_upd {γ : Type} {cG : γ → Value} {T E : TypeId} {d : TypeDesc} {b : Nat} {m : List (α × β)} {a : α} {v : β} {x : Value} (hx : x = cV v) (hT : mapIs P T d E) (hE : KeyE d enc) (h : HG B (MapR enc cV b (mset a v m) :: Δ) k) [p : Own b Γ (MapR enc cV b m) Δ] :
    HG B Γ (DoU P (Instr.mapUpdate T (.map (some b)) (enc a) x) k) := fun w hw => by subst hx; exact r_upd hT hE (hw.perm p.perm) fun w' h' => h w' h'
theorem s_mdelete {T KT E t : TypeId} {d : TypeDesc} {b : Nat} {m : List (α × β)} {a : α} {k : Value → K} (hT : mapIs P T d E) (hE : KeyE d enc) (h : HG B (MapR enc cV b (mdel a m) :: Δ) (k (.tuple #[]))) [p : Own b Γ (MapR enc cV b m) Δ] :
    HG B Γ (Do P (Builtin.delete_ #[T, KT] t #[.map (some b), enc a]) id k) := fun w hw => r_mdelete hT hE (hw.perm p.perm) fun w' h' => h w' h'
theorem s_bldF {zero : Array Value} {pl : Nat → Option (Nat × Nat)} {vs : List (Nat × Value)} {cs : List Value} {k : Array Value → K} (h : HG B Γ (k cs.toArray)) (hc : Instr.fill pl zero vs = some cs.toArray := by rfl) : HG B Γ (Bld zero pl vs k) := fun w hw => ⟨_, hc, h w hw⟩
/-- What is owned of each entry, when one is set. -/
theorem s_mset {F : α × β → HProp} {m : List (α × β)} {a : α} {v : β} (h : HG B (Sep.stars ((mset a v m).map F) :: Γ) k) : HG B (F (a, v) :: Sep.stars (m.map F) :: Γ) k := by
  rcases mfind a m with ⟨_, h2, _, _⟩ | ⟨j, x, hj, h0, _, _, h2, _⟩
  · rw [h2 v] at h
    have e : m = m ++ [] := by simp
    rw [e]
    exact s_unmid (A := m) (C := []) (x := (a, v)) h
  · rw [h2 v] at h
    have hj' := List.getElem?_eq_some_iff.1 h0
    have e1 : m = m.take j ++ (a, x) :: m.drop (j + 1) := by
      obtain ⟨h3, h4⟩ := hj'
      rw [← h4, ← List.drop_eq_getElem_cons h3, List.take_append_drop]
    have e2 : m.set j (a, v) = m.take j ++ (a, v) :: m.drop (j + 1) := by
      rw [List.set_eq_take_append_cons_drop, if_pos hj]
    rw [e2] at h
    rw [e1]
    refine s_swap ?_
    refine s_mid ?_
    refine s_end (Δ := F (a, v) :: Sep.stars ((m.take j ++ m.drop (j + 1)).map F) :: Γ) ?_
    exact s_unmid h
theorem mget_mset (m : List (α × β)) (a a' : α) (v : β) : mget a' (mset a v m) = if a' = a then some v else mget a' m := by
  induction m with
  | nil => simp [mset, mget]
  | cons p m ih =>
    unfold mset
    split
    · rename_i h
      subst h
      by_cases h2 : a' = p.1 <;> simp [mget, h2]
    · rename_i h
      by_cases h2 : a' = p.1
      · simp [mget, h2]
        intro h3; exact absurd h3.symm h
      · simp [mget, h2, ih]
theorem mset_keys (m : List (α × β)) (a : α) (v : β) : (mset a v m).map Prod.fst = if a ∈ m.map Prod.fst then m.map Prod.fst else m.map Prod.fst ++ [a] := by
  induction m with
  | nil => simp [mset]
  | cons p m ih =>
    unfold mset
    split
    · rename_i h; simp [h]
    · rename_i h
      simp only [List.map_cons, ih, List.mem_cons, h, false_or]
      split <;> simp
theorem mget_some {m : List (α × β)} {a : α} {v : β} (h : mget a m = some v) : (a, v) ∈ m := by
  induction m with
  | nil => cases h
  | cons p m ih =>
    unfold mget at h
    split at h
    · rename_i h1; injection h with h; subst h1; subst h; exact List.mem_cons_self
    · exact List.mem_cons_of_mem _ (ih h)
end
end Go.Sep
/- Steps that ask for no word of mine: what a word reads, and what it leaves, is found by classes. Holds for every program. -/
namespace Go.Sep
open Go Go.RowKit
set_option linter.unusedSimpArgs false
set_option linter.unusedVariables false

/-- From k over Γ one step leads to j over Δ. -/
class Nx (B : World) (Γ : List HProp) (k : K) (Δ : outParam (List HProp)) (j : outParam K) : Prop where h : HG B Δ j → HG B Γ k
class NthV (l : List Value) (n : Nat) (v : outParam Value) : Prop where h : nth l n = some v
class Cv {α : Type} (c : α → Value) (v : Value) (x : outParam α) : Prop where h : v = c x
class SetV (l : List Value) (n : Nat) (v : Value) (l' : outParam (List Value)) : Prop where h : l.set n v = l' ∧ n < l.length
class TakeV (l : List Value) (m n : Nat) (l' : outParam (List Value)) : Prop where h : (l.drop m).take n = l' ∧ l'.length = n
class FlatV (v : Value) : Prop where h : flatV v = true
class FlatL (l : List Value) : Prop where h : l.all flatV = true
class LenV (l : List Value) (n : outParam Nat) : Prop where h : l.length = n
class BoolV (b : Bool) (v : outParam Bool) : Prop where h : b = v
instance nthV0 {v : Value} {l : List Value} : NthV (v :: l) 0 v := ⟨rfl⟩
instance nthV1 {v u : Value} {l : List Value} {n : Nat} [h : NthV l n v] : NthV (u :: l) (n + 1) v := ⟨h.h⟩
instance cvBool {b : Bool} : Cv Value.bool (.bool b) b := ⟨rfl⟩
instance cvInt {k : IntKind} {n : Int} : Cv (Value.int k) (.int k n) n := ⟨rfl⟩
instance cvStr {b : ByteArray} : Cv Value.string (.string b) b := ⟨rfl⟩
instance cvPtr {p : Option Addr} : Cv Value.pointer (.pointer p) p := ⟨rfl⟩
instance cvMap {p : Option Nat} : Cv Value.map (.map p) p := ⟨rfl⟩
instance (priority := high) cvSl {s : Sl} : Cv Sl.val s.val s := ⟨rfl⟩
instance cvSl2 {a : Option Addr} {n c : Nat} : Cv Sl.val (.slice a n c) ⟨a, n, c⟩ := ⟨rfl⟩
instance cvId {v : Value} : Cv id v v := ⟨rfl⟩
instance cvAgg {v : Array Value} : Cv Value.agg (.agg v) v := ⟨rfl⟩
instance setV0 {v u : Value} {l : List Value} : SetV (u :: l) 0 v (v :: l) := ⟨⟨rfl, Nat.zero_lt_succ _⟩⟩
instance setV1 {v u : Value} {l l' : List Value} {n : Nat} [h : SetV l n v l'] : SetV (u :: l) (n + 1) v (u :: l') := ⟨⟨by rw [List.set_cons_succ, h.h.1], Nat.succ_lt_succ h.h.2⟩⟩
instance takeV0 {l : List Value} : TakeV l 0 0 [] := ⟨⟨rfl, rfl⟩⟩
instance takeV1 {u : Value} {l l' : List Value} {n : Nat} [h : TakeV l 0 n l'] : TakeV (u :: l) 0 (n + 1) (u :: l') := ⟨⟨by have := h.h.1; rw [List.drop_zero] at this ⊢; rw [List.take_succ_cons, this], by rw [List.length_cons, h.h.2]⟩⟩
instance takeV2 {u : Value} {l l' : List Value} {m n : Nat} [h : TakeV l m n l'] : TakeV (u :: l) (m + 1) n l' := ⟨h.h⟩
instance flatVB {b : Bool} : FlatV (.bool b) := ⟨rfl⟩
instance flatVI {k : IntKind} {n : Int} : FlatV (.int k n) := ⟨rfl⟩
instance flatVS {b : ByteArray} : FlatV (.string b) := ⟨rfl⟩
instance flatVP {p : Option Addr} : FlatV (.pointer p) := ⟨rfl⟩
instance flatVM {p : Option Nat} : FlatV (.map p) := ⟨rfl⟩
instance flatVSl {a : Option Addr} {n c : Nat} : FlatV (.slice a n c) := ⟨rfl⟩
instance flatL0 : FlatL [] := ⟨rfl⟩
instance flatL1 {v : Value} {l : List Value} [h : FlatV v] [g : FlatL l] : FlatL (v :: l) := ⟨by rw [List.all_cons, h.h, g.h]; rfl⟩
instance lenV0 : LenV [] 0 := ⟨rfl⟩
instance lenV1 {v : Value} {l : List Value} {n : Nat} [h : LenV l n] : LenV (v :: l) (n + 1) := ⟨by rw [List.length_cons, h.h]⟩
instance boolVT : BoolV true true := ⟨rfl⟩
instance boolVF : BoolV false false := ⟨rfl⟩
instance boolVN1 {b : Bool} [h : BoolV b true] : BoolV (!b) false := ⟨by rw [h.h]; rfl⟩
instance boolVN0 {b : Bool} [h : BoolV b false] : BoolV (!b) true := ⟨by rw [h.h]; rfl⟩
instance boolVS {α : Type} {x : α} : BoolV (some x).isNone false := ⟨rfl⟩
instance boolV0 {α : Type} : BoolV (none : Option α).isNone true := ⟨rfl⟩
instance (priority := high) adr_add0 {b n : Nat} : AdrIs ((⟨b, 0, none⟩ : Addr).add n) b n := ⟨by rw [add_mk, Nat.zero_add]⟩

section
variable {B : World} {Γ Δ Γ0 : List HProp} {k j : K}
theorem s_wsD {k : (World → Prop) → K} (Γ0 : List HProp) (h : HG B Γ (k (Holds B Γ0))) [d : Drops Γ Γ0] : HG B Γ (WithS k) := fun w hw => ⟨Holds B Γ0, hw.drops, h w hw⟩
theorem s_nx (h : HG B Δ j) [n : Nx B Γ k Δ j] : HG B Γ k := n.h h
instance nx_nn {a : Addr} {k : Addr → K} : Nx B Γ (Nn (some a) k) Γ (k a) := ⟨s_nn⟩
instance nx_dr : Nx B Γ (Dr k) Γ k := ⟨s_dr⟩
instance nx_ws {k : (World → Prop) → K} : Nx B Γ (WithS k) Γ (k (Holds B Γ)) := ⟨s_ws⟩
instance nx_sv [d : Drops Γ Δ] : Nx B Γ (Sv (Holds B Δ) k) Γ k := ⟨fun h => s_sv h⟩
instance nx_ld {α : Type} {a : Addr} {b off : Nat} {l : List Value} {T : TypeId} {fz : Nat × Nat} {c : α → Value} {v : Value} {x : α} {k : α → K} [ad : AdrIs a b off] [p : Own b Γ (blk b (.cells l.toArray T fz)) Δ] [n : NthV l off v] [e : Cv c v x] : Nx B Γ (Ld a c k) Γ (k x) := ⟨fun h => s_ld h (by rw [n.h, e.h])⟩
instance nx_ldS {α : Type} {a : Addr} {b off : Nat} {l : List Value} {T : TypeId} {fz : Nat × Nat} {c : α → Value} {v : Value} {x : α} {k : α → K} [ad : AdrIs a b off] [p : Own b Γ0 (blk b (.cells l.toArray T fz)) Δ] [n : NthV l off v] [e : Cv c v x] : Nx B Γ (LdS (Holds B Γ0) a c k) Γ (k x) := ⟨fun h => s_ldS h (by rw [n.h, e.h])⟩
instance nx_ldN {a : Addr} {b off n : Nat} {l l' : List Value} {T : TypeId} {fz : Nat × Nat} {k : Array Value → K} [ad : AdrIs a b off] [p : Own b Γ (blk b (.cells l.toArray T fz)) Δ] [t : TakeV l off n l'] : Nx B Γ (LdN a n k) Γ (k l'.toArray) := ⟨fun h => s_ldN h t.h.1 t.h.2⟩
instance nx_ldNS {a : Addr} {b off n : Nat} {l l' : List Value} {T : TypeId} {fz : Nat × Nat} {k : Array Value → K} [ad : AdrIs a b off] [p : Own b Γ0 (blk b (.cells l.toArray T fz)) Δ] [t : TakeV l off n l'] : Nx B Γ (LdNS (Holds B Γ0) a n k) Γ (k l'.toArray) := ⟨fun h => s_ldNS h t.h.1 t.h.2⟩
instance nx_st {a : Addr} {b off : Nat} {l l' : List Value} {T : TypeId} {v : Value} [ad : AdrIs a b off] [p : Own b Γ (blk b (.cells l.toArray T (0, 0))) Δ] [s : SetV l off v l'] [f : FlatV v] : Nx B Γ (St a v k) (blk b (.cells l'.toArray T (0, 0)) :: Δ) k := ⟨fun h => s_st h (Nat.ble_eq_true_of_le s.h.2) s.h.1 f.h⟩
instance nx_stN {a : Addr} {b n : Nat} {l l' : List Value} {T : TypeId} [ad : AdrIs a b 0] [p : Own b Γ (blk b (.cells l.toArray T (0, 0))) Δ] [h1 : LenV l n] [h2 : LenV l' n] [f : FlatL l'] : Nx B Γ (StN a n l'.toArray k) (blk b (.cells l'.toArray T (0, 0)) :: Δ) k := ⟨fun h => s_stN h h1.h h2.h f.h⟩
instance nx_fld {α : Type} {l : List Value} {off : Nat} {c : α → Value} {v : Value} {x : α} {k : α → K} [n : NthV l off v] [e : Cv c v x] : Nx B Γ (Fld l.toArray off c k) Γ (k x) := ⟨fun h => s_fld h (by rw [n.h, e.h])⟩
instance nx_bld1 {zero cs : List Value} {n : Nat} {k : Array Value → K} [h1 : LenV zero n] [h2 : LenV cs n] : Nx B Γ (Bld zero.toArray (fun i => some (i * n, n)) [(0, .agg cs.toArray)] k) Γ (k cs.toArray) := ⟨fun h => s_bld1 h h1.h h2.h⟩
instance nx_t {b : Bool} {x y : K} [h : BoolV b true] : Nx B Γ (Ite b x y) Γ x := ⟨fun g => s_t g h.h⟩
instance nx_f {b : Bool} {x y : K} [h : BoolV b false] : Nx B Γ (Ite b x y) Γ y := ⟨fun g => s_f g h.h⟩
end
/-! ### structs from parts -/
class CellsV (v : Value) (us : outParam (List Value)) : Prop where h : v.cells = us.toArray
class OverV (z : List Value) (off : Nat) (us : List Value) (z' : outParam (List Value)) : Prop where h : off + us.length ≤ z.length ∧ z' = z.take off ++ us ++ z.drop (off + us.length)
class PlaceV (pl : List (Nat × Nat)) (i : Nat) (off n : outParam Nat) : Prop where h : pl[i]? = some (off, n)
class FillV (pl : List (Nat × Nat)) (z : List Value) (ps : List (Nat × Value)) (cs : outParam (List Value)) : Prop where h : Instr.fill (pl[·]?) z.toArray ps = some cs.toArray
instance cellsVA {l : List Value} : CellsV (.agg l.toArray) l := ⟨rfl⟩
instance cellsVB {b : Bool} : CellsV (.bool b) [.bool b] := ⟨rfl⟩
instance cellsVI {k : IntKind} {n : Int} : CellsV (.int k n) [.int k n] := ⟨rfl⟩
instance cellsVS {b : ByteArray} : CellsV (.string b) [.string b] := ⟨rfl⟩
instance cellsVP {p : Option Addr} : CellsV (.pointer p) [.pointer p] := ⟨rfl⟩
instance cellsVM {p : Option Nat} : CellsV (.map p) [.map p] := ⟨rfl⟩
instance cellsVSl {a : Option Addr} {n c : Nat} : CellsV (.slice a n c) [.slice a n c] := ⟨rfl⟩
instance overV0 {z : List Value} : OverV z 0 [] z := ⟨⟨by simp, by simp⟩⟩
instance overV1 {v u : Value} {z us z' : List Value} [h : OverV z 0 us z'] : OverV (v :: z) 0 (u :: us) (u :: z') := ⟨by
  obtain ⟨h1, h2⟩ := h.h
  simp only [Nat.zero_add, List.take_zero, List.nil_append] at h1 h2
  refine ⟨by simp; omega, ?_⟩
  simp only [List.length_cons, Nat.zero_add, List.take_zero, List.nil_append, List.drop_succ_cons, List.cons_append]
  rw [h2]⟩
instance overV2 {v : Value} {z us z' : List Value} {off : Nat} [h : OverV z off us z'] : OverV (v :: z) (off + 1) us (v :: z') := ⟨by
  obtain ⟨h1, h2⟩ := h.h
  refine ⟨by simp; omega, ?_⟩
  rw [h2, show off + 1 + us.length = (off + us.length) + 1 by omega]
  simp⟩
instance placeV0 {o n : Nat} {pl : List (Nat × Nat)} : PlaceV ((o, n) :: pl) 0 o n := ⟨rfl⟩
instance placeV1 {x : Nat × Nat} {o n i : Nat} {pl : List (Nat × Nat)} [h : PlaceV pl i o n] : PlaceV (x :: pl) (i + 1) o n := ⟨h.h⟩
instance fillV0 {pl : List (Nat × Nat)} {z : List Value} : FillV pl z [] z := ⟨rfl⟩
theorem fill_part {pl : Nat → Option (Nat × Nat)} {z us z' : List Value} {i off : Nat} {v : Value} {ps : List (Nat × Value)} (hp : pl i = some (off, us.length)) (hc : v.cells = us.toArray) (h : off + us.length ≤ z.length ∧ z' = z.take off ++ us ++ z.drop (off + us.length)) :
    Instr.fill pl z.toArray ((i, v) :: ps) = Instr.fill pl z'.toArray ps := by
  obtain ⟨h1, rfl⟩ := h
  rw [Instr.fill, hp, hc]
  simp only [List.size_toArray]
  rw [if_neg (by simp; omega)]
  congr 1
  have hl : (z.take off).length = off := by rw [List.length_take]; omega
  have key : ∀ (us m pre C : List Value), pre.length = off → m.length = us.length → ∀ (o : Nat) (pre2 : List Value), pre2.length = off + o → (us.zipIdx o).foldl (fun (cs : Array Value) (p : Value × Nat) => cs.setIfInBounds (off + p.2) p.1) (pre2 ++ m ++ C).toArray = (pre2 ++ us ++ C).toArray := by
    intro us
    induction us with
    | nil => intro m pre C _ hm o pre2 _; rw [List.length_eq_zero_iff.1 hm]; rfl
    | cons u us ih =>
      intro m pre C hp hm o pre2 hp2
      cases m with
      | nil => simp at hm
      | cons x m =>
        simp only [List.zipIdx_cons, List.foldl_cons]
        have e : (pre2 ++ x :: m ++ C).toArray.setIfInBounds (off + o) u = ((pre2 ++ [u]) ++ m ++ C).toArray := by
          apply Array.ext'
          rw [← hp2]
          simp
        rw [e, ih m pre C hp (by simpa using hm) (o + 1) (pre2 ++ [u]) (by simp; omega)]
        simp
  have e : z = z.take off ++ (z.drop off).take us.length ++ z.drop (off + us.length) := by
    rw [← List.drop_drop, List.append_assoc, List.take_append_drop, List.take_append_drop]
  have h3 := key us ((z.drop off).take us.length) (z.take off) (z.drop (off + us.length)) hl (by rw [List.length_take, List.length_drop]; omega) 0 (z.take off) (by omega)
  rw [← e] at h3
  rw [← Array.foldl_toList, Array.toList_zipIdx]
  exact h3
instance fillV1 {pl : List (Nat × Nat)} {z z' us cs : List Value} {i off n : Nat} {v : Value} {ps : List (Nat × Value)} [p : PlaceV pl i off n] [c : CellsV v us] [l : LenV us n] [o : OverV z off us z'] [f : FillV pl z' ps cs] : FillV pl z ((i, v) :: ps) cs :=
  ⟨by rw [fill_part (by rw [l.h]; exact p.h) c.h o.h]; exact f.h⟩
instance nx_bld {pl : List (Nat × Nat)} {B : World} {Γ : List HProp} {z cs : List Value} {ps : List (Nat × Value)} {k : Array Value → K} [f : FillV pl z ps cs] : Nx B Γ (Bld z.toArray (pl[·]?) ps k) Γ (k cs.toArray) := ⟨fun h w hw => ⟨_, f.h, h w hw⟩⟩
end Go.Sep
/- A range over a map of one's own: every entry comes once, in whatever order. Holds for every program. -/
namespace Go.Sep
open Go Go.RowKit Go.MapKept
set_option linter.unusedSimpArgs false
set_option linter.unusedVariables false
set_option linter.unusedSectionVars false

section
variable {α β : Type} [DecidableEq α] {P : Program} {B w : World} {Γ : List HProp} {enc : α → Value} {cV : β → Value}

/-- What is still to come, by the stamps that came. -/
def itLeft (es : Array MapEntry) (seen : Array Nat) (m : List (α × β)) : List (α × β) := ((es.toList.zip m).filter fun p => !seen.contains p.1.born).map Prod.snd
structure ItF (enc : α → Value) (cV : β → Value) (es : Array MapEntry) (c : Nat) (seen : Array Nat) (m left : List (α × β)) (cur : Option (α × β)) : Prop where
  rel : mrel enc cV es m
  st : stamps es c
  lf : left = itLeft es seen m
  cnt : seen.size + left.length = m.length
  cur : ∀ p, cur = some p → ∃ (seen' : Array Nat) (e : MapEntry), seen = seen'.push e.born ∧ e ∈ es.toList ∧ e.key = enc p.1 ∧ e.val = cV p.2
/-- A map, and a range over it that is under way. -/
def MapIt (enc : α → Value) (cV : β → Value) (b r : Nat) (m left : List (α × β)) (cur : Option (α × β)) : HProp := ex fun es : Array MapEntry => ex fun c : Nat => ex fun seen : Array Nat =>
  stars [pur (ItF enc cV es c seen m left cur), blk b (.map es c), blk r (.mapIter (some b) c seen c)]

theorem MapIt.opens {b r : Nat} {m left : List (α × β)} {cur : Option (α × β)} (h : Holds B (MapIt enc cV b r m left cur :: Γ) w) : ∃ es c seen, ItF enc cV es c seen m left cur ∧ Holds B (blk b (.map es c) :: blk r (.mapIter (some b) c seen c) :: Γ) w := by
  obtain ⟨es, h⟩ := Holds.ex.1 h
  obtain ⟨c, h⟩ := Holds.ex.1 h
  obtain ⟨seen, h⟩ := Holds.ex.1 h
  obtain ⟨hp, h⟩ := Holds.pur.1 (Holds.flat.1 h)
  exact ⟨es, c, seen, hp, h⟩
theorem MapIt.shuts {b r : Nat} {m left : List (α × β)} {cur : Option (α × β)} {es : Array MapEntry} {c : Nat} {seen : Array Nat} (hp : ItF enc cV es c seen m left cur) (h : Holds B (blk b (.map es c) :: blk r (.mapIter (some b) c seen c) :: Γ) w) : Holds B (MapIt enc cV b r m left cur :: Γ) w :=
  Holds.ex.2 ⟨es, Holds.ex.2 ⟨c, Holds.ex.2 ⟨seen, Holds.flat.2 (Holds.pur.2 ⟨hp, h⟩)⟩⟩⟩
theorem MapIt.ends {b r : Nat} {m left : List (α × β)} {cur : Option (α × β)} (h : Holds B (MapIt enc cV b r m left cur :: Γ) w) : Holds B (MapR enc cV b m :: Γ) w := by
  obtain ⟨es, c, seen, hp, h⟩ := MapIt.opens h
  exact MapR.shuts ⟨hp.rel, hp.st⟩ (h.del 1 rfl)

theorem mrel_len {es : Array MapEntry} {m : List (α × β)} (h : mrel enc cV es m) : es.toList.length = m.length := by have := congrArg List.length h; simpa using this
theorem mrel_zip {es : Array MapEntry} {m : List (α × β)} (h : mrel enc cV es m) : ∀ p ∈ es.toList.zip m, p.1.key = enc p.2.1 ∧ p.1.val = cV p.2.2 := by
  intro p hp
  obtain ⟨i, hi⟩ := List.getElem?_of_mem hp
  rw [List.getElem?_zip_eq_some] at hi
  have := mrel_at h i
  rw [hi.1, hi.2] at this
  simp only [Option.map_some, Option.some.injEq, Prod.mk.injEq] at this
  exact this

theorem r_range {T E : TypeId} {d : TypeDesc} {b : Nat} {m : List (α × β)} {k : Option Addr → K} (hT : mapIs P T d E) (h : Holds B (MapR enc cV b m :: Γ) w) (hk : ∀ r w, Holds B (MapIt enc cV b r m m none :: Γ) w → k (some ⟨r, 0, none⟩) w) :
    Do P (Instr.range T (.map (some b))) Value.pointer k w := by
  obtain ⟨kt, hT, hd⟩ := hT
  obtain ⟨es, c, ⟨hr, hst⟩, h⟩ := MapR.opens h
  have hb := h.block
  refine ⟨some ⟨w.heap.size, 0, none⟩, { w with heap := w.heap.push (.mapIter (some b) c #[] c) }, ?_, hk _ _ (MapIt.shuts (seen := #[]) ⟨hr, hst, ?_, by simp, fun p hp => by cases hp⟩ (h.alloc _).swap)⟩
  · unfold Instr.range
    simp only [Sem.run_bind, run_underlying hT, Result.andThen, MapKept.run_getObj_map hb, Sem.run_pure]
    rfl
  · unfold itLeft
    have e : (es.toList.zip m).filter (fun p => !(#[] : Array Nat).contains p.1.born) = es.toList.zip m := List.filter_eq_self.2 (fun p _ => by simp)
    rw [e, List.map_snd_zip (by rw [mrel_len hr]; exact Nat.le_refl _)]

theorem zip_filter_split {es : List MapEntry} {m : List (α × β)} (seen : Array Nat) (hn : (es.map (·.born)).Nodup) (hl : es.length = m.length) {e : MapEntry} (he : e ∈ es.filter (fun e => !seen.contains e.born)) :
    ∃ l1 p l2, (e, p) ∈ es.zip m ∧ ((es.zip m).filter fun p => !seen.contains p.1.born).map Prod.snd = l1 ++ p :: l2 ∧ ((es.zip m).filter fun p => !(seen.push e.born).contains p.1.born).map Prod.snd = l1 ++ l2 := by
  induction es generalizing m with
  | nil => simp at he
  | cons x es ih =>
    cases m with
    | nil => simp at hl
    | cons q m =>
      simp only [List.map_cons, List.nodup_cons] at hn
      simp only [List.zip_cons_cons]
      by_cases hx : x = e
      · subst hx
        have hxs : (!seen.contains x.born) = true := (List.mem_filter.1 he).2
        refine ⟨[], q, ((es.zip m).filter fun p => !seen.contains p.1.born).map Prod.snd, List.mem_cons_self, ?_, ?_⟩
        · simp only [List.filter_cons]; rw [if_pos hxs]; rfl
        · simp only [List.filter_cons]
          rw [if_neg (by simp)]
          simp only [List.nil_append]
          congr 1
          refine List.filter_congr fun p hp => ?_
          have hpe : p.1.born ≠ x.born := fun heq => hn.1 (by rw [← heq]; exact List.mem_map_of_mem (List.of_mem_zip hp).1)
          simp [Array.contains_push, hpe]
      · have he2 : e ∈ es.filter (fun e => !seen.contains e.born) := by
          have h1 := List.mem_filter.1 he
          rcases List.mem_cons.1 h1.1 with h2 | h2
          · exact absurd h2.symm hx
          · exact List.mem_filter.2 ⟨h2, h1.2⟩
        obtain ⟨l1, p, l2, h1, h2, h3⟩ := ih hn.2 (by simpa using hl) he2
        have hxb : x.born ≠ e.born := fun heq => hn.1 (by rw [heq]; exact List.mem_map_of_mem (List.mem_filter.1 he2).1)
        by_cases hs : (!seen.contains x.born) = true
        · refine ⟨q :: l1, p, l2, List.mem_cons_of_mem _ h1, ?_, ?_⟩
          · simp only [List.filter_cons]
            rw [if_pos hs, List.map_cons, h2]; rfl
          · simp only [List.filter_cons]
            rw [if_pos (by simp [Array.contains_push, hxb] at hs ⊢; exact hs), List.map_cons, h3]; rfl
        · refine ⟨l1, p, l2, List.mem_cons_of_mem _ h1, ?_, ?_⟩
          · simp only [List.filter_cons]
            rw [if_neg hs, h2]
          · simp only [List.filter_cons]
            rw [if_neg (by simp [Array.contains_push, hxb] at hs ⊢; exact hs), h3]

theorem r_next {b r : Nat} {m left : List (α × β)} {cur : Option (α × β)} {k : Value → K} (h : Holds B (MapIt enc cV b r m left cur :: Γ) w)
    (h0 : left = [] → ∀ w, Holds B (MapR enc cV b m :: Γ) w → k (.tuple #[.bool false]) w)
    (h1 : ∀ l1 p l2 w, left = l1 ++ p :: l2 → p ∈ m → Holds B (MapIt enc cV b r m (l1 ++ l2) (some p) :: Γ) w → k (.tuple #[.bool true, enc p.1, cV p.2]) w) :
    Do P (Instr.next (.pointer (some ⟨r, 0, none⟩)) false 0) id k w := by
  have hend := MapIt.ends h
  obtain ⟨es, c, seen, hp, h⟩ := MapIt.opens h
  have hb := h.block
  have hr := h.tail.block
  rcases run_next_at (P := P) w 0 r b c c seen es c hr hb hp.st.2 (Nat.le_refl _) with ⟨hz, hrun⟩ | ⟨e, he, w1, hw1, hrun⟩
  · refine ⟨_, w, hrun, h0 ?_ w hend⟩
    rw [hp.lf]
    unfold itLeft
    have hnone : es.toList.filter (fun e => !seen.contains e.born) = [] := by
      have : (leftOf es seen).toList.length = 0 := by simpa using hz
      unfold leftOf at this
      rw [Array.toList_filter] at this
      exact List.length_eq_zero_iff.1 this
    have : (es.toList.zip m).filter (fun p => !seen.contains p.1.born) = [] := by
      rw [List.filter_eq_nil_iff] at hnone ⊢
      intro p hpz
      exact hnone p.1 (List.of_mem_zip hpz).1
    rw [this]; rfl
  · have he2 : e ∈ es.toList.filter (fun e => !seen.contains e.born) := by
      unfold leftOf at he
      rw [Array.toList_filter] at he
      exact he
    obtain ⟨l1, p, l2, hz, hl, hl2⟩ := zip_filter_split seen hp.st.1 (mrel_len hp.rel) he2
    have hkv := mrel_zip hp.rel _ hz
    simp only at hkv
    refine ⟨_, _, hrun, ?_⟩
    show k (.tuple #[.bool true, e.key, e.val]) _
    rw [hkv.1, hkv.2]
    have hw : ∃ w', w1 = w' ∧ Holds B (blk b (.map es c) :: blk r (.mapIter (some b) c seen c) :: Γ) w' := by
      rcases hw1 with rfl | rfl
      · exact ⟨_, rfl, h⟩
      · exact ⟨_, rfl, h.drew _⟩
    obtain ⟨w', rfl, h⟩ := hw
    refine h1 l1 p l2 _ (by rw [hp.lf]; exact hl) (List.of_mem_zip hz).2 (MapIt.shuts (es := es) (c := c) (seen := seen.push e.born) ⟨hp.rel, hp.st, hl2.symm, ?_, fun q hq => ?_⟩ ?_)
    · have h3 := hp.cnt
      have h4 : left = l1 ++ p :: l2 := by rw [hp.lf]; exact hl
      rw [h4] at h3
      simp only [List.length_append, List.length_cons, Array.size_push] at h3 ⊢
      omega
    · cases hq
      exact ⟨seen, e, rfl, (List.of_mem_zip hz).1, hkv.1, hkv.2⟩
    · exact (h.swap.setBlock (o' := .mapIter (some b) c (seen.push e.born) c) rfl).swap

/-- How many are still to come, as the world tells. -/
def itCount (r n : Nat) (w : World) : Nat := match w.heap[r]? with
  | some (.mapIter _ _ seen _) => n - seen.size
  | _ => 0
theorem it_count {b r : Nat} {m left : List (α × β)} {cur : Option (α × β)} (h : Holds B (MapIt enc cV b r m left cur :: Γ) w) : itCount r m.length w = left.length := by
  obtain ⟨es, c, seen, hp, h⟩ := MapIt.opens h
  have := hp.cnt
  unfold itCount
  rw [h.tail.block]
  simp only
  omega
theorem r_entry {b r : Nat} {m left : List (α × β)} {p : α × β} {k : Value → K} (h : Holds B (MapIt enc cV b r m left (some p) :: Γ) w) (hk : k (.tuple #[enc p.1, cV p.2]) w) :
    Do P (Instr.entry (.pointer (some ⟨r, 0, none⟩))) id k w := by
  obtain ⟨es, c, seen, hp, h⟩ := MapIt.opens h
  obtain ⟨seen', e, hs, he, hk1, hk2⟩ := hp.cur p rfl
  subst hs
  refine ⟨_, w, run_entry_at (P := P) w r b c seen' es c e h.tail.block h.block he hp.st.1, ?_⟩
  show k (.tuple #[e.key, e.val]) w
  rw [hk1, hk2]
  exact hk
theorem run_lookZ {zv : Value} {T E : TypeId} {d : TypeDesc} {b : Nat} {m : List (α × β)} {a : α} (hT : mapIs P T d E) (hE : KeyE d enc) (hz : zeroT P E zv) {es : Array MapEntry} {c : Nat} (hb : w.heap[b]? = some (.map es c)) (hr : mrel enc cV es m) (ok : Bool) :
    (Instr.lookup T (.map (some b)) (enc a) ok).run P w = .ok (if ok then .tuple #[((mget a m).map cV).getD zv, .bool (mget a m).isSome] else ((mget a m).map cV).getD zv) w := by
  obtain ⟨kt, hT, hd⟩ := hT
  unfold Instr.lookup
  simp only [Sem.run_bind, run_underlying hT, Result.andThen, MapKept.run_getObj_map hb, run_checkKey hd (hE.key a), Sem.run_pure]
  rcases mfound hE hr a with ⟨h1, h2, _⟩ | ⟨j, x, h1, _, _, h2, _⟩
  · simp only [run_findKey hd h1, Result.andThen, Sem.run_bind, zeroT_spec hz, Sem.run_pure, h2]
    cases ok <;> rfl
  · simp only [run_findKey hd h1, Result.andThen, Sem.run_bind, Sem.run_pure, h2]
    cases ok <;> rfl
end
end Go.Sep
/- Structs of numbers, strings and truths are compared, and are keys of maps. Holds for every program. -/
namespace Go.Sep
open Go Go.RowKit
set_option linter.unusedSimpArgs false
set_option linter.unusedVariables false
set_option linter.unusedSectionVars false

/-- A cell that can be compared. -/
inductive Ck where
  | int (k : IntKind)
  | str
  | bool
def Ck.fit : Ck → Value → Bool
  | .int k, .int k' _ => k' == k
  | .str, .string _ => true
  | .bool, .bool _ => true
  | _, _ => false
def fits : List Ck → List Value → Bool
  | [], [] => true
  | c :: cs, v :: vs => c.fit v && fits cs vs
  | _, _ => false
def cksF (P : Program) (f : TypeId → Option (List Ck)) : List Field → Nat → Option (List Ck)
  | [], _ => some []
  | x :: fs, off => match f x.type with
    | none => none
    | some ks => if x.name != "_" && Nat.beq x.offset off && sizeT P x.type ks.length then (cksF P f fs (off + ks.length)).map (ks ++ ·) else none
def cksT (P : Program) : Nat → TypeId → Option (List Ck)
  | 0, _ => none
  | d + 1, t => match P.underlying t with
    | some (.int k) => some [.int k]
    | some .string => some [.str]
    | some .bool => some [.bool]
    | some (.struct fs) => if P.stoodInHeld t then none else cksF P (cksT P d) fs.toList 0
    | _ => none
def isStT (P : Program) (t : TypeId) : Bool := match P.underlying t with
  | some (.struct _) => true
  | _ => false
/-- Cells as a value of a type. -/
def cellsV (P : Program) (t : TypeId) (vs : List Value) : Value := if isStT P t then .agg vs.toArray else vs.headD .nilIface

theorem fit_int {k : IntKind} {v : Value} (h : (Ck.int k).fit v = true) : ∃ n, v = .int k n := by
  cases v <;> simp [Ck.fit] at h
  subst h; exact ⟨_, rfl⟩
theorem fit_str {v : Value} (h : Ck.str.fit v = true) : ∃ n, v = .string n := by
  cases v <;> simp [Ck.fit] at h
  exact ⟨_, rfl⟩
theorem fit_bool {v : Value} (h : Ck.bool.fit v = true) : ∃ n, v = .bool n := by
  cases v <;> simp [Ck.fit] at h
  exact ⟨_, rfl⟩
theorem fits_len : ∀ {ks : List Ck} {vs : List Value}, fits ks vs = true → vs.length = ks.length
  | [], [], _ => rfl
  | c :: ks, v :: vs, h => by
    simp only [fits, Bool.and_eq_true] at h
    simp [fits_len h.2]
  | [], _ :: _, h => by simp [fits] at h
  | _ :: _, [], h => by simp [fits] at h
theorem fits_app : ∀ {ks ks' : List Ck} {vs : List Value}, fits (ks ++ ks') vs = true → fits ks (vs.take ks.length) = true ∧ fits ks' (vs.drop ks.length) = true
  | [], ks', vs, h => by simpa [fits] using h
  | c :: ks, ks', [], h => by simp [fits] at h
  | c :: ks, ks', v :: vs, h => by
    simp only [List.cons_append, fits, Bool.and_eq_true] at h
    obtain ⟨h1, h2⟩ := fits_app h.2
    simp only [List.length_cons, List.take_succ_cons, List.drop_succ_cons, fits, Bool.and_eq_true]
    exact ⟨⟨h.1, h1⟩, h2⟩
section
variable {P : Program}
theorem run_isAgg {t : TypeId} {d : Nat} {ks : List Ck} (h : cksT P d t = some ks) (w : World) : (isAgg t).run P w = .ok (isStT P t) w := by
  cases d with
  | zero => cases h
  | succ d =>
    unfold cksT at h
    unfold isAgg isStT
    split at h <;> rename_i hu
    · simp [run_underlying hu, hu]
    · simp [run_underlying hu, hu]
    · simp [run_underlying hu, hu]
    · simp [run_underlying hu, hu]
    · cases h
theorem one_of {t : TypeId} {d : Nat} {ks : List Ck} (h : cksT P d t = some ks) (hs : isStT P t = false) : ∃ c, ks = [c] := by
  cases d with
  | zero => cases h
  | succ d =>
    unfold cksT at h
    unfold isStT at hs
    split at h <;> rename_i hu
    · exact ⟨_, (Option.some.inj h).symm⟩
    · exact ⟨_, (Option.some.inj h).symm⟩
    · exact ⟨_, (Option.some.inj h).symm⟩
    · rw [hu] at hs; cases hs
    · cases h
theorem run_part_flat {t : TypeId} {d : Nat} {ks : List Ck} (h : cksT P d t = some ks) (hz : sizeT P t ks.length = true) {cs : List Value} {off : Nat} (hl : off + ks.length ≤ cs.length) (w : World) :
    (part t cs.toArray off).run P w = .ok (cellsV P t ((cs.drop off).take ks.length)) w := by
  unfold part cellsV
  simp only [Sem.run_bind, run_isAgg h, Result.andThen]
  cases hs : isStT P t with
  | true =>
    simp only [if_true, Sem.run_bind, sizeT_spec hz, Result.andThen, Sem.run_pure]
    congr 2
    apply Array.ext'
    simp [List.extract]
  | false =>
    obtain ⟨c, rfl⟩ := one_of h hs
    simp only [List.length_cons, List.length_nil, Nat.zero_add] at hl ⊢
    have hlt : off < cs.length := by omega
    have e : cs.toArray[off]? = some cs[off] := by simp [hlt]
    simp only [Bool.false_eq_true, if_false, e, Sem.run_pure]
    rw [List.drop_eq_getElem_cons hlt]
    rfl

/-! ### equality -/
theorem run_eqF {D d : Nat} (ih : ∀ t ks xs ys, cksT P d t = some ks → fits ks xs = true → fits ks ys = true → ∀ w, ∃ r : Bool, (Op.equalIn D t (cellsV P t xs) (cellsV P t ys)).run P w = .ok r w ∧ (r = true ↔ xs = ys)) (xs ys : List Value) :
    ∀ (fs : List Field) (off : Nat) (ks : List Ck), cksF P (cksT P d) fs off = some ks → off ≤ xs.length → off ≤ ys.length → fits ks (xs.drop off) = true → fits ks (ys.drop off) = true → ∀ w, ∃ r : Bool, (Op.eqFields D xs.toArray ys.toArray fs).run P w = .ok r w ∧ (r = true ↔ xs.drop off = ys.drop off)
  | [], off, ks, h, _, _, hx, hy, w => by
    simp only [cksF, Option.some.injEq] at h
    subst h
    have h1 := List.length_eq_zero_iff.1 (fits_len hx)
    have h2 := List.length_eq_zero_iff.1 (fits_len hy)
    exact ⟨true, by simp [Op.eqFields], by simp [h1, h2]⟩
  | f :: fs, off, ks, h, lx, ly, hx, hy, w => by
    unfold cksF at h
    split at h
    · cases h
    rename_i k1 hk1
    split at h
    · rename_i hc
      simp only [Bool.and_eq_true, bne_iff_ne, ne_eq, Nat.beq_eq] at hc
      obtain ⟨⟨hn, rfl⟩, hz⟩ := hc
      simp only [Option.map_eq_some_iff] at h
      obtain ⟨k2, hk2, rfl⟩ := h
      have ax := fits_app hx
      have ay := fits_app hy
      have cx := fits_len hx
      have cy := fits_len hy
      simp only [List.length_append, List.length_drop] at cx cy
      obtain ⟨r, hr, hiff⟩ := ih f.type k1 _ _ hk1 ax.1 ay.1 w
      obtain ⟨r2, hr2, hiff2⟩ := run_eqF ih xs ys fs _ k2 hk2 (by omega) (by omega) (by rw [← List.drop_drop]; exact ax.2) (by rw [← List.drop_drop]; exact ay.2) w
      unfold Op.eqFields
      rw [if_pos hn]
      simp only [Sem.run_bind, run_part_flat hk1 hz (show f.offset + k1.length ≤ xs.length by omega), run_part_flat hk1 hz (show f.offset + k1.length ≤ ys.length by omega), Result.andThen, hr]
      have hsp : xs.drop f.offset = ys.drop f.offset ↔ ((xs.drop f.offset).take k1.length = (ys.drop f.offset).take k1.length ∧ xs.drop (f.offset + k1.length) = ys.drop (f.offset + k1.length)) := by
        constructor
        · intro e; rw [e, ← List.drop_drop, ← List.drop_drop, e]; exact ⟨rfl, rfl⟩
        · rintro ⟨e1, e2⟩
          rw [← List.take_append_drop k1.length (xs.drop f.offset), ← List.take_append_drop k1.length (ys.drop f.offset), e1, List.drop_drop, List.drop_drop, e2]
      cases r with
      | false =>
        refine ⟨false, by simp, ?_⟩
        rw [hsp, ← hiff]; simp
      | true =>
        refine ⟨r2, by simpa using hr2, ?_⟩
        rw [hsp, ← hiff, hiff2]; simp
    · cases h
theorem str_inj {a b : ByteArray} : (a.toList == b.toList) = true ↔ a = b := by
  obtain ⟨x, rfl⟩ := bs_of a
  obtain ⟨y, rfl⟩ := bs_of b
  rw [bs_list, bs_list, beq_iff_eq]
  exact ⟨fun h => by rw [h], fun h => by have := congrArg ByteArray.toList h; rwa [bs_list, bs_list] at this⟩
theorem run_eq_flat (D : Nat) : ∀ (d : Nat) (t : TypeId) (ks : List Ck) (xs ys : List Value), cksT P d t = some ks → fits ks xs = true → fits ks ys = true → ∀ w, ∃ r : Bool, (Op.equalIn (D + d) t (cellsV P t xs) (cellsV P t ys)).run P w = .ok r w ∧ (r = true ↔ xs = ys)
  | 0, t, ks, xs, ys, h, _, _, w => by cases h
  | d + 1, t, ks, xs, ys, h, hx, hy, w => by
    unfold cksT at h
    have lx := fits_len hx
    have ly := fits_len hy
    split at h <;> rename_i hu
    · injection h with h; subst h
      obtain ⟨x, rfl⟩ := List.length_eq_one_iff.1 lx
      obtain ⟨y, rfl⟩ := List.length_eq_one_iff.1 ly
      simp only [fits, Bool.and_true] at hx hy
      have hs : isStT P t = false := by unfold isStT; rw [hu]
      obtain ⟨a, rfl⟩ := fit_int hx
      obtain ⟨b, rfl⟩ := fit_int hy
      refine ⟨a == b, ?_, by simp⟩
      simp only [cellsV, hs, Bool.false_eq_true, if_false, List.headD_cons]
      exact run_equalIn_int w (D + d) t _ _ _ _ hu
    · injection h with h; subst h
      obtain ⟨x, rfl⟩ := List.length_eq_one_iff.1 lx
      obtain ⟨y, rfl⟩ := List.length_eq_one_iff.1 ly
      simp only [fits, Bool.and_true] at hx hy
      have hs : isStT P t = false := by unfold isStT; rw [hu]
      obtain ⟨a, rfl⟩ := fit_str hx
      obtain ⟨b, rfl⟩ := fit_str hy
      refine ⟨a.toList == b.toList, ?_, by rw [str_inj]; simp⟩
      simp only [cellsV, hs, Bool.false_eq_true, if_false, List.headD_cons]
      exact run_equalIn_string w (D + d) t _ _ hu
    · injection h with h; subst h
      obtain ⟨x, rfl⟩ := List.length_eq_one_iff.1 lx
      obtain ⟨y, rfl⟩ := List.length_eq_one_iff.1 ly
      simp only [fits, Bool.and_true] at hx hy
      have hs : isStT P t = false := by unfold isStT; rw [hu]
      obtain ⟨a, rfl⟩ := fit_bool hx
      obtain ⟨b, rfl⟩ := fit_bool hy
      refine ⟨a == b, ?_, by simp⟩
      simp only [cellsV, hs, Bool.false_eq_true, if_false, List.headD_cons]
      exact run_equalIn_bool' w (D + d) t _ _ hu
    · rename_i fs
      split at h
      · cases h
      rename_i hst
      have hs : isStT P t = true := by unfold isStT; rw [hu]
      have hf : P.fieldsOf t = fs := by unfold Program.fieldsOf; rw [hu]
      simp only [cellsV, hs, if_true]
      rw [show D + (d + 1) = (D + d) + 1 by omega, run_equalIn_agg w (D + d) t _ _ (by rw [hf, hu]) (by simpa using hst), hf]
      have := run_eqF (D := D + d) (fun t ks xs ys h1 h2 h3 w => run_eq_flat D d t ks xs ys h1 h2 h3 w) xs ys fs.toList 0 ks h (Nat.zero_le _) (Nat.zero_le _) (by simpa using hx) (by simpa using hy) w
      simpa using this
    · cases h
theorem run_equal_flat {d : Nat} (hd : d ≤ 10000) {t : TypeId} {ks : List Ck} {xs ys : List Value} (h : cksT P d t = some ks) (hs : isStT P t = true) (hx : fits ks xs = true) (hy : fits ks ys = true) (w : World) : ∃ r : Bool, (Op.equal t (.agg xs.toArray) (.agg ys.toArray)).run P w = .ok r w ∧ (r = true ↔ xs = ys) := by
  have := run_eq_flat (10000 - d) d t ks xs ys h hx hy w
  rw [show 10000 - d + d = 10000 by omega] at this
  unfold Op.equal Op.maxDepth
  simpa only [cellsV, hs, if_true] using this

/-- Two structs are compared. -/
theorem s_eqS {B : World} {Γ : List HProp} {T : TypeId} {ks : List Ck} {xs ys : List Value} {p : Prop} [Decidable p] {x y : Operand} {k : Bool → K} (hp : xs = ys ↔ p) (h : HG B Γ (k (decide p))) (hc : cksT P 9 T = some ks := by kernel_rfl) (hs : isStT P T = true := by kernel_rfl) (hg : P.eqGuardType P.depth T = false := by kernel_rfl) (hx : fits ks xs = true := by rfl) (hy : fits ks ys = true := by rfl) :
    HG B Γ (Pu P (do eqGuard .eql T x y (.agg xs.toArray) (.agg ys.toArray); binOp .eql T (.agg xs.toArray) (.agg ys.toArray) : Sem Value) Value.bool k) := fun w hw => by
  refine ⟨decide p, fun w => ?_, h w hw⟩
  obtain ⟨r, hr, hiff⟩ := run_equal_flat (by omega) hc hs hx hy w
  have e : r = decide p := by rw [Bool.eq_iff_iff, hiff, hp]; simp
  subst e
  simp only [Op.equal, Op.maxDepth] at hr
  simp only [Sem.run_bind, run_eqGuard_agg w _ _ _ _ _ _ hg, Result.andThen, run_eql_struct, hr]
theorem s_neS {B : World} {Γ : List HProp} {T : TypeId} {ks : List Ck} {xs ys : List Value} {p : Prop} [Decidable p] {x y : Operand} {k : Bool → K} (hp : xs = ys ↔ p) (h : HG B Γ (k (!decide p))) (hc : cksT P 9 T = some ks := by kernel_rfl) (hs : isStT P T = true := by kernel_rfl) (hg : P.eqGuardType P.depth T = false := by kernel_rfl) (hx : fits ks xs = true := by rfl) (hy : fits ks ys = true := by rfl) :
    HG B Γ (Pu P (do eqGuard .neq T x y (.agg xs.toArray) (.agg ys.toArray); binOp .neq T (.agg xs.toArray) (.agg ys.toArray) : Sem Value) Value.bool k) := fun w hw => by
  refine ⟨!decide p, fun w => ?_, h w hw⟩
  obtain ⟨r, hr, hiff⟩ := run_equal_flat (by omega) hc hs hx hy w
  have e : r = decide p := by rw [Bool.eq_iff_iff, hiff, hp]; simp
  subst e
  simp only [Op.equal, Op.maxDepth] at hr
  simp only [Sem.run_bind, run_eqGuard_agg w _ _ _ _ _ _ hg, Result.andThen, run_neq_struct, hr]

/-! ### structs as keys -/
theorem run_chkF {D d : Nat} {e : Bool} (ih : ∀ t ks xs, cksT P d t = some ks → fits ks xs = true → ∀ w, (Instr.checkKey e D t (cellsV P t xs)).run P w = .ok () w) (xs : List Value) {body : Field → PUnit → Sem (ForInStep PUnit)}
    (hb : ∀ f v w, f.name ≠ "_" → (part f.type xs.toArray f.offset).run P w = .ok v w → (Instr.checkKey e D f.type v).run P w = .ok () w → (body f PUnit.unit).run P w = .ok (.yield PUnit.unit) w) :
    ∀ (fs : List Field) (off : Nat) (ks : List Ck), cksF P (cksT P d) fs off = some ks → off ≤ xs.length → fits ks (xs.drop off) = true → ∀ w, (forIn fs PUnit.unit body).run P w = .ok PUnit.unit w
  | [], off, ks, h, _, hx, w => by simp
  | f :: fs, off, ks, h, lx, hx, w => by
    unfold cksF at h
    split at h
    · cases h
    rename_i k1 hk1
    split at h
    · rename_i hc
      simp only [Bool.and_eq_true, bne_iff_ne, ne_eq, Nat.beq_eq] at hc
      obtain ⟨⟨hn, rfl⟩, hz⟩ := hc
      simp only [Option.map_eq_some_iff] at h
      obtain ⟨k2, hk2, rfl⟩ := h
      have ax := fits_app hx
      have cx := fits_len hx
      simp only [List.length_append, List.length_drop] at cx
      have h2 := run_chkF ih xs hb fs _ k2 hk2 (by omega) (by rw [← List.drop_drop]; exact ax.2) w
      have h3 := hb f _ w hn (run_part_flat hk1 hz (show f.offset + k1.length ≤ xs.length by omega) w) (ih f.type k1 _ hk1 ax.1 w)
      simp only [List.forIn_cons, Sem.run_bind, h3, Result.andThen]
      exact h2
    · cases h
theorem run_chk_flat (D : Nat) {e : Bool} : ∀ (d : Nat) (t : TypeId) (ks : List Ck) (xs : List Value), cksT P d t = some ks → fits ks xs = true → ∀ w, (Instr.checkKey e (D + d) t (cellsV P t xs)).run P w = .ok () w
  | 0, t, ks, xs, h, _, w => by cases h
  | d + 1, t, ks, xs, h, hx, w => by
    unfold cksT at h
    have lx := fits_len hx
    rw [show D + (d + 1) = (D + d) + 1 by omega]
    split at h <;> rename_i hu
    · injection h with h; subst h
      obtain ⟨x, rfl⟩ := List.length_eq_one_iff.1 lx
      have hs : isStT P t = false := by unfold isStT; rw [hu]
      simp only [cellsV, hs, Bool.false_eq_true, if_false, List.headD_cons]
      unfold Instr.checkKey
      simp [run_underlying hu, Result.andThen]
    · injection h with h; subst h
      obtain ⟨x, rfl⟩ := List.length_eq_one_iff.1 lx
      have hs : isStT P t = false := by unfold isStT; rw [hu]
      simp only [cellsV, hs, Bool.false_eq_true, if_false, List.headD_cons]
      unfold Instr.checkKey
      simp [run_underlying hu, Result.andThen]
    · injection h with h; subst h
      obtain ⟨x, rfl⟩ := List.length_eq_one_iff.1 lx
      have hs : isStT P t = false := by unfold isStT; rw [hu]
      simp only [cellsV, hs, Bool.false_eq_true, if_false, List.headD_cons]
      unfold Instr.checkKey
      simp [run_underlying hu, Result.andThen]
    · rename_i fs
      split at h
      · cases h
      have hs : isStT P t = true := by unfold isStT; rw [hu]
      simp only [cellsV, hs, if_true]
      unfold Instr.checkKey
      simp only [Sem.run_bind, run_underlying hu, Result.andThen]
      rw [← Array.forIn_toList]
      rw [run_chkF (D := D + d) (e := e) (fun t ks xs h1 h2 w => run_chk_flat D d t ks xs h1 h2 w) xs (fun f v w h1 h2 h3 => by rw [if_pos h1]; simp only [Sem.run_bind, h2, h3, Result.andThen, Sem.run_pure]) fs.toList 0 ks h (Nat.zero_le _) (by simpa using hx) w]
      simp
    · cases h

/-- A way to write keys that are structs. -/
structure KeyS {α : Type} (P : Program) (kt : TypeId) (cel : α → List Value) : Prop where
  st : isStT P kt = true
  ks : ∃ ks, cksT P 9 kt = some ks ∧ ∀ a, fits ks (cel a) = true
  inj : ∀ a b, cel a = cel b → a = b
  bits : ∀ a, Instr.sameBits 10000 (.agg (cel a).toArray) (.agg (cel a).toArray) = true
abbrev kyS {α : Type} (cel : α → List Value) (a : α) : Value := .agg (cel a).toArray
section
variable {α β : Type} [DecidableEq α] {B w : World} {Γ Δ : List HProp} {kt : TypeId} {cel : α → List Value} {cV : β → Value} {k : K}
theorem KeyS.chk (hE : KeyS P kt cel) (a : α) (e : Bool) (w : World) : (Instr.checkKey e 10000 kt (kyS cel a)).run P w = .ok () w := by
  obtain ⟨ks, h1, h2⟩ := hE.ks
  have := run_chk_flat 9991 (e := e) 9 kt ks (cel a) h1 (h2 a) w
  simpa only [cellsV, hE.st, if_true] using this
theorem KeyS.eq (hE : KeyS P kt cel) (a b : α) (w : World) : (Op.equal kt (kyS cel a) (kyS cel b)).run P w = .ok (decide (a = b)) w := by
  obtain ⟨ks, h1, h2⟩ := hE.ks
  obtain ⟨r, hr, hiff⟩ := run_equal_flat (d := 9) (by omega) h1 hE.st (h2 a) (h2 b) w
  have e : r = decide (a = b) := by rw [Bool.eq_iff_iff, hiff]; simp; exact ⟨hE.inj a b, fun h => by rw [h]⟩
  rw [← e]; exact hr
theorem run_ask (hE : KeyS P kt cel) (a : α) (w : World) : ∀ (l : List MapEntry) (m : List (α × β)) (i : Nat), l.map (fun e => (e.key, e.val)) = m.map (fun p => (kyS cel p.1, cV p.2)) →
    (mget a m = none ∧ (Instr.findAsking kt (kyS cel a) l i).run P w = .ok none w) ∨ ∃ j x, m[j]? = some (a, x) ∧ (∀ i, i < j → ∀ p, m[i]? = some p → p.1 ≠ a) ∧ (Instr.findAsking kt (kyS cel a) l i).run P w = .ok (some (i + j, cV x)) w
  | [], [], i, _ => .inl ⟨rfl, by simp [Instr.findAsking]⟩
  | [], _ :: _, i, h => by simp at h
  | _ :: _, [], i, h => by simp at h
  | e :: l, p :: m, i, h => by
    simp only [List.map_cons, List.cons.injEq, Prod.mk.injEq] at h
    obtain ⟨⟨e1, e2⟩, h⟩ := h
    unfold Instr.findAsking
    simp only [Sem.run_bind, e1, hE.eq, Result.andThen]
    by_cases hp : a = p.1
    · right
      refine ⟨0, p.2, by rw [hp]; rfl, fun i hi => absurd hi (by omega), ?_⟩
      simp [hp, e2]
    · rcases run_ask hE a w l m (i + 1) h with ⟨h1, h2⟩ | ⟨j, x, h1, h2, h3⟩
      · left
        refine ⟨?_, ?_⟩
        · unfold mget; rw [if_neg hp]; exact h1
        · simpa [hp] using h2
      · right
        refine ⟨j + 1, x, by simpa using h1, fun i' hi q hq => ?_, ?_⟩
        · cases i' with
          | zero => simp at hq; subst hq; exact fun e => hp e.symm
          | succ i' => exact h2 i' (by omega) q (by simpa using hq)
        · simp only [hp, decide_false, Bool.false_eq_true, if_false, h3]
          congr 3; omega
theorem run_findS (hE : KeyS P kt cel) {es : Array MapEntry} {m : List (α × β)} (hr : mrel (kyS cel) cV es m) (a : α) (w : World) :
    ((Instr.findKey kt (kyS cel a) es.toList).run P w = .ok none w ∧ mget a m = none ∧ (∀ v, mset a v m = m ++ [(a, v)]) ∧ mdel a m = m) ∨
    ∃ j x, (Instr.findKey kt (kyS cel a) es.toList).run P w = .ok (some (j, cV x)) w ∧ j < m.length ∧ m[j]? = some (a, x) ∧ mget a m = some x ∧ (∀ v, mset a v m = m.set j (a, v)) ∧ mdel a m = m.eraseIdx j := by
  obtain ⟨fs, hu⟩ : ∃ fs, P.underlying kt = some (.struct fs) := by
    have h1 := hE.st
    unfold isStT at h1
    split at h1
    · rename_i fs hu; exact ⟨fs, hu⟩
    · cases h1
  have hfk : (Instr.findKey kt (kyS cel a) es.toList).run P w = (Instr.findAsking kt (kyS cel a) es.toList 0).run P w := by
    unfold Instr.findKey
    simp only [Sem.run_bind, run_underlying hu, Result.andThen]
    cases es.toList with
    | nil => simp [Instr.findNow, Instr.findAsking]
    | cons e l => simp [Instr.findNow, Instr.sameNow]
  rw [hfk]
  rcases mfind a m with ⟨h1, h2, h3, h4⟩ | ⟨j, x, hj, h0, hb, h1, h2, h3⟩
  · rcases run_ask hE a w es.toList m 0 hr with ⟨_, g2⟩ | ⟨j, x, g1, _, _⟩
    · exact .inl ⟨g2, h1, h2, h3⟩
    · exact absurd rfl (h4 _ (List.mem_of_getElem? g1))
  · rcases run_ask hE a w es.toList m 0 hr with ⟨g1, _⟩ | ⟨j', x', g1, g2, g3⟩
    · rw [g1] at h1; cases h1
    · have hjj : j = j' := by
        rcases Nat.lt_trichotomy j j' with h | h | h
        · exact absurd rfl (g2 j h _ h0)
        · exact h
        · exact absurd rfl (hb j' h _ g1)
      subst hjj
      rw [h0] at g1
      simp only [Option.some.injEq, Prod.mk.injEq, true_and] at g1
      subst g1
      exact .inr ⟨j, x, by simpa using g3, hj, h0, h1, h2, h3⟩
theorem s_look1S {T E : TypeId} {b : Nat} {m : List (α × β)} {z : β} {a : α} {k : β → K} (hE : KeyS P kt cel) (hz : zeroT P E (cV z)) (h : HG B Γ (k ((mget a m).getD z))) (hT : P.underlying T = some (.map kt E) := by kernel_rfl) [p : Own b Γ (MapR (kyS cel) cV b m) Δ] :
    HG B Γ (Rd P (Instr.lookup T (.map (some b)) (kyS cel a) false) cV k) := fun w hw => by
  obtain ⟨es, c, ⟨hr, hst⟩, h1⟩ := MapR.opens (hw.perm p.perm)
  have hb := h1.block
  refine ⟨_, ?_, h w hw⟩
  unfold Instr.lookup
  simp only [Sem.run_bind, run_underlying hT, Result.andThen, MapKept.run_getObj_map hb, hE.chk, Sem.run_pure]
  rcases run_findS hE hr a w with ⟨g1, g2, _⟩ | ⟨j, x, g1, _, _, g2, _⟩
  · simp only [g1, Result.andThen, Sem.run_bind, zeroT_spec hz, Sem.run_pure, g2]; rfl
  · simp only [g1, Result.andThen, Sem.run_bind, Sem.run_pure, g2]; rfl
theorem s_look2S {T E : TypeId} {b : Nat} {m : List (α × β)} {z : β} {a : α} {k : β → Bool → K} (hE : KeyS P kt cel) (hz : zeroT P E (cV z)) (h : HG B Γ (k ((mget a m).getD z) (mget a m).isSome)) (hT : P.underlying T = some (.map kt E) := by kernel_rfl) [p : Own b Γ (MapR (kyS cel) cV b m) Δ] :
    HG B Γ (Rd2 P (Instr.lookup T (.map (some b)) (kyS cel a) true) (fun x y => .tuple #[cV x, .bool y]) k) := fun w hw => by
  obtain ⟨es, c, ⟨hr, hst⟩, h1⟩ := MapR.opens (hw.perm p.perm)
  have hb := h1.block
  refine ⟨_, _, ?_, h w hw⟩
  unfold Instr.lookup
  simp only [Sem.run_bind, run_underlying hT, Result.andThen, MapKept.run_getObj_map hb, hE.chk, Sem.run_pure]
  rcases run_findS hE hr a w with ⟨g1, g2, _⟩ | ⟨j, x, g1, _, _, g2, _⟩
  · simp only [g1, Result.andThen, Sem.run_bind, zeroT_spec hz, Sem.run_pure, g2]; rfl
  · simp only [g1, Result.andThen, Sem.run_bind, Sem.run_pure, g2]; rfl
theorem s_updS {T E : TypeId} {b : Nat} {m : List (α × β)} {a : α} {v : β} {x : Value} (hE : KeyS P kt cel) (hx : x = cV v) (h : HG B (MapR (kyS cel) cV b (mset a v m) :: Δ) k) (hT : P.underlying T = some (.map kt E) := by kernel_rfl) [p : Own b Γ (MapR (kyS cel) cV b m) Δ] :
    HG B Γ (DoU P (Instr.mapUpdate T (.map (some b)) (kyS cel a) x) k) := fun w hw => by
  subst hx
  obtain ⟨es, c, ⟨hr, hst⟩, h1⟩ := MapR.opens (hw.perm p.perm)
  have hb := h1.block
  have hlen : es.size = m.length := by have := congrArg List.length hr; simpa using this
  unfold Instr.mapUpdate DoU
  simp only [Sem.run_bind, run_underlying hT, Result.andThen, MapKept.run_getObj_map hb, hE.chk]
  rcases run_findS hE hr a w with ⟨g1, _, h2, _⟩ | ⟨j, x, g1, hj, h0, _, h2, _⟩
  · simp only [g1, Result.andThen]
    obtain ⟨e1, h3⟩ := h1.setMap (P := P) (es' := es.push { key := kyS cel a, val := cV v, born := c }) (c' := c + 1)
    refine ⟨_, _, e1, h _ (MapR.shuts ⟨?_, stamps_push hst _ _⟩ h3)⟩
    rw [h2]
    simp only [mrel, Array.toList_push, List.map_append, List.map_cons, List.map_nil]
    rw [show es.toList.map (fun e => (e.key, e.val)) = _ from hr]
  · have hes : ∃ e, es.toList[j]? = some e ∧ e.key = kyS cel a := by
      have := mrel_at hr j
      rw [h0] at this
      cases he : es.toList[j]? with
      | none => rw [he] at this; simp at this
      | some e =>
        rw [he] at this
        simp only [Option.map_some, Option.some.injEq, Prod.mk.injEq] at this
        exact ⟨e, rfl, this.1⟩
    obtain ⟨e, he, hek⟩ := hes
    have he2 : es[j]? = some e := by rw [← he, Array.getElem?_toList]
    simp only [g1, Result.andThen, Sem.run_bind, he2, Option.map_some, Option.getD_some, hek, Instr.keyThatStays, kyS, hE.bits, if_true, Sem.run_pure]
    obtain ⟨e1, h3⟩ := h1.setMap (P := P) (es' := es.modify j fun e => { e with key := kyS cel a, val := cV v }) (c' := c)
    refine ⟨_, _, e1, h _ (MapR.shuts ⟨?_, stamps_modify hst _ _ _⟩ h3)⟩
    rw [h2]
    simp only [mrel]
    apply List.ext_getElem?
    intro i
    have hi := mrel_at hr i
    simp only [List.getElem?_map, Array.getElem?_toList, Array.getElem?_modify] at hi ⊢
    by_cases hij : j = i
    · subst hij
      rw [List.getElem?_set_self hj, he2]
      simp
    · rw [List.getElem?_set_ne hij, if_neg hij]
      exact hi
theorem s_mdeleteS {T E t : TypeId} {b : Nat} {m : List (α × β)} {a : α} {k : Value → K} (hE : KeyS P kt cel) (h : HG B (MapR (kyS cel) cV b (mdel a m) :: Δ) (k (.tuple #[]))) (hT : P.underlying T = some (.map kt E) := by kernel_rfl) [p : Own b Γ (MapR (kyS cel) cV b m) Δ] :
    HG B Γ (Do P (Builtin.delete_ #[T, kt] t #[.map (some b), kyS cel a]) id k) := fun w hw => by
  obtain ⟨es, c, ⟨hr, hst⟩, h1⟩ := MapR.opens (hw.perm p.perm)
  have hb := h1.block
  have hlen : es.size = m.length := by have := congrArg List.length hr; simpa using this
  have e0 : #[T, kt][0]? = some T := rfl
  have e1 : #[Value.map (some b), kyS cel a][0]? = some (.map (some b)) := rfl
  have e2 : #[Value.map (some b), kyS cel a][1]? = some (kyS cel a) := rfl
  unfold Builtin.delete_ Do
  simp only [e0, e1, e2, Sem.run_bind, run_underlying hT, Result.andThen, MapKept.run_getObj_map hb, hE.chk]
  rcases run_findS hE hr a w with ⟨g1, _, _, h2⟩ | ⟨j, x, g1, hj, h0, _, _, h2⟩
  · simp only [g1, Result.andThen, Sem.run_bind]
    obtain ⟨e3, h3⟩ := h1.setMap (P := P) (es' := es) (c' := c)
    refine ⟨.tuple #[], _, ?_, h _ (MapR.shuts ⟨?_, hst⟩ h3)⟩
    · simp only [Sem.run_bind, e3, Result.andThen, Sem.run_pure]; rfl
    rw [h2]; exact hr
  · simp only [g1, Result.andThen, Sem.run_bind]
    obtain ⟨e3, h3⟩ := h1.setMap (P := P) (es' := es.eraseIdxIfInBounds j) (c' := c)
    refine ⟨.tuple #[], _, ?_, h _ (MapR.shuts ⟨?_, stamps_erase hst _⟩ h3)⟩
    · simp only [Sem.run_bind, e3, Result.andThen, Sem.run_pure]; rfl
    rw [h2]
    have hjs : j < es.size := by omega
    simp only [mrel, Array.eraseIdxIfInBounds, dif_pos hjs, Array.toList_eraseIdx]
    have mape : ∀ {α β : Type} (f : α → β) (l : List α) (i : Nat), (l.eraseIdx i).map f = (l.map f).eraseIdx i := by
      intro α β f l
      induction l with
      | nil => intro i; simp
      | cons x l ih => intro i; cases i <;> simp [ih]
    rw [mape, mape, show es.toList.map (fun e => (e.key, e.val)) = _ from hr]

/-! ### ranges over maps -/
theorem s_range {enc : α → Value} {T E : TypeId} {d : TypeDesc} {b : Nat} {m : List (α × β)} {k : Option Addr → K} (hT : mapIs P T d E) (h : ∀ r, HG B (MapIt enc cV b r m m none :: Δ) (k (some ⟨r, 0, none⟩))) [p : Own b Γ (MapR enc cV b m) Δ] :
    HG B Γ (Do P (Instr.range T (.map (some b))) Value.pointer k) := fun w hw => r_range hT (hw.perm p.perm) fun r w hw => h r w hw
class OwnI (r : Nat) (Γ : List HProp) (A : outParam HProp) (Δ : outParam (List HProp)) : Prop where perm : Γ.Perm (A :: Δ)
instance (priority := low) ownI_tail {r : Nat} {X A : HProp} {Γ Δ : List HProp} [h : OwnI r Γ A Δ] : OwnI r (X :: Γ) A (X :: Δ) := ⟨perm_tail h.perm⟩
instance (priority := high) ownI_it {α β : Type} [DecidableEq α] {enc : α → Value} {cV : β → Value} {b r : Nat} {m left : List (α × β)} {cur : Option (α × β)} {Γ : List HProp} : OwnI r (MapIt enc cV b r m left cur :: Γ) (MapIt enc cV b r m left cur) Γ := ⟨.refl _⟩
theorem s_extr {α : Type} {vs : List Value} {i : Nat} {c : α → Value} {v : Value} {x : α} {k : α → K} (h : HG B Γ (k x)) [n : NthV vs i v] [e : Cv c v x] : HG B Γ (Ext (.tuple vs.toArray) i c k) := fun w hw => ⟨_, x, rfl, by have := n.h; rw [nth_eq] at this; rw [e.h] at this; simpa using this, h w hw⟩
instance nx_ext {α : Type} {vs : List Value} {i : Nat} {c : α → Value} {v : Value} {x : α} {k : α → K} [n : NthV vs i v] [e : Cv c v x] : Nx B Γ (Ext (.tuple vs.toArray) i c k) Γ (k x) := ⟨fun h => s_extr h⟩
theorem s_next {enc : α → Value} {b r : Nat} {m left : List (α × β)} {cur : Option (α × β)} {k : Value → K} (h0 : left = [] → HG B (MapR enc cV b m :: Δ) (k (.tuple #[.bool false])))
    (h1 : ∀ l1 p l2, left = l1 ++ p :: l2 → p ∈ m → HG B (MapIt enc cV b r m (l1 ++ l2) (some p) :: Δ) (k (.tuple #[.bool true, enc p.1, cV p.2]))) [p : OwnI r Γ (MapIt enc cV b r m left cur) Δ] :
    HG B Γ (Do P (Instr.next (.pointer (some ⟨r, 0, none⟩)) false 0) id k) := fun w hw => r_next (hw.perm p.perm) (fun h w hw => h0 h w hw) fun l1 q l2 w e hq hw => h1 l1 q l2 e hq w hw
theorem s_entry {enc : α → Value} {b r : Nat} {m left : List (α × β)} {q : α × β} {k : Value → K} (h : HG B Γ (k (.tuple #[enc q.1, cV q.2]))) [p : OwnI r Γ (MapIt enc cV b r m left (some q)) Δ] :
    HG B Γ (Do P (Instr.entry (.pointer (some ⟨r, 0, none⟩))) id k) := fun w hw => r_entry (hw.perm p.perm) (h w hw)
theorem s_itEnd {enc : α → Value} {b r : Nat} {m left : List (α × β)} {cur : Option (α × β)} (h : HG B (MapR enc cV b m :: Δ) k) [p : OwnI r Γ (MapIt enc cV b r m left cur) Δ] : HG B Γ k := fun w hw => h w (MapIt.ends (hw.perm p.perm))
end
end
end Go.Sep
/- The library's IndexFunc, DeleteFunc and their kin, whatever the elements. Holds for every program. -/
namespace Go.Sep
open Go Go.RowKit
set_option linter.unusedSimpArgs false
set_option linter.unusedVariables false

/-- An element is read. -/
abbrev accN (esz : Nat) (s : Sl) (i : Int) (k : Value → K) : K := Idx s i esz fun t => LdN t esz fun a => k (.agg a)
abbrev acc1 {α : Type} (c : α → Value) (s : Sl) (i : Int) (k : Value → K) : K := Idx s i 1 fun t => Ld t c fun a => k (c a)
/-- slices.IndexFunc, as it is printed. -/
def idxFK (P : Program) (acc : Sl → Int → (Value → K) → K) (s : Sl) (fv : Value) (Q : Int → K) : K :=
  LoopK (α := Int) (fun X x =>
    Ite (decide (x < (s.n : Int)))
      (acc s x fun v =>
      CallV P fv [v] <| Ans1 (fun (t : Bool) => Value.bool t) fun b =>
      Ite b
        (Q x)
        (Ar (IntKind.wrap .i64 (x + 1)) fun t =>
        X t))
      (Q (-1))) 0
def findG {γ α : Type} (p : γ → α → Bool) (st : γ → α → γ) : γ → List α → γ × Option Nat
  | g, [] => (g, none)
  | g, x :: L => if p g x then (st g x, some 0) else ((findG p st (st g x) L).1, (findG p st (st g x) L).2.map (· + 1))
def idxI : Option Nat → Int
  | none => -1
  | some i => i
def delG {γ α : Type} (p : γ → α → Bool) (st : γ → α → γ) : γ → List α → γ × List α
  | g, [] => (g, [])
  | g, x :: L => ((delG p st (st g x) L).1, if p g x then (delG p st (st g x) L).2 else x :: (delG p st (st g x) L).2)
section
variable {P : Program} {B : World} {Γ Δ : List HProp} {α γ : Type}
theorem delG_cons {p : γ → α → Bool} {st : γ → α → γ} {g : γ} {x : α} {L : List α} : delG p st g (x :: L) = ((delG p st (st g x) L).1, if p g x then (delG p st (st g x) L).2 else x :: (delG p st (st g x) L).2) := rfl
theorem findG_cons {p : γ → α → Bool} {st : γ → α → γ} {g : γ} {x : α} {L : List α} : findG p st g (x :: L) = if p g x then (st g x, some 0) else ((findG p st (st g x) L).1, (findG p st (st g x) L).2.map (· + 1)) := rfl
/-- A whole block is read. -/
theorem s_ldW {b n : Nat} {l : List Value} {T : TypeId} {fz : Nat × Nat} {k : Array Value → K} (h : HG B Γ (k l.toArray)) (hl : l.length = n) [p : Own b Γ (blk b (.cells l.toArray T fz)) Δ] : HG B Γ (LdN ⟨b, 0, none⟩ n k) :=
  s_ldN (b := b) (off := 0) (l' := l) h (by rw [List.drop_zero, List.take_of_length_le (Nat.le_of_eq hl)]) hl
theorem s_idxF {R : γ → List HProp} {acc : Sl → Int → (Value → K) → K} {s : Sl} {fv : Value} {vV : α → Value} {Q : Int → K} {L : List α} (p : γ → α → Bool) (st : γ → α → γ) (g0 : γ) (I : γ → List α → Prop) (hI : I g0 L) (hIs : ∀ g x C, I g (x :: C) → I (st g x) C) (hn : s.n = L.length) (hL : L.length < 1000000000)
    (hacc : ∀ g (i : Nat) x k, L[i]? = some x → HG B (R g) (k (vV x)) → HG B (R g) (acc s (i : Int) k))
    (hf : ∀ g x C (q : Bool → K), x ∈ L → I g (x :: C) → HG B (R (st g x)) (q (p g x)) → HG B (R g) (CallV P fv [vV x] (Ans1 (fun (t : Bool) => Value.bool t) q)))
    (h : HG B (R (findG p st g0 L).1) (Q (idxI (findG p st g0 L).2))) : HG B (R g0) (idxFK P acc s fv Q) := by
  unfold idxFK
  refine s_loop (α := Int) (ι := Nat × γ) (fun x i => x = (i.1 : Int) ∧ i.1 ≤ L.length ∧ I i.2 (L.drop i.1) ∧ findG p st g0 L = ((findG p st i.2 (L.drop i.1)).1, (findG p st i.2 (L.drop i.1)).2.map (· + i.1)))
    (fun x i => R i.2) (fun x i => L.length - i.1) (0, g0) ⟨rfl, Nat.zero_le _, hI, by simp⟩ ?_
  rintro k' _ ⟨i, g⟩ ⟨rfl, hi, hIg, he⟩ hk'
  simp only at hi hIg he hk' ⊢
  refine s_ite (fun hb => ?_) fun hb => ?_
  · have hil : i < L.length := by simp only [decide_eq_true_eq] at hb; omega
    have hge : L[i]? = some L[i] := List.getElem?_eq_getElem hil
    rw [List.drop_eq_getElem_cons hil] at he hIg
    have hm : L[i] ∈ L := List.getElem_mem hil
    generalize L[i] = x at hge he hm hIg
    refine hacc g i x _ hge ?_
    refine hf g x _ _ hm hIg ?_
    rw [findG_cons] at he
    refine s_ite (fun hp => ?_) fun hp => ?_
    · rw [if_pos hp] at he
      rw [he] at h
      simpa [idxI] using h
    · rw [if_neg (by simp [hp])] at he
      refine s_ai ?_
      refine hk' _ (i + 1, st g x) ⟨by simp, hil, hIs _ _ _ hIg, ?_⟩ (by simp only; omega)
      simp only
      rw [he, Option.map_map]
      congr 2
      funext y
      simp only [Function.comp]; omega
  · have hil : i = L.length := by simp only [decide_eq_false_iff_not] at hb; omega
    rw [hil, List.drop_length] at he
    rw [he] at h
    simpa [findG, idxI] using h
theorem findG_pure (p : α → Bool) : ∀ L : List α, (findG (fun (_ : Unit) x => p x) (fun _ _ => ()) () L).2 = L.findIdx? p
  | [] => rfl
  | x :: L => by
    rw [findG_cons, List.findIdx?_cons]
    split
    · rfl
    · rw [findG_pure p L]
theorem delG_pure (p : α → Bool) : ∀ L : List α, (delG (fun (_ : Unit) x => p x) (fun _ _ => ()) () L).2 = L.filter fun x => !p x
  | [] => rfl
  | x :: L => by
    rw [delG_cons, delG_pure p L, List.filter_cons]
    cases p x <;> simp
/-- With a predicate that leaves the world. -/
theorem s_idxFp {acc : Sl → Int → (Value → K) → K} {s : Sl} {fv : Value} {vV : α → Value} {Q : Int → K} {L : List α} (p : α → Bool) (hn : s.n = L.length) (hL : L.length < 1000000000)
    (hacc : ∀ (i : Nat) x k, L[i]? = some x → HG B Γ (k (vV x)) → HG B Γ (acc s (i : Int) k))
    (hf : ∀ x (q : Bool → K), x ∈ L → HG B Γ (q (p x)) → HG B Γ (CallV P fv [vV x] (Ans1 (fun (t : Bool) => Value.bool t) q)))
    (h : HG B Γ (Q (idxI (L.findIdx? p)))) : HG B Γ (idxFK P acc s fv Q) :=
  s_idxF (R := fun _ => Γ) (fun (_ : Unit) x => p x) (fun _ _ => ()) () (fun _ _ => True) trivial (fun _ _ _ _ => trivial) hn hL (fun _ => hacc) (fun _ x _ q hx _ => hf x q hx) (by rw [findG_pure]; exact h)
theorem idxI_nonneg (o : Option Nat) : decide ((0 : Int) ≤ idxI o) = o.isSome := by
  cases o <;> simp [idxI]
theorem any_idx (p : α → Bool) (L : List α) : (L.findIdx? p).isSome = L.any p := by simp [List.findIdx?_isSome]
/-- Elements of one's own, and of others. -/
theorem acc_own {f : α → List Value} {esz E : Nat} {s : Sl} {L : List α} {i : Nat} {x : α} {k : Value → K} (hf : ∀ x, (f x).length = esz) (he : 0 < esz) (hx : L[i]? = some x) (h : HG B Γ (k (.agg (f x).toArray))) [o : OwnS s Γ (SlC E esz s (L.flatMap f)) Δ] : HG B Γ (accN esz s (i : Int) k) :=
  s_idxN f hf (fun w hw => (own_rd hw (p := o)).1) hx h rfl he
theorem acc_rd {f : α → List Value} {esz : Nat} {s : Sl} {L : List α} {i : Nat} {x : α} {k : Value → K} (hf : ∀ x, (f x).length = esz) (he : 0 < esz) (hr : ∀ w, Holds B Γ w → RdC w s esz (L.flatMap f)) (hx : L[i]? = some x) (h : HG B Γ (k (.agg (f x).toArray))) : HG B Γ (accN esz s (i : Int) k) :=
  s_idxN f hf hr hx h rfl he
theorem acc1_own {β : Type} {c : β → Value} {E : Nat} {s : Sl} {L : List β} {i : Nat} {x : β} {k : Value → K} (hx : L[i]? = some x) (h : HG B Γ (k (c x))) [o : OwnS s Γ (SlC E 1 s (L.map c)) Δ] : HG B Γ (acc1 c s (i : Int) k) :=
  s_idx1 (fun w hw => (own_rd hw (p := o)).1) hx h
theorem acc1_rd {β : Type} {c : β → Value} {s : Sl} {L : List β} {i : Nat} {x : β} {k : Value → K} (hr : ∀ w, Holds B Γ w → RdC w s 1 (L.map c)) (hx : L[i]? = some x) (h : HG B Γ (k (c x))) : HG B Γ (acc1 c s (i : Int) k) :=
  s_idx1 hr hx h

/-! ### DeleteFunc -/
/-- slices.DeleteFunc over elements of some cells, as it is printed; idx is its IndexFunc. -/
def delFN (P : Program) (idx : Sl → Value → (Int → K) → K) (E T t esz : Nat) (zs : List Value) (s : Sl) (fv : Value) (Q : Sl → K) : K :=
  idx s fv fun t10 =>
  Ite (decide (t10 = (-1)))
    (Q s)
    (Ar (IntKind.wrap .i64 (t10 + 1)) fun t15 =>
    LoopK (α := Int × Int) (fun X x =>
      Ite (decide (x.2 < (s.n : Int)))
        (Idx s x.2 esz fun t24 =>
        LdN t24 esz fun t25 =>
        New E zs.toArray fun v7 =>
        StN v7 esz t25 <|
        LdN v7 esz fun t27 =>
        CallV P fv [(.agg t27)] <| Ans1 (fun (t28 : Bool) => Value.bool t28) fun t28 =>
        Ite (!t28)
          (LdN v7 esz fun t32 =>
          Idx s x.1 esz fun t33 =>
          StN t33 esz t32 <|
          Ar (IntKind.wrap .i64 (x.1 + 1)) fun t35 =>
          Ar (IntKind.wrap .i64 (x.2 + 1)) fun t21 =>
          X (t35, t21))
          (Ar (IntKind.wrap .i64 (x.2 + 1)) fun t21 =>
          X (x.1, t21)))
        (Slc s x.1 (s.n : Int) (s.c : Int) esz fun t38 =>
        Do P (Builtin.clear_ #[T] t #[(Sl.val t38)]) id fun _ =>
        Slc s 0 x.1 (s.c : Int) esz fun t41 =>
        Q t41)) (t10, t15))
def delF1 {β : Type} (P : Program) (idx : Sl → Value → (Int → K) → K) (T t : Nat) (c : β → Value) (s : Sl) (fv : Value) (Q : Sl → K) : K :=
  idx s fv fun t10 =>
  Ite (decide (t10 = (-1)))
    (Q s)
    (Ar (IntKind.wrap .i64 (t10 + 1)) fun t15 =>
    LoopK (α := Int × Int) (fun X x =>
      Ite (decide (x.2 < (s.n : Int)))
        (Idx s x.2 1 fun t24 =>
        Ld t24 c fun t25 =>
        CallV P fv [c t25] <| Ans1 (fun (t28 : Bool) => Value.bool t28) fun t28 =>
        Ite (!t28)
          (Idx s x.1 1 fun t33 =>
          St t33 (c t25) <|
          Ar (IntKind.wrap .i64 (x.1 + 1)) fun t35 =>
          Ar (IntKind.wrap .i64 (x.2 + 1)) fun t21 =>
          X (t35, t21))
          (Ar (IntKind.wrap .i64 (x.2 + 1)) fun t21 =>
          X (x.1, t21)))
        (Slc s x.1 (s.n : Int) (s.c : Int) 1 fun t38 =>
        Do P (Builtin.clear_ #[T] t #[(Sl.val t38)]) id fun _ =>
        Slc s 0 x.1 (s.c : Int) 1 fun t41 =>
        Q t41)) (t10, t15))
/-- Where the first one goes. -/
theorem findG_del (p : γ → α → Bool) (st : γ → α → γ) {I : γ → List α → Prop} (hIs : ∀ g x C, I g (x :: C) → I (st g x) C) : ∀ (g : γ) (L : List α), I g L → ((findG p st g L).2 = none ∧ delG p st g L = ((findG p st g L).1, L)) ∨
    ∃ A x C, L = A ++ x :: C ∧ (findG p st g L).2 = some A.length ∧ I (findG p st g L).1 C ∧ delG p st g L = ((delG p st (findG p st g L).1 C).1, A ++ (delG p st (findG p st g L).1 C).2)
  | g, [], _ => .inl ⟨rfl, rfl⟩
  | g, x :: L, hI => by
    rw [findG_cons, delG_cons]
    by_cases hp : p g x = true
    · right
      exact ⟨[], x, L, rfl, by simp [hp], by simpa [hp] using hIs _ _ _ hI, by simp [hp]⟩
    · rcases findG_del p st hIs (st g x) L (hIs _ _ _ hI) with ⟨h1, h2⟩ | ⟨A, y, C, rfl, h2, h4, h3⟩
      · left
        simp only [hp, Bool.false_eq_true, if_false, h1, h2, Option.map_none, and_self]
      · right
        refine ⟨x :: A, y, C, rfl, ?_, ?_, ?_⟩
        · simp only [hp, Bool.false_eq_true, if_false, h2, Option.map_some, List.length_cons]
        · simpa only [hp, Bool.false_eq_true, if_false] using h4
        · simp only [hp, Bool.false_eq_true, if_false, h3, List.cons_append]
theorem set_take {M : List α} {i : Nat} {x : α} (hi : i < M.length) : (M.set i x).take (i + 1) = M.take i ++ [x] := by
  rw [List.take_succ_eq_append_getElem (by simpa using hi), List.take_set_of_le (Nat.le_refl _), List.getElem_set_self]
theorem set_drop {M : List α} {i j : Nat} {x : α} (hij : i < j) : (M.set i x).drop j = M.drop j := by rw [List.drop_set_of_lt hij]
theorem flatMap_set {f : α → List Value} {esz E : Nat} {s : Sl} {M : List α} {i : Nat} {x : α} {k : K} (hf : ∀ x, (f x).length = esz) (hfl : (f x).all flatV = true) (hi : i < M.length) (h : HG B (SlC E esz s ((M.set i x).flatMap f) :: Δ) k) [o : OwnS s Γ (SlC E esz s (M.flatMap f)) Δ] : HG B Γ (StN (elA s i esz) esz (f x).toArray k) := by
  have e1 : M = M.take i ++ M[i] :: M.drop (i + 1) := by rw [← List.drop_eq_getElem_cons hi, List.take_append_drop]
  have e2 : M.set i x = M.take i ++ x :: M.drop (i + 1) := by rw [List.set_eq_take_append_cons_drop, if_pos hi]
  have hl : (M.take i).length = i := by rw [List.length_take]; omega
  rw [e2] at h
  refine fun w hw => ?_
  have hw2 := hw.perm o.perm
  rw [e1] at hw2
  rw [show elA s i esz = elA s (M.take i).length esz by rw [hl]]
  refine hg hw2 ?_
  rw [← add0 (elA s (M.take i).length esz)]
  refine s_stEN (s := s) (us := f x) ?_ (hf x) ?_ hfl
  · have e : layAt ((M.take i ++ M[i] :: M.drop (i + 1)).flatMap f) ((M.take i).length * esz + 0) (f x) = (M.take i ++ x :: M.drop (i + 1)).flatMap f := by
      have e1 : (M.take i ++ M[i] :: M.drop (i + 1)).flatMap f = (M.take i).flatMap f ++ (f M[i] ++ (M.drop (i + 1)).flatMap f) := by simp only [List.flatMap_append, List.flatMap_cons]
      have e2 : (M.take i ++ x :: M.drop (i + 1)).flatMap f = (M.take i).flatMap f ++ (f x ++ (M.drop (i + 1)).flatMap f) := by simp only [List.flatMap_append, List.flatMap_cons]
      rw [e1, e2, layAt_mid (by simp [flatMap_len f esz hf]) (by rw [hf, hf])]
    rw [e]; exact h
  · have e3 : ((M.take i ++ M[i] :: M.drop (i + 1)).flatMap f).length = ((M.take i).length + ((M.drop (i + 1)).length + 1)) * esz := by rw [flatMap_len f esz hf]; simp only [List.length_append, List.length_cons]
    rw [e3, Nat.add_mul, Nat.add_mul]; omega
theorem flatMap_tk {f : α → List Value} {esz : Nat} (hf : ∀ x, (f x).length = esz) : ∀ (L : List α) (i : Nat), (L.flatMap f).take (i * esz) = (L.take i).flatMap f
  | L, 0 => by simp
  | [], i + 1 => by simp
  | x :: L, i + 1 => by
    rw [List.flatMap_cons, List.take_succ_cons, List.flatMap_cons, ← flatMap_tk hf L i, Nat.add_mul, Nat.one_mul, Nat.add_comm, ← hf x, List.take_length_add_append]
/-- DeleteFunc. -/
theorem s_delFN {R : γ → List HProp} {idx : Sl → Value → (Int → K) → K} {E T t esz : Nat} {zs : List Value} {s : Sl} {fv : Value} {Q : Sl → K} {f : α → List Value} {L : List α} (p : γ → α → Bool) (st : γ → α → γ) (g0 : γ) (I : γ → List α → Prop) (hI : I g0 L) (hIs : ∀ g x C, I g (x :: C) → I (st g x) C)
    (hidx : ∀ s fv Q w, idxFK P (accN esz) s fv Q w → idx s fv Q w) (hf : ∀ x, (f x).length = esz) (he : 0 < esz) (hfl : ∀ x, (f x).all flatV = true) (hz : zs.length = esz) (hL : L.length < 1000000000)
    (hc : ∀ Ξ g x C (q : Bool → K), x ∈ L → I g (x :: C) → HG B (Ξ :: R (st g x)) (q (p g x)) → HG B (Ξ :: R g) (CallV P fv [(.agg (f x).toArray)] (Ans1 (fun (t : Bool) => Value.bool t) q)))
    (h : ∀ s', s'.n = (delG p st g0 L).2.length → HG B (SlC E esz s' ((delG p st g0 L).2.flatMap f) :: R (delG p st g0 L).1) (Q s')) (hT : appT P T T E esz = true := by kernel_rfl) :
    HG B (SlC E esz s (L.flatMap f) :: R g0) (delFN P idx E T t esz zs s fv Q) := by
  unfold delFN
  refine s_cap s fun a1 a2 a3 a4 => ?_
  rw [flatMap_len f esz hf] at a1
  have hn : s.n = L.length := (Nat.eq_of_mul_eq_mul_right he a1).symm
  refine fun w hw => hidx _ _ _ _ ?_
  refine hg hw ?_
  clear hw w
  refine s_idxF (R := fun g => SlC E esz s (L.flatMap f) :: R g) (vV := fun x => .agg (f x).toArray) p st g0 I hI hIs hn hL (fun g i x k hx hk => acc_own hf he hx hk) (fun g x C q hx hI hq => hc _ g x C q hx hI hq) ?_
  rcases findG_del p st hIs g0 L hI with ⟨h1, h2⟩ | ⟨A, x, C, rfl, h1, hI1, h2⟩
  · rw [h1]
    rw [h2] at h
    refine s_t ?_ (by simp [idxI])
    exact h s hn
  rw [h1]
  have hlen : (A ++ x :: C).length = A.length + (C.length + 1) := List.length_append
  generalize (findG p st g0 (A ++ x :: C)).1 = g1 at *
  refine s_f ?_ (by simp [idxI])
  simp only [idxI]
  refine s_ai ?_
  refine s_loop (α := Int × Int) (ι := Nat × Nat × List α × γ) (fun y i => y.1 = (i.1 : Int) ∧ y.2 = (i.2.1 : Int) ∧ i.1 < i.2.1 ∧ i.2.1 ≤ (A ++ x :: C).length ∧ i.2.2.1.length = (A ++ x :: C).length ∧ i.2.2.1.drop i.2.1 = (A ++ x :: C).drop i.2.1 ∧ I i.2.2.2 ((A ++ x :: C).drop i.2.1) ∧ delG p st g0 (A ++ x :: C) = ((delG p st i.2.2.2 ((A ++ x :: C).drop i.2.1)).1, i.2.2.1.take i.1 ++ (delG p st i.2.2.2 ((A ++ x :: C).drop i.2.1)).2))
    (fun y i => SlC E esz s (i.2.2.1.flatMap f) :: R i.2.2.2) (fun y i => (A ++ x :: C).length - i.2.1) (A.length, A.length + 1, A ++ x :: C, g1) ⟨rfl, by simp, by simp, by simp, rfl, rfl, ?_, ?_⟩ ?_
  · simp only
    have e : (A ++ x :: C).drop (A.length + 1) = C := by rw [show A ++ x :: C = (A ++ [x]) ++ C by simp]; exact List.drop_left' (by simp)
    rw [e]; exact hI1
  · simp only
    have e : (A ++ x :: C).drop (A.length + 1) = C := by rw [show A ++ x :: C = (A ++ [x]) ++ C by simp]; exact List.drop_left' (by simp)
    rw [e, List.take_left, h2]
  rintro k' ⟨_, _⟩ ⟨i, j, M, g⟩ ⟨rfl, rfl, hij, hj, hM, hd, hIg, hdel⟩ hk'
  simp only at hij hj hM hd hIg hdel hk' ⊢
  refine s_ite (fun hb => ?_) fun hb => ?_
  · have hjl : j < (A ++ x :: C).length := by simp only [decide_eq_true_eq] at hb; omega
    have hMj : M[j]? = some (A ++ x :: C)[j] := by
      have := congrArg (·[0]?) hd
      simp only [List.getElem?_drop, Nat.add_zero] at this
      rw [this, List.getElem?_eq_getElem hjl]
    have hmem : (A ++ x :: C)[j] ∈ A ++ x :: C := List.getElem_mem hjl
    have hdrop := List.drop_eq_getElem_cons hjl
    rw [hdrop] at hdel hIg
    generalize (A ++ x :: C)[j] = y at hMj hmem hdel hdrop hIg
    rw [delG_cons] at hdel
    refine s_idxN f hf (fun w hw => (own_rd (s := s) hw).1) hMj ?_
    refine s_new fun v7 => ?_
    refine s_stN (b := v7) ?_ hz (hf y) (hfl y)
    refine s_ldW (b := v7) ?_ (hf y)
    refine s_unflat (Δ := [blk v7 (.cells (f y).toArray E (0, 0)), SlC E esz s (M.flatMap f)]) ?_
    refine hc _ g y _ _ hmem hIg ?_
    refine s_flat ?_
    show HG B (blk v7 (.cells (f y).toArray E (0, 0)) :: SlC E esz s (M.flatMap f) :: R (st g y)) _
    refine s_ite (fun hp => ?_) fun hp => ?_
    · have hp' : p g y = false := by simpa using hp
      rw [hp'] at hdel
      simp only [Bool.false_eq_true, if_false] at hdel
      refine s_ldW (b := v7) ?_ (hf y)
      refine s_idx (s := s) (i := i) ?_
      refine flatMap_set (s := s) hf (hfl y) (by omega) ?_
      refine s_ai ?_
      refine s_ai ?_
      refine s_end (hk' _ (i + 1, j + 1, M.set i y, st g y) ⟨by simp, by simp, by simp only; omega, hjl, by simpa using hM, ?_, hIs _ _ _ hIg, ?_⟩ (by simp only; omega))
      · simp only
        rw [set_drop (by omega), ← List.drop_drop, ← List.drop_drop, hd]
      · simp only
        rw [set_take (by omega), hdel]
        simp
    · have hp' : p g y = true := by simpa using hp
      rw [hp'] at hdel
      simp only [if_true] at hdel
      refine s_ai ?_
      refine s_end (hk' _ (i, j + 1, M, st g y) ⟨rfl, by simp, by simp only; omega, hjl, hM, ?_, hIs _ _ _ hIg, hdel⟩ (by simp only; omega))
      simp only
      rw [← List.drop_drop, ← List.drop_drop, hd]
  · have hjl : j = (A ++ x :: C).length := by simp only [decide_eq_false_iff_not] at hb; omega
    rw [hjl, List.drop_length] at hdel
    simp only [delG, List.append_nil] at hdel
    rw [hdel] at h
    refine s_slc (lo := i) (hi := s.n) (mx := s.c) ?_
    refine s_shrink (s := s) (m := i) (c' := s.c) (by omega) (by omega) (Nat.le_refl _) ?_
    rw [flatMap_tk hf]
    refine s_clear (s := ⟨s.a, i, s.c⟩) (l := i) (q := s.n - i) (m := s.c) rfl (Nat.le_refl _) (by simp only; omega) (by omega) ?_ (hT := hT)
    refine s_slc (lo := 0) (hi := i) (mx := s.c) ?_
    rw [cut0 a3]
    exact h ⟨s.a, i, s.c⟩ (by simp; omega)
theorem s_delF1 {β : Type} {R : γ → List HProp} {idx : Sl → Value → (Int → K) → K} {E T t : Nat} {c : β → Value} {s : Sl} {fv : Value} {Q : Sl → K} {L : List β} (p : γ → β → Bool) (st : γ → β → γ) (g0 : γ) (I : γ → List β → Prop) (hI : I g0 L) (hIs : ∀ g x C, I g (x :: C) → I (st g x) C)
    (hidx : ∀ s fv Q w, idxFK P (acc1 c) s fv Q w → idx s fv Q w) (hfl : ∀ x, flatV (c x) = true) (hL : L.length < 1000000000)
    (hc : ∀ Ξ g x C (q : Bool → K), x ∈ L → I g (x :: C) → HG B (Ξ :: R (st g x)) (q (p g x)) → HG B (Ξ :: R g) (CallV P fv [c x] (Ans1 (fun (t : Bool) => Value.bool t) q)))
    (h : ∀ s', s'.n = (delG p st g0 L).2.length → HG B (SlC E 1 s' ((delG p st g0 L).2.map c) :: R (delG p st g0 L).1) (Q s')) (hT : appT P T T E 1 = true := by kernel_rfl) :
    HG B (SlC E 1 s (L.map c) :: R g0) (delF1 P idx T t c s fv Q) := by
  unfold delF1
  refine s_cap s fun a1 a2 a3 a4 => ?_
  rw [List.length_map, Nat.mul_one] at a1
  have hn : s.n = L.length := a1.symm
  refine fun w hw => hidx _ _ _ _ ?_
  refine hg hw ?_
  clear hw w
  refine s_idxF (R := fun g => SlC E 1 s (L.map c) :: R g) (vV := c) p st g0 I hI hIs hn hL (fun g i x k hx hk => acc1_own hx hk) (fun g x C q hx hI hq => hc _ g x C q hx hI hq) ?_
  rcases findG_del p st hIs g0 L hI with ⟨h1, h2⟩ | ⟨A, x, C, rfl, h1, hI1, h2⟩
  · rw [h1]
    rw [h2] at h
    refine s_t ?_ (by simp [idxI])
    exact h s hn
  rw [h1]
  have hlen : (A ++ x :: C).length = A.length + (C.length + 1) := List.length_append
  generalize (findG p st g0 (A ++ x :: C)).1 = g1 at *
  refine s_f ?_ (by simp [idxI])
  simp only [idxI]
  refine s_ai ?_
  refine s_loop (α := Int × Int) (ι := Nat × Nat × List β × γ) (fun y i => y.1 = (i.1 : Int) ∧ y.2 = (i.2.1 : Int) ∧ i.1 < i.2.1 ∧ i.2.1 ≤ (A ++ x :: C).length ∧ i.2.2.1.length = (A ++ x :: C).length ∧ i.2.2.1.drop i.2.1 = (A ++ x :: C).drop i.2.1 ∧ I i.2.2.2 ((A ++ x :: C).drop i.2.1) ∧ delG p st g0 (A ++ x :: C) = ((delG p st i.2.2.2 ((A ++ x :: C).drop i.2.1)).1, i.2.2.1.take i.1 ++ (delG p st i.2.2.2 ((A ++ x :: C).drop i.2.1)).2))
    (fun y i => SlC E 1 s (i.2.2.1.map c) :: R i.2.2.2) (fun y i => (A ++ x :: C).length - i.2.1) (A.length, A.length + 1, A ++ x :: C, g1) ⟨rfl, by simp, by simp, by simp, rfl, rfl, ?_, ?_⟩ ?_
  · simp only
    have e : (A ++ x :: C).drop (A.length + 1) = C := by rw [show A ++ x :: C = (A ++ [x]) ++ C by simp]; exact List.drop_left' (by simp)
    rw [e]; exact hI1
  · simp only
    have e : (A ++ x :: C).drop (A.length + 1) = C := by rw [show A ++ x :: C = (A ++ [x]) ++ C by simp]; exact List.drop_left' (by simp)
    rw [e, List.take_left, h2]
  rintro k' ⟨_, _⟩ ⟨i, j, M, g⟩ ⟨rfl, rfl, hij, hj, hM, hd, hIg, hdel⟩ hk'
  simp only at hij hj hM hd hIg hdel hk' ⊢
  refine s_ite (fun hb => ?_) fun hb => ?_
  · have hjl : j < (A ++ x :: C).length := by simp only [decide_eq_true_eq] at hb; omega
    have hMj : M[j]? = some (A ++ x :: C)[j] := by
      have := congrArg (·[0]?) hd
      simp only [List.getElem?_drop, Nat.add_zero] at this
      rw [this, List.getElem?_eq_getElem hjl]
    have hmem : (A ++ x :: C)[j] ∈ A ++ x :: C := List.getElem_mem hjl
    have hdrop := List.drop_eq_getElem_cons hjl
    rw [hdrop] at hdel hIg
    generalize (A ++ x :: C)[j] = y at hMj hmem hdel hdrop hIg
    rw [delG_cons] at hdel
    refine s_idx1 (fun w hw => (own_rd (s := s) hw).1) hMj ?_
    refine hc _ g y _ _ hmem hIg ?_
    refine s_ite (fun hp => ?_) fun hp => ?_
    · have hp' : p g y = false := by simpa using hp
      rw [hp'] at hdel
      simp only [Bool.false_eq_true, if_false] at hdel
      refine s_idx (s := s) (i := i) ?_
      rw [← add0 (elA s i 1)]
      refine s_stE (s := s) ?_ (by simp; omega) (hfl y)
      rw [show i * 1 + 0 = i by omega, ← List.map_set]
      refine s_ai ?_
      refine s_ai ?_
      refine s_end (hk' _ (i + 1, j + 1, M.set i y, st g y) ⟨by simp, by simp, by simp only; omega, hjl, by simpa using hM, ?_, hIs _ _ _ hIg, ?_⟩ (by simp only; omega))
      · simp only
        rw [set_drop (by omega), ← List.drop_drop, ← List.drop_drop, hd]
      · simp only
        rw [set_take (by omega), hdel]
        simp
    · have hp' : p g y = true := by simpa using hp
      rw [hp'] at hdel
      simp only [if_true] at hdel
      refine s_ai ?_
      refine s_end (hk' _ (i, j + 1, M, st g y) ⟨rfl, by simp, by simp only; omega, hjl, hM, ?_, hIs _ _ _ hIg, hdel⟩ (by simp only; omega))
      simp only
      rw [← List.drop_drop, ← List.drop_drop, hd]
  · have hjl : j = (A ++ x :: C).length := by simp only [decide_eq_false_iff_not] at hb; omega
    rw [hjl, List.drop_length] at hdel
    simp only [delG, List.append_nil] at hdel
    rw [hdel] at h
    refine s_slc (lo := i) (hi := s.n) (mx := s.c) ?_
    refine s_shrink (s := s) (m := i) (c' := s.c) (by omega) (by omega) (Nat.le_refl _) ?_
    rw [show (M.map c).take (i * 1) = (M.take i).map c by simp]
    refine s_clear (s := ⟨s.a, i, s.c⟩) (l := i) (q := s.n - i) (m := s.c) rfl (Nat.le_refl _) (by simp only; omega) (by omega) ?_ (hT := hT)
    refine s_slc (lo := 0) (hi := i) (mx := s.c) ?_
    rw [cut0 a3]
    exact h ⟨s.a, i, s.c⟩ (by simp; omega)
end
end Go.Sep
/- The shelf contract of slices.Sort on strings, laid at this program. -/
namespace Go.Proofs.YtfjjocopmknhgaaGreat
open Go.Proofs Go.Shelf
def sortRen : Go.Shelf.Ren := ⟨fun | 6 => 99 | 8 => 125 | 9 => 129 | 19 => 143 | 20 => 144 | 21 => 145 | 22 => 146 | 23 => 147 | 24 => 148 | 25 => 149 | 26 => 150 | 27 => 151 | 28 => 152 | 29 => 153 | 36 => 167 | 31 => 162 | 32 => 163 | 37 => 168 | 38 => 169 | 39 => 133 | 41 => 176 | n => n, fun | 27 => 23 | 29 => 9 | 3 => 3 | 32 => 210 | 26 => 23 | 0 => 0 | 44 => 228 | 46 => 35 | 4 => 4 | 36 => 221 | 35 => 220 | 41 => 178 | 5 => 5 | 9 => 9 | 53 => 243 | 57 => 247 | 63 => 257 | 64 => 258 | n => n, fun | n => n⟩
theorem sortLay : Go.Proofs.SlLaysM.n6 Tryz.prog sortRen := {
  mixed := by kernel_rfl
  f6 := ⟨Tryz.f99.name, by decide, Tryz.func99.trans (congrArg some (by kernel_rfl))⟩
  f8 := Tryz.func125.trans (congrArg some (by kernel_rfl))
  f9 := ⟨Tryz.f129.name, by decide, Tryz.func129.trans (congrArg some (by kernel_rfl))⟩
  f19 := Tryz.func143.trans (congrArg some (by kernel_rfl))
  f20 := Tryz.func144.trans (congrArg some (by kernel_rfl))
  f21 := ⟨Tryz.f145.name, by decide, Tryz.func145.trans (congrArg some (by kernel_rfl))⟩
  f22 := ⟨Tryz.f146.name, by decide, Tryz.func146.trans (congrArg some (by kernel_rfl))⟩
  f23 := ⟨Tryz.f147.name, by decide, Tryz.func147.trans (congrArg some (by kernel_rfl))⟩
  f24 := ⟨Tryz.f148.name, by decide, Tryz.func148.trans (congrArg some (by kernel_rfl))⟩
  f25 := ⟨Tryz.f149.name, by decide, Tryz.func149.trans (congrArg some (by kernel_rfl))⟩
  f26 := ⟨Tryz.f150.name, by decide, Tryz.func150.trans (congrArg some (by kernel_rfl))⟩
  f27 := ⟨Tryz.f151.name, by decide, Tryz.func151.trans (congrArg some (by kernel_rfl))⟩
  f28 := ⟨Tryz.f152.name, by decide, Tryz.func152.trans (congrArg some (by kernel_rfl))⟩
  f29 := ⟨Tryz.f153.name, by decide, Tryz.func153.trans (congrArg some (by kernel_rfl))⟩
  f31 := Tryz.func162.trans (congrArg some (by kernel_rfl))
  f32 := Tryz.func163.trans (congrArg some (by kernel_rfl))
  f36 := ⟨Tryz.f167.name, by decide, Tryz.func167.trans (congrArg some (by kernel_rfl))⟩
  f37 := ⟨Tryz.f168.name, by decide, Tryz.func168.trans (congrArg some (by kernel_rfl))⟩
  f38 := ⟨Tryz.f169.name, by decide, Tryz.func169.trans (congrArg some (by kernel_rfl))⟩
  f39 := ⟨Tryz.f133.name, by decide, Tryz.func133.trans (congrArg some (by kernel_rfl))⟩
  f41 := ⟨Tryz.f176.name, by decide, Tryz.func176.trans (congrArg some (by kernel_rfl))⟩
  t0 := Tryz.underlying0
  a0 := Tryz.isAgg0
  z0 := Tryz.sizeOf0
  v0 := Tryz.zeroValue0
  t3 := Tryz.underlying3
  a3 := Tryz.isAgg3
  z3 := Tryz.sizeOf3
  v3 := Tryz.zeroValue3
  t4 := Tryz.underlying4
  a4 := Tryz.isAgg4
  z4 := Tryz.sizeOf4
  v4 := Tryz.zeroValue4
  t5 := Tryz.underlying5
  a5 := Tryz.isAgg5
  z5 := Tryz.sizeOf5
  v5 := Tryz.zeroValue5
  t9 := Tryz.underlying9
  a9 := Tryz.isAgg9
  z9 := Tryz.sizeOf9
  v9 := Tryz.zeroValue9
  t26 := Tryz.underlying23
  a26 := Tryz.isAgg23
  z26 := Tryz.sizeOf23
  v26 := Tryz.zeroValue23
  t27 := Tryz.underlying23
  a27 := Tryz.isAgg23
  z27 := Tryz.sizeOf23
  v27 := Tryz.zeroValue23
  t29 := Tryz.underlying9
  a29 := Tryz.isAgg9
  z29 := Tryz.sizeOf9
  v29 := Tryz.zeroValue9
  t32 := Tryz.underlying210
  a32 := Tryz.isAgg210
  z32 := Tryz.sizeOf210
  v32 := Tryz.zeroValue210
  t35 := Tryz.underlying220
  a35 := Tryz.isAgg220
  z35 := Tryz.sizeOf220
  v35 := Tryz.zeroValue220
  t36 := Tryz.underlying221
  a36 := Tryz.isAgg221
  z36 := Tryz.sizeOf221
  v36 := Tryz.zeroValue221
  t41 := Tryz.underlying178
  a41 := Tryz.isAgg178
  z41 := Tryz.sizeOf178
  v41 := Tryz.zeroValue178
  t44 := Tryz.underlying228
  a44 := Tryz.isAgg228
  z44 := Tryz.sizeOf228
  v44 := Tryz.zeroValue228
  t46 := Tryz.underlying35
  a46 := Tryz.isAgg35
  z46 := Tryz.sizeOf35
  v46 := Tryz.zeroValue35
  t53 := Tryz.underlying243
  a53 := Tryz.isAgg243
  z53 := Tryz.sizeOf243
  v53 := Tryz.zeroValue243
  t57 := Tryz.underlying247
  a57 := Tryz.isAgg247
  z57 := Tryz.sizeOf247
  v57 := Tryz.zeroValue247
  t63 := Tryz.underlying257
  a63 := Tryz.isAgg257
  z63 := Tryz.sizeOf257
  v63 := Tryz.zeroValue257
  t64 := Tryz.underlying258
  a64 := Tryz.isAgg258
  z64 := Tryz.sizeOf258
  v64 := Tryz.zeroValue258 }
end Go.Proofs.YtfjjocopmknhgaaGreat
/- Plain forms of functions, and that their code comes to them (package lib_slices). -/
namespace Go.Proofs.YtfjjocopmknhgaaGreat
open Go Go.Sep
set_option linter.unusedVariables false
set_option linter.unusedSimpArgs false
set_option maxRecDepth 100000
set_option maxHeartbeats 4000000
attribute [local irreducible] G Gp Cx Tx Ex Sx Dx Ox Ax Lx Rx Fx Bx Bj Al Do Ld LdN St StN New CallF Ar DoU Rd Rd2 Pu Cd Ite Fv CallV CallY Ans0 Ans1 Ans2 Ans3 Ans4 Ans5 Ext Dead Dr WithS Sv LdS LdNS RdS Rd2S Nn Idx IdxA IdxS Fld Bld Slc SlcS Cat All LoopK RangeF RangeJ TakeD
namespace F_IRLibSlices
instance at_167 : AT Tryz.prog 167 7 := ⟨by kernel_rfl⟩
instance at_39 : AT Tryz.prog 39 4 := ⟨by kernel_rfl⟩
instance cb_114 : CB Tryz.prog 114 := ⟨by kernel_rfl⟩
instance cb_124 : CB Tryz.prog 124 := ⟨by kernel_rfl⟩
instance cb_125 : CB Tryz.prog 125 := ⟨by kernel_rfl⟩
instance cb_128 : CB Tryz.prog 128 := ⟨by kernel_rfl⟩
instance cb_129 : CB Tryz.prog 129 := ⟨by kernel_rfl⟩
instance cb_132 : CB Tryz.prog 132 := ⟨by kernel_rfl⟩
instance cb_83 : CB Tryz.prog 83 := ⟨by kernel_rfl⟩
instance cb_86 : CB Tryz.prog 86 := ⟨by kernel_rfl⟩
instance cb_98 : CB Tryz.prog 98 := ⟨by kernel_rfl⟩
instance cb_99 : CB Tryz.prog 99 := ⟨by kernel_rfl⟩
instance ct_23 : CT Tryz.prog 23 := ⟨by kernel_rfl⟩
instance ct_3 : CT Tryz.prog 3 := ⟨by kernel_rfl⟩
instance ct_9 : CT Tryz.prog 9 := ⟨by kernel_rfl⟩
instance in_210 : INT Tryz.prog 210 .u64 := ⟨by kernel_rfl⟩
instance in_3 : INT Tryz.prog 3 .i64 := ⟨by kernel_rfl⟩
instance mx : MX Tryz.prog := ⟨mixed⟩
instance sl_122 : SLT Tryz.prog 122 3 1 := ⟨by kernel_rfl⟩
instance sl_160 : SLT Tryz.prog 160 167 7 := ⟨by kernel_rfl⟩
instance sl_217 : SLT Tryz.prog 217 23 1 := ⟨by kernel_rfl⟩
instance sl_23 : SLT Tryz.prog 23 9 1 := ⟨by kernel_rfl⟩
instance sl_24 : SLT Tryz.prog 24 109 4 := ⟨by kernel_rfl⟩
instance sl_88 : SLT Tryz.prog 88 39 4 := ⟨by kernel_rfl⟩
instance sz_167 : SZ Tryz.prog 167 7 := ⟨by kernel_rfl⟩
instance sz_23 : SZ Tryz.prog 23 1 := ⟨by kernel_rfl⟩
instance sz_3 : SZ Tryz.prog 3 1 := ⟨by kernel_rfl⟩
instance sz_9 : SZ Tryz.prog 9 1 := ⟨by kernel_rfl⟩
instance un_23 : UN Tryz.prog 23 (.slice 9) := ⟨Tryz.underlying23⟩
instance un_24 : UN Tryz.prog 24 (.slice 109) := ⟨Tryz.underlying24⟩
instance zt_109 : ZT Tryz.prog 109 (.agg #[(.int .i64 0), (.string ⟨#[]⟩), (Sl.val ⟨none, 0, 0⟩), (.int .i64 0)]) := ⟨Tryz.t109, by kernel_rfl, by kernel_rfl⟩
instance zt_167 : ZT Tryz.prog 167 (.agg #[(.int .i64 0), (.int .u64 0), (.int .u64 0), (.int .i64 0), (.string ⟨#[]⟩), (.int .i64 0), (.int .u64 0)]) := ⟨Tryz.t167, by kernel_rfl, by kernel_rfl⟩
instance zt_9 : ZT Tryz.prog 9 (.string ⟨#[]⟩) := ⟨Tryz.t9, by kernel_rfl, by kernel_rfl⟩
end F_IRLibSlices
def slices_Sorted_string (seq0 : Value) (Q : Sl → K) : K :=
  slices_Collect_string.call seq0 fun t5 =>
  slices_Sort_s_string_string.call t5 <|
  Q t5
theorem slices_Sorted_string_ok (seq0 : Value) (Q : Sl → K) (w : World) (h : slices_Sorted_string seq0 Q w) : slices_Sorted_string.call seq0 Q w := by
  exact g_walk 9 h Tryz.func60
def slices_DeleteFunc_s_string_string.s2 (Q : Sl → K) (X1 : Int → Int → K) (s0_2 : Sl) (del1_2 : Value) (i5_2 : Int) (j6_2 : Int) : K :=
  Ar (IntKind.wrap .i64 (j6_2 + 1)) fun t21 =>
  X1 i5_2 t21
def slices_DeleteFunc_s_string_string.b1 (Q : Sl → K)  (X1 : Int → Int → K) (s0_1 : Sl) (del1_1 : Value) (i5_1 : Int) (j6_1 : Int) : K :=
  Ite (decide (j6_1 < (s0_1.n : Int)))
    (Idx s0_1 j6_1 1 fun t24 =>
    Ld t24 Value.string fun t25 =>
    CallV Tryz.prog del1_1 [(.string t25)] <| Ans1 (fun (t28 : Bool) => Value.bool t28) fun t28 =>
    Ite (!t28)
      (Idx s0_1 i5_1 1 fun t33 =>
      St t33 (.string t25) <|
      Ar (IntKind.wrap .i64 (i5_1 + 1)) fun t35 =>
      slices_DeleteFunc_s_string_string.s2 Q X1 s0_1 del1_1 t35 j6_1)
      (slices_DeleteFunc_s_string_string.s2 Q X1 s0_1 del1_1 i5_1 j6_1))
    (Slc s0_1 i5_1 (s0_1.n : Int) (s0_1.c : Int) 1 fun t38 =>
    Do Tryz.prog (Builtin.clear_ #[23] 0 #[(Sl.val t38)]) id fun _ =>
    Slc s0_1 0 i5_1 (s0_1.c : Int) 1 fun t41 =>
    Q t41)
def slices_DeleteFunc_s_string_string (s0 : Sl) (del1 : Value) (Q : Sl → K) : K :=
  slices_IndexFunc_s_string_string.call s0 del1 fun t10 =>
  Ite (decide (t10 = (-1)))
    (Q s0)
    (Ar (IntKind.wrap .i64 (t10 + 1)) fun t15 =>
    LoopK (α := Int × Int) (fun X x => slices_DeleteFunc_s_string_string.b1 Q (fun i5_1 j6_1 => X (i5_1, j6_1)) s0 del1 x.1 x.2) (t10, t15))
theorem slices_DeleteFunc_s_string_string_ok (s0 : Sl) (del1 : Value) (Q : Sl → K) (w : World) (h : slices_DeleteFunc_s_string_string s0 del1 Q w) : slices_DeleteFunc_s_string_string.call s0 del1 Q w := by
  have hJ6 : ∀ (X1 : (Int × Int) → K), XH 5 X1 → JH 6 fun D => ∃ (s0_2 : Sl) (del1_2 : Value) (j6_2 : Int), D [(0, (Sl.val s0_2)), (1, del1_2), (6, (.int .i64 j6_2))] (fun C => ∀ (i5_2 : Int), C [(0, (Sl.val s0_2)), (1, del1_2), (5, (.int .i64 i5_2)), (6, (.int .i64 j6_2))] (slices_DeleteFunc_s_string_string.s2 Q (fun i5_1 j6_1 => X1 (i5_1, j6_1)) s0_2 del1_2 i5_2 j6_2)) := by intros; exact ⟨fun _ ⟨_, _, _, h⟩ => ⟨_, _, h⟩⟩
  have hL5 : ∀ (s0_1 : Sl) (del1_1 : Value), LH 5 (fun x : Int × Int => [(0, (Sl.val s0_1)), (1, del1_1), (5, (.int .i64 x.1)), (6, (.int .i64 x.2))]) (fun X x => slices_DeleteFunc_s_string_string.b1 Q (fun i5_1 j6_1 => X (i5_1, j6_1)) s0_1 del1_1 x.1 x.2) := by intros; exact ⟨⟩
  exact g_walk 42 h Tryz.func77
def slices_DeleteFunc_s_locks_claim_locks_claim.s2 (Q : Sl → K) (X1 : Int → Int → K) (s0_2 : Sl) (del1_2 : Value) (i5_2 : Int) (j6_2 : Int) : K :=
  Ar (IntKind.wrap .i64 (j6_2 + 1)) fun t21 =>
  X1 i5_2 t21
def slices_DeleteFunc_s_locks_claim_locks_claim.b1 (Q : Sl → K)  (X1 : Int → Int → K) (s0_1 : Sl) (del1_1 : Value) (i5_1 : Int) (j6_1 : Int) : K :=
  Ite (decide (j6_1 < (s0_1.n : Int)))
    (Idx s0_1 j6_1 7 fun t24 =>
    LdN t24 7 fun t25 =>
    New 167 #[(.int .i64 0), (.int .u64 0), (.int .u64 0), (.int .i64 0), (.string ⟨#[]⟩), (.int .i64 0), (.int .u64 0)] fun v7 =>
    StN v7 7 t25 <|
    LdN v7 7 fun t27 =>
    CallV Tryz.prog del1_1 [(.agg t27)] <| Ans1 (fun (t28 : Bool) => Value.bool t28) fun t28 =>
    Ite (!t28)
      (LdN v7 7 fun t32 =>
      Idx s0_1 i5_1 7 fun t33 =>
      StN t33 7 t32 <|
      Ar (IntKind.wrap .i64 (i5_1 + 1)) fun t35 =>
      slices_DeleteFunc_s_locks_claim_locks_claim.s2 Q X1 s0_1 del1_1 t35 j6_1)
      (slices_DeleteFunc_s_locks_claim_locks_claim.s2 Q X1 s0_1 del1_1 i5_1 j6_1))
    (Slc s0_1 i5_1 (s0_1.n : Int) (s0_1.c : Int) 7 fun t38 =>
    Do Tryz.prog (Builtin.clear_ #[160] 0 #[(Sl.val t38)]) id fun _ =>
    Slc s0_1 0 i5_1 (s0_1.c : Int) 7 fun t41 =>
    Q t41)
def slices_DeleteFunc_s_locks_claim_locks_claim (s0 : Sl) (del1 : Value) (Q : Sl → K) : K :=
  slices_IndexFunc_s_locks_claim_locks_claim.call s0 del1 fun t10 =>
  Ite (decide (t10 = (-1)))
    (Q s0)
    (Ar (IntKind.wrap .i64 (t10 + 1)) fun t15 =>
    LoopK (α := Int × Int) (fun X x => slices_DeleteFunc_s_locks_claim_locks_claim.b1 Q (fun i5_1 j6_1 => X (i5_1, j6_1)) s0 del1 x.1 x.2) (t10, t15))
theorem slices_DeleteFunc_s_locks_claim_locks_claim_ok (s0 : Sl) (del1 : Value) (Q : Sl → K) (w : World) (h : slices_DeleteFunc_s_locks_claim_locks_claim s0 del1 Q w) : slices_DeleteFunc_s_locks_claim_locks_claim.call s0 del1 Q w := by
  have hJ6 : ∀ (X1 : (Int × Int) → K), XH 5 X1 → JH 6 fun D => ∃ (s0_2 : Sl) (del1_2 : Value) (j6_2 : Int), D [(0, (Sl.val s0_2)), (1, del1_2), (6, (.int .i64 j6_2))] (fun C => ∀ (i5_2 : Int), C [(0, (Sl.val s0_2)), (1, del1_2), (5, (.int .i64 i5_2)), (6, (.int .i64 j6_2))] (slices_DeleteFunc_s_locks_claim_locks_claim.s2 Q (fun i5_1 j6_1 => X1 (i5_1, j6_1)) s0_2 del1_2 i5_2 j6_2)) := by intros; exact ⟨fun _ ⟨_, _, _, h⟩ => ⟨_, _, h⟩⟩
  have hL5 : ∀ (s0_1 : Sl) (del1_1 : Value), LH 5 (fun x : Int × Int => [(0, (Sl.val s0_1)), (1, del1_1), (5, (.int .i64 x.1)), (6, (.int .i64 x.2))]) (fun X x => slices_DeleteFunc_s_locks_claim_locks_claim.b1 Q (fun i5_1 j6_1 => X (i5_1, j6_1)) s0_1 del1_1 x.1 x.2) := by intros; exact ⟨⟩
  exact g_walk 42 h Tryz.func81
def slices_Index_s_api_Tag_api_Tag.b1 (Q : Int → K)  (X1 : Int → K) (s0_1 : Sl) (v3_1 : Addr) (t7_1 : Int) (t8_1 : Int) : K :=
  Ite (decide (t8_1 < t7_1))
    (Dr <|
    LdN v3_1 4 fun t11 =>
    Idx s0_1 t8_1 4 fun t14 =>
    LdN t14 4 fun t15 =>
    Pu Tryz.prog (do eqGuard .eql 39 (.tmp 11) (.tmp 15) (.agg t11) (.agg t15); binOp .eql 39 (.agg t11) (.agg t15) : Sem Value) Value.bool fun t16 =>
    Ite t16
      (Q t8_1)
      (Ar (IntKind.wrap .i64 (t8_1 + 1)) fun t18 =>
      X1 t18))
    (Q (-1))
def slices_Index_s_api_Tag_api_Tag (s0 : Sl) (v1 : (Array Value)) (Q : Int → K) : K :=
  New 39 v1 fun v3 =>
  LoopK (α := Int) (fun X x => slices_Index_s_api_Tag_api_Tag.b1 Q X s0 v3 (s0.n : Int) x) 0
theorem slices_Index_s_api_Tag_api_Tag_ok (s0 : Sl) (v1 : (Array Value)) (Q : Int → K) (w : World) (h : slices_Index_s_api_Tag_api_Tag s0 v1 Q w) : slices_Index_s_api_Tag_api_Tag.call s0 v1 Q w := by
  have hL2 : ∀ (s0_1 : Sl) (v3_1 : Addr) (t7_1 : Int), LH 2 (fun x : Int => [(0, (Sl.val s0_1)), (3, (.pointer (some v3_1))), (7, (.int .i64 t7_1)), (8, (.int .i64 x))]) (fun X x => slices_Index_s_api_Tag_api_Tag.b1 Q X s0_1 v3_1 t7_1 x) := by intros; exact ⟨⟩
  exact g_walk 19 h Tryz.func83
def slices_Contains_s_api_Tag_api_Tag (s0 : Sl) (v1 : (Array Value)) (Q : Bool → K) : K :=
  New 39 v1 fun v3 =>
  LdN v3 4 fun t6 =>
  slices_Index_s_api_Tag_api_Tag.call s0 t6 fun t7 =>
  Q (decide ((0 : Int) ≤ t7))
theorem slices_Contains_s_api_Tag_api_Tag_ok (s0 : Sl) (v1 : (Array Value)) (Q : Bool → K) (w : World) (h : slices_Contains_s_api_Tag_api_Tag s0 v1 Q w) : slices_Contains_s_api_Tag_api_Tag.call s0 v1 Q w := by
  exact g_walk 9 h Tryz.func84
def slices_ContainsFunc_s_locks_claim_locks_claim (s0 : Sl) (f1 : Value) (Q : Bool → K) : K :=
  slices_IndexFunc_s_locks_claim_locks_claim.call s0 f1 fun t7 =>
  Q (decide ((0 : Int) ≤ t7))
theorem slices_ContainsFunc_s_locks_claim_locks_claim_ok (s0 : Sl) (f1 : Value) (Q : Bool → K) (w : World) (h : slices_ContainsFunc_s_locks_claim_locks_claim s0 f1 Q w) : slices_ContainsFunc_s_locks_claim_locks_claim.call s0 f1 Q w := by
  exact g_walk 9 h Tryz.func85
def slices_IndexFunc_s_locks_claim_locks_claim.b1 (Q : Int → K)  (X1 : Int → K) (s0_1 : Sl) (f1_1 : Value) (t7_1 : Int) (t8_1 : Int) : K :=
  Ite (decide (t8_1 < t7_1))
    (Idx s0_1 t8_1 7 fun t14 =>
    LdN t14 7 fun t15 =>
    CallV Tryz.prog f1_1 [(.agg t15)] <| Ans1 (fun (t16 : Bool) => Value.bool t16) fun t16 =>
    Ite t16
      (Q t8_1)
      (Ar (IntKind.wrap .i64 (t8_1 + 1)) fun t18 =>
      X1 t18))
    (Q (-1))
def slices_IndexFunc_s_locks_claim_locks_claim (s0 : Sl) (f1 : Value) (Q : Int → K) : K :=
  LoopK (α := Int) (fun X x => slices_IndexFunc_s_locks_claim_locks_claim.b1 Q X s0 f1 (s0.n : Int) x) 0
theorem slices_IndexFunc_s_locks_claim_locks_claim_ok (s0 : Sl) (f1 : Value) (Q : Int → K) (w : World) (h : slices_IndexFunc_s_locks_claim_locks_claim s0 f1 Q w) : slices_IndexFunc_s_locks_claim_locks_claim.call s0 f1 Q w := by
  have hL2 : ∀ (s0_1 : Sl) (f1_1 : Value) (t7_1 : Int), LH 2 (fun x : Int => [(0, (Sl.val s0_1)), (1, f1_1), (7, (.int .i64 t7_1)), (8, (.int .i64 x))]) (fun X x => slices_IndexFunc_s_locks_claim_locks_claim.b1 Q X s0_1 f1_1 t7_1 x) := by intros; exact ⟨⟩
  exact g_walk 19 h Tryz.func86
def slices_Clone_s_string_string (s0 : Sl) (Q : Sl → K) : K :=
  Ite ((s0).a.isNone)
    (Q (Sl.mk none 0 0))
    (New 9 #[] fun t5 =>
    Do Tryz.prog (Builtin.append_ #[23, 23] 23 #[(Sl.val (Sl.mk (some t5) 0 0)), (Sl.val s0)]) Sl.val fun t7 =>
    Q t7)
theorem slices_Clone_s_string_string_ok (s0 : Sl) (Q : Sl → K) (w : World) (h : slices_Clone_s_string_string s0 Q w) : slices_Clone_s_string_string.call s0 Q w := by
  exact g_walk 8 h Tryz.func88
def slices_Clone_s_api_Op_api_Op (s0 : Sl) (Q : Sl → K) : K :=
  Ite ((s0).a.isNone)
    (Q (Sl.mk none 0 0))
    (New 109 #[] fun t5 =>
    Do Tryz.prog (Builtin.append_ #[24, 24] 24 #[(Sl.val (Sl.mk (some t5) 0 0)), (Sl.val s0)]) Sl.val fun t7 =>
    Q t7)
theorem slices_Clone_s_api_Op_api_Op_ok (s0 : Sl) (Q : Sl → K) (w : World) (h : slices_Clone_s_api_Op_api_Op s0 Q w) : slices_Clone_s_api_Op_api_Op.call s0 Q w := by
  exact g_walk 8 h Tryz.func89
def slices_Sort_s_int_int (x0 : Sl) (Q : K) : K :=
  Ar (IntKind.wrap .u64 (x0.n : Int)) fun t8 =>
  math_bits_Len.call t8 fun t9 =>
  slices_pdqsortOrdered_int.call x0 0 (x0.n : Int) t9 <|
  Q
theorem slices_Sort_s_int_int_ok (x0 : Sl) (Q : K) (w : World) (h : slices_Sort_s_int_int x0 Q w) : slices_Sort_s_int_int.call x0 Q w := by
  exact g_walk 11 h Tryz.func92
def slices_Compact_s_int_int.s3 (Q : Sl → K) (X1 : Int → K) (X2 : Int → Int → K) (s0_3 : Sl) (k3_3 : Int) (s4_3 : Sl) (k5_3 : Int) : K :=
  Ar (IntKind.wrap .i64 (k5_3 + 1)) fun t34 =>
  X2 k3_3 t34
def slices_Compact_s_int_int.b2 (Q : Sl → K) (X1 : Int → K) (X2 : Int → Int → K) (s0_2 : Sl) (s4_2 : Sl) (k3_2 : Int) (k5_2 : Int) : K :=
  Ite (decide (k5_2 < (s4_2.n : Int)))
    (Dr <|
    Idx s4_2 k5_2 1 fun t37 =>
    Ld t37 (Value.int .i64) fun t38 =>
    Ar (IntKind.wrap .i64 (k5_2 - 1)) fun t41 =>
    Idx s4_2 t41 1 fun t42 =>
    Ld t42 (Value.int .i64) fun t43 =>
    Ite (decide (t38 ≠ t43))
      (Idx s4_2 k5_2 1 fun t49 =>
      Ld t49 (Value.int .i64) fun t50 =>
      Idx s0_2 k3_2 1 fun t51 =>
      St t51 (.int .i64 t50) <|
      Ar (IntKind.wrap .i64 (k3_2 + 1)) fun t53 =>
      slices_Compact_s_int_int.s3 Q X1 X2 s0_2 t53 s4_2 k5_2)
      (slices_Compact_s_int_int.s3 Q X1 X2 s0_2 k3_2 s4_2 k5_2))
    (Slc s0_2 k3_2 (s0_2.n : Int) (s0_2.c : Int) 1 fun t56 =>
    Do Tryz.prog (Builtin.clear_ #[122] 0 #[(Sl.val t56)]) id fun _ =>
    Slc s0_2 0 k3_2 (s0_2.c : Int) 1 fun t59 =>
    Q t59)
def slices_Compact_s_int_int.b1 (Q : Sl → K)  (X1 : Int → K) (s0_1 : Sl) (k3_1 : Int) : K :=
  Ite (decide (k3_1 < (s0_1.n : Int)))
    (Dr <|
    Idx s0_1 k3_1 1 fun t18 =>
    Ld t18 (Value.int .i64) fun t19 =>
    Ar (IntKind.wrap .i64 (k3_1 - 1)) fun t22 =>
    Idx s0_1 t22 1 fun t23 =>
    Ld t23 (Value.int .i64) fun t24 =>
    Ite (decide (t19 = t24))
      (Slc s0_1 k3_1 (s0_1.n : Int) (s0_1.c : Int) 1 fun t28 =>
      LoopK (α := Int × Int) (fun X x => slices_Compact_s_int_int.b2 Q X1 (fun k3_2 k5_2 => X (k3_2, k5_2)) s0_1 t28 x.1 x.2) (k3_1, 1))
      (Ar (IntKind.wrap .i64 (k3_1 + 1)) fun t15 =>
      X1 t15))
    (Q s0_1)
def slices_Compact_s_int_int (s0 : Sl) (Q : Sl → K) : K :=
  Ite (decide ((s0.n : Int) < 2))
    (Q s0)
    (LoopK (α := Int) (fun X x => slices_Compact_s_int_int.b1 Q X s0 x) 1)
theorem slices_Compact_s_int_int_ok (s0 : Sl) (Q : Sl → K) (w : World) (h : slices_Compact_s_int_int s0 Q w) : slices_Compact_s_int_int.call s0 Q w := by
  have hJ10 : ∀ (X1 : Int → K), XH 4 X1 → ∀ (X2 : (Int × Int) → K), XH 9 X2 → JH 10 fun D => ∃ (s0_3 : Sl) (s4_3 : Sl) (k5_3 : Int), D [(0, (Sl.val s0_3)), (4, (Sl.val s4_3)), (5, (.int .i64 k5_3))] (fun C => ∀ (k3_3 : Int), C [(0, (Sl.val s0_3)), (3, (.int .i64 k3_3)), (4, (Sl.val s4_3)), (5, (.int .i64 k5_3))] (slices_Compact_s_int_int.s3 Q X1 (fun k3_2 k5_2 => X2 (k3_2, k5_2)) s0_3 k3_3 s4_3 k5_3)) := by intros; exact ⟨fun _ ⟨_, _, _, h⟩ => ⟨_, _, h⟩⟩
  have hL9 : ∀ (X1 : Int → K), XH 4 X1 → ∀ (s0_2 : Sl) (s4_2 : Sl), LH 9 (fun x : Int × Int => [(0, (Sl.val s0_2)), (3, (.int .i64 x.1)), (4, (Sl.val s4_2)), (5, (.int .i64 x.2))]) (fun X x => slices_Compact_s_int_int.b2 Q X1 (fun k3_2 k5_2 => X (k3_2, k5_2)) s0_2 s4_2 x.1 x.2) := by intros; exact ⟨⟩
  have hL4 : ∀ (s0_1 : Sl), LH 4 (fun x : Int => [(0, (Sl.val s0_1)), (3, (.int .i64 x))]) (fun X x => slices_Compact_s_int_int.b1 Q X s0_1 x) := by intros; exact ⟨⟩
  exact g_walk 61 h Tryz.func93
def slices_Collect_string (seq0 : Value) (Q : Sl → K) : K :=
  slices_AppendSeq_s_string_string.call (Sl.mk none 0 0) seq0 fun t4 =>
  Q t4
theorem slices_Collect_string_ok (seq0 : Value) (Q : Sl → K) (w : World) (h : slices_Collect_string seq0 Q w) : slices_Collect_string.call seq0 Q w := by
  exact g_walk 5 h Tryz.func98
def slices_Sort_s_string_string (x0 : Sl) (Q : K) : K :=
  Ar (IntKind.wrap .u64 (x0.n : Int)) fun t8 =>
  math_bits_Len.call t8 fun t9 =>
  slices_pdqsortOrdered_string.call x0 0 (x0.n : Int) t9 <|
  Q
theorem slices_Sort_s_string_string_ok (x0 : Sl) (Q : K) (w : World) (h : slices_Sort_s_string_string x0 Q w) : slices_Sort_s_string_string.call x0 Q w := by
  exact g_walk 11 h Tryz.func99
def slices_IndexFunc_s_string_string.b1 (Q : Int → K)  (X1 : Int → K) (s0_1 : Sl) (f1_1 : Value) (t7_1 : Int) (t8_1 : Int) : K :=
  Ite (decide (t8_1 < t7_1))
    (Idx s0_1 t8_1 1 fun t14 =>
    Ld t14 Value.string fun t15 =>
    CallV Tryz.prog f1_1 [(.string t15)] <| Ans1 (fun (t16 : Bool) => Value.bool t16) fun t16 =>
    Ite t16
      (Q t8_1)
      (Ar (IntKind.wrap .i64 (t8_1 + 1)) fun t18 =>
      X1 t18))
    (Q (-1))
def slices_IndexFunc_s_string_string (s0 : Sl) (f1 : Value) (Q : Int → K) : K :=
  LoopK (α := Int) (fun X x => slices_IndexFunc_s_string_string.b1 Q X s0 f1 (s0.n : Int) x) 0
theorem slices_IndexFunc_s_string_string_ok (s0 : Sl) (f1 : Value) (Q : Int → K) (w : World) (h : slices_IndexFunc_s_string_string s0 f1 Q w) : slices_IndexFunc_s_string_string.call s0 f1 Q w := by
  have hL2 : ∀ (s0_1 : Sl) (f1_1 : Value) (t7_1 : Int), LH 2 (fun x : Int => [(0, (Sl.val s0_1)), (1, f1_1), (7, (.int .i64 t7_1)), (8, (.int .i64 x))]) (fun X x => slices_IndexFunc_s_string_string.b1 Q X s0_1 f1_1 t7_1 x) := by intros; exact ⟨⟩
  exact g_walk 19 h Tryz.func114
def slices_Concat_s_string_string.s2 (Q : Sl → K) (X1 : Int → Int → K) (slices0_2 : Sl) (size3_2 : Int) (t9_2 : Sl) (t10_2 : Int) (t11_2 : Int) : K :=
  Ar (IntKind.wrap .i64 (t11_2 + 1)) fun t22 =>
  X1 size3_2 t22
def slices_Concat_s_string_string.b3 (Q : Sl → K) (X1 : Int → Int → K) (X3 : Sl → Int → K) (t25_3 : Sl) (t26_3 : Int) (newslice6_3 : Sl) (t27_3 : Int) : K :=
  Ite (decide (t27_3 < t26_3))
    (Idx t25_3 t27_3 1 fun t29 =>
    Ld t29 Sl.val fun t30 =>
    Do Tryz.prog (Builtin.append_ #[23, 23] 23 #[(Sl.val newslice6_3), (Sl.val t30)]) Sl.val fun t33 =>
    Ar (IntKind.wrap .i64 (t27_3 + 1)) fun t34 =>
    X3 t33 t34)
    (Q newslice6_3)
def slices_Concat_s_string_string.b1 (Q : Sl → K)  (X1 : Int → Int → K) (slices0_1 : Sl) (t9_1 : Sl) (t10_1 : Int) (size3_1 : Int) (t11_1 : Int) : K :=
  Ite (decide (t11_1 < t10_1))
    (Idx t9_1 t11_1 1 fun t13 =>
    Ld t13 Sl.val fun t14 =>
    Ar (IntKind.wrap .i64 (size3_1 + (t14.n : Int))) fun t18 =>
    Ite (decide (t18 < 0))
      (Rd Tryz.prog (Instr.makeInterface 9 (.string ⟨#[108, 101, 110, 32, 111, 117, 116, 32, 111, 102, 32, 114, 97, 110, 103, 101]⟩)) id fun t21 =>
      Dead)
      (slices_Concat_s_string_string.s2 Q X1 slices0_1 t18 t9_1 t10_1 t11_1))
    (slices_Grow_s_string_string.call (Sl.mk none 0 0) size3_1 fun t24 =>
    LoopK (α := Sl × Int) (fun X x => slices_Concat_s_string_string.b3 Q X1 (fun newslice6_3 t27_3 => X (newslice6_3, t27_3)) slices0_1 (slices0_1.n : Int) x.1 x.2) (t24, 0))
def slices_Concat_s_string_string (slices0 : Sl) (Q : Sl → K) : K :=
  LoopK (α := Int × Int) (fun X x => slices_Concat_s_string_string.b1 Q (fun size3_1 t11_1 => X (size3_1, t11_1)) slices0 slices0 (slices0.n : Int) x.1 x.2) (0, 0)
theorem slices_Concat_s_string_string_ok (slices0 : Sl) (Q : Sl → K) (w : World) (h : slices_Concat_s_string_string slices0 Q w) : slices_Concat_s_string_string.call slices0 Q w := by
  have hJ8 : ∀ (X1 : (Int × Int) → K), XH 3 X1 → JH 8 fun D => ∃ (slices0_2 : Sl) (t9_2 : Sl) (t10_2 : Int) (t11_2 : Int), D [(0, (Sl.val slices0_2)), (9, (Sl.val t9_2)), (10, (.int .i64 t10_2)), (11, (.int .i64 t11_2))] (fun C => ∀ (size3_2 : Int), C [(0, (Sl.val slices0_2)), (3, (.int .i64 size3_2)), (9, (Sl.val t9_2)), (10, (.int .i64 t10_2)), (11, (.int .i64 t11_2))] (slices_Concat_s_string_string.s2 Q (fun size3_1 t11_1 => X1 (size3_1, t11_1)) slices0_2 size3_2 t9_2 t10_2 t11_2)) := by intros; exact ⟨fun _ ⟨_, _, _, _, h⟩ => ⟨_, _, h⟩⟩
  have hL11 : ∀ (X1 : (Int × Int) → K), XH 3 X1 → ∀ (t25_3 : Sl) (t26_3 : Int), LH 11 (fun x : Sl × Int => [(6, (Sl.val x.1)), (25, (Sl.val t25_3)), (26, (.int .i64 t26_3)), (27, (.int .i64 x.2))]) (fun X x => slices_Concat_s_string_string.b3 Q (fun size3_1 t11_1 => X1 (size3_1, t11_1)) (fun newslice6_3 t27_3 => X (newslice6_3, t27_3)) t25_3 t26_3 x.1 x.2) := by intros; exact ⟨⟩
  have hL3 : ∀ (slices0_1 : Sl) (t9_1 : Sl) (t10_1 : Int), LH 3 (fun x : Int × Int => [(0, (Sl.val slices0_1)), (3, (.int .i64 x.1)), (9, (Sl.val t9_1)), (10, (.int .i64 t10_1)), (11, (.int .i64 x.2))]) (fun X x => slices_Concat_s_string_string.b1 Q (fun size3_1 t11_1 => X (size3_1, t11_1)) slices0_1 t9_1 t10_1 x.1 x.2) := by intros; exact ⟨⟩
  exact g_walk 36 h Tryz.func119
def slices_Compact_s_string_string.s3 (Q : Sl → K) (X1 : Int → K) (X2 : Int → Int → K) (s0_3 : Sl) (k3_3 : Int) (s4_3 : Sl) (k5_3 : Int) : K :=
  Ar (IntKind.wrap .i64 (k5_3 + 1)) fun t34 =>
  X2 k3_3 t34
def slices_Compact_s_string_string.b2 (Q : Sl → K) (X1 : Int → K) (X2 : Int → Int → K) (s0_2 : Sl) (s4_2 : Sl) (k3_2 : Int) (k5_2 : Int) : K :=
  Ite (decide (k5_2 < (s4_2.n : Int)))
    (Dr <|
    Idx s4_2 k5_2 1 fun t37 =>
    Ld t37 Value.string fun t38 =>
    Ar (IntKind.wrap .i64 (k5_2 - 1)) fun t41 =>
    Idx s4_2 t41 1 fun t42 =>
    Ld t42 Value.string fun t43 =>
    Ite (!(t38.toList == t43.toList))
      (Idx s4_2 k5_2 1 fun t49 =>
      Ld t49 Value.string fun t50 =>
      Idx s0_2 k3_2 1 fun t51 =>
      St t51 (.string t50) <|
      Ar (IntKind.wrap .i64 (k3_2 + 1)) fun t53 =>
      slices_Compact_s_string_string.s3 Q X1 X2 s0_2 t53 s4_2 k5_2)
      (slices_Compact_s_string_string.s3 Q X1 X2 s0_2 k3_2 s4_2 k5_2))
    (Slc s0_2 k3_2 (s0_2.n : Int) (s0_2.c : Int) 1 fun t56 =>
    Do Tryz.prog (Builtin.clear_ #[23] 0 #[(Sl.val t56)]) id fun _ =>
    Slc s0_2 0 k3_2 (s0_2.c : Int) 1 fun t59 =>
    Q t59)
def slices_Compact_s_string_string.b1 (Q : Sl → K)  (X1 : Int → K) (s0_1 : Sl) (k3_1 : Int) : K :=
  Ite (decide (k3_1 < (s0_1.n : Int)))
    (Dr <|
    Idx s0_1 k3_1 1 fun t18 =>
    Ld t18 Value.string fun t19 =>
    Ar (IntKind.wrap .i64 (k3_1 - 1)) fun t22 =>
    Idx s0_1 t22 1 fun t23 =>
    Ld t23 Value.string fun t24 =>
    Ite (t19.toList == t24.toList)
      (Slc s0_1 k3_1 (s0_1.n : Int) (s0_1.c : Int) 1 fun t28 =>
      LoopK (α := Int × Int) (fun X x => slices_Compact_s_string_string.b2 Q X1 (fun k3_2 k5_2 => X (k3_2, k5_2)) s0_1 t28 x.1 x.2) (k3_1, 1))
      (Ar (IntKind.wrap .i64 (k3_1 + 1)) fun t15 =>
      X1 t15))
    (Q s0_1)
def slices_Compact_s_string_string (s0 : Sl) (Q : Sl → K) : K :=
  Ite (decide ((s0.n : Int) < 2))
    (Q s0)
    (LoopK (α := Int) (fun X x => slices_Compact_s_string_string.b1 Q X s0 x) 1)
theorem slices_Compact_s_string_string_ok (s0 : Sl) (Q : Sl → K) (w : World) (h : slices_Compact_s_string_string s0 Q w) : slices_Compact_s_string_string.call s0 Q w := by
  have hJ10 : ∀ (X1 : Int → K), XH 4 X1 → ∀ (X2 : (Int × Int) → K), XH 9 X2 → JH 10 fun D => ∃ (s0_3 : Sl) (s4_3 : Sl) (k5_3 : Int), D [(0, (Sl.val s0_3)), (4, (Sl.val s4_3)), (5, (.int .i64 k5_3))] (fun C => ∀ (k3_3 : Int), C [(0, (Sl.val s0_3)), (3, (.int .i64 k3_3)), (4, (Sl.val s4_3)), (5, (.int .i64 k5_3))] (slices_Compact_s_string_string.s3 Q X1 (fun k3_2 k5_2 => X2 (k3_2, k5_2)) s0_3 k3_3 s4_3 k5_3)) := by intros; exact ⟨fun _ ⟨_, _, _, h⟩ => ⟨_, _, h⟩⟩
  have hL9 : ∀ (X1 : Int → K), XH 4 X1 → ∀ (s0_2 : Sl) (s4_2 : Sl), LH 9 (fun x : Int × Int => [(0, (Sl.val s0_2)), (3, (.int .i64 x.1)), (4, (Sl.val s4_2)), (5, (.int .i64 x.2))]) (fun X x => slices_Compact_s_string_string.b2 Q X1 (fun k3_2 k5_2 => X (k3_2, k5_2)) s0_2 s4_2 x.1 x.2) := by intros; exact ⟨⟩
  have hL4 : ∀ (s0_1 : Sl), LH 4 (fun x : Int => [(0, (Sl.val s0_1)), (3, (.int .i64 x))]) (fun X x => slices_Compact_s_string_string.b1 Q X s0_1 x) := by intros; exact ⟨⟩
  exact g_walk 61 h Tryz.func120
def slices_AppendSeq_s_string_string (s0 : Sl) (seq1 : Value) (Q : Sl → K) : K :=
  New 23 #[(Sl.val s0)] fun s2 =>
  RangeF Tryz.prog seq1 Value.string (fun KN1 x7 =>
    Ld s2 Sl.val fun t8 =>
    New 9 #[(.string x7)] fun t10 =>
    Do Tryz.prog (Builtin.append_ #[23, 23] 23 #[(Sl.val t8), (Sl.val (Sl.mk (some t10) 1 1))]) Sl.val fun t11 =>
    St s2 (Sl.val t11) <|
    KN1)
  fun D1 =>
  Ld s2 Sl.val fun t12 =>
  TakeD D1 <|
  Q t12
theorem slices_AppendSeq_s_string_string_ok (s0 : Sl) (seq1 : Value) (Q : Sl → K) (w : World) (h : slices_AppendSeq_s_string_string s0 seq1 Q w) : slices_AppendSeq_s_string_string.call s0 seq1 Q w := by
  exact g_walk 13 h Tryz.func128
def slices_Grow_s_string_string.s2 (Q : Sl → K)  (s0_2 : Sl) : K :=
  Q s0_2
def slices_Grow_s_string_string.s1 (Q : Sl → K)  (s0_1 : Sl) (n1_1 : Int) : K :=
  Do Tryz.prog (Builtin.cap_ #[23] 3 #[(Sl.val s0_1)]) (Value.int .i64) fun t10 =>
  Ar (IntKind.wrap .i64 (t10 - (s0_1.n : Int))) fun t13 =>
  Ar (IntKind.wrap .i64 (n1_1 - t13)) fun t14 =>
  Ite (decide ((0 : Int) < t14))
    (Do Tryz.prog (Builtin.cap_ #[23] 3 #[(Sl.val s0_1)]) (Value.int .i64) fun t19 =>
    Slc s0_1 0 t19 (s0_1.c : Int) 1 fun t20 =>
    Do Tryz.prog (Builtin.append_ #[23, 3] 23 #[(Sl.val t20), (.int .i64 t14)]) Sl.val fun t22 =>
    Slc t22 0 (s0_1.n : Int) (t22.c : Int) 1 fun t25 =>
    slices_Grow_s_string_string.s2 Q t25)
    (slices_Grow_s_string_string.s2 Q s0_1)
def slices_Grow_s_string_string (s0 : Sl) (n1 : Int) (Q : Sl → K) : K :=
  Ite (decide (n1 < 0))
    (Rd Tryz.prog (Instr.makeInterface 9 (.string ⟨#[99, 97, 110, 110, 111, 116, 32, 98, 101, 32, 110, 101, 103, 97, 116, 105, 118, 101]⟩)) id fun t7 =>
    Dead)
    (slices_Grow_s_string_string.s1 Q s0 n1)
theorem slices_Grow_s_string_string_ok (s0 : Sl) (n1 : Int) (Q : Sl → K) (w : World) (h : slices_Grow_s_string_string s0 n1 Q w) : slices_Grow_s_string_string.call s0 n1 Q w := by
  have hJ6 : JH 6 fun D => D [] (fun C => ∀ (s0_2 : Sl), C [(0, (Sl.val s0_2))] (slices_Grow_s_string_string.s2 Q s0_2)) := by intros; exact ⟨fun _ h => ⟨_, _, h⟩⟩
  have hJ3 : JH 3 fun D => ∃ (s0_1 : Sl) (n1_1 : Int), D [(0, (Sl.val s0_1)), (1, (.int .i64 n1_1))] (fun C => C [(0, (Sl.val s0_1)), (1, (.int .i64 n1_1))] (slices_Grow_s_string_string.s1 Q s0_1 n1_1)) := by intros; exact ⟨fun _ ⟨_, _, h⟩ => ⟨_, _, h⟩⟩
  exact g_walk 27 h Tryz.func132
end Go.Proofs.YtfjjocopmknhgaaGreat
/- slices.Sort of strings, by the shelf's contract; slices.Sorted of a map's keys. -/
namespace Go.Proofs.YtfjjocopmknhgaaGreat
open Go Go.Sep
set_option linter.unusedSimpArgs false
set_option linter.unusedVariables false
set_option maxRecDepth 100000

abbrev sortL (ss : List (List UInt8)) : List (List UInt8) := ss.mergeSort fun x y => decide (x ≤ y)
section
variable {B w : World} {Γ : List HProp}
theorem holds_grow (h : Holds B Γ w) (os : Array Obj) : Holds B Γ (Sort.grow w os) := by
  obtain ⟨l⟩ := os
  induction l generalizing w with
  | nil => simpa [Sort.grow] using h
  | cons o l ih =>
    have h1 := ih (h.alloc o).tail
    have e : Sort.grow { w with heap := w.heap.push o } ⟨l⟩ = Sort.grow w ⟨o :: l⟩ := by
      have e2 : w.heap.push o ++ (⟨l⟩ : Array Obj) = w.heap ++ (⟨o :: l⟩ : Array Obj) := by
        apply Array.ext'
        rw [Array.toList_append, Array.toList_append, Array.toList_push, List.append_assoc]
        rfl
      unfold Sort.grow
      rw [← e2]
    rw [e] at h1
    exact h1
theorem slices_Sort_spec {s : Sl} {ss : List (List UInt8)} {k : K} (hl : ss.length ≤ 1000000) (h : Holds B (SlC ty_string 1 s (ss.map strV) :: Γ) w) (hk : ∀ w, Holds B (SlC ty_string 1 s ((sortL ss).map strV) :: Γ) w → k w) : slices_Sort_s_string_string.call s k w := by
  have hsc := h.slCap
  have hn : ss.length = s.n := by have := hsc.1; simpa using this
  unfold slices_Sort_s_string_string.call CallF
  cases ha : s.a with
  | none =>
    have hs0 : s.n = 0 := by have := hsc.2.2.2 ha; omega
    have hss : ss = [] := List.length_eq_zero_iff.1 (by omega)
    subst hss
    have h1 := AnyM.slices_Sort_string_none sortLay none s.c w
    have e : [Sl.val s].toArray = #[.slice none 0 s.c] := by
      show #[Value.slice s.a s.n s.c] = _
      rw [ha, hs0]
    rw [e]
    refine Calls.mono h1 fun e w' he => ?_
    obtain ⟨rfl, rfl⟩ := he
    exact ⟨rfl, hk _ (by simpa [sortL] using h)⟩
  | some a =>
    obtain ⟨cs, fz, h, hsp, hf, hsz, hr, hlen, hc⟩ := slOpen h ha
    obtain ⟨b, off, sp⟩ := a
    simp only at hsp
    subst hsp
    simp only at h hf hsz hr
    have hb := h.block
    have hH : Sort.Holds Proofs.encStr w b off ss.toArray := fun j hj => by
      simp only [List.size_toArray] at hj
      have h1 := hr j (by simpa using hj)
      constructor
      · refine cell_block hb ?_
        rw [h1, List.getElem?_map, List.getElem?_eq_getElem hj]
        simp [getElem!_pos, hj]
      · exact frozen_block hb (hf _ (by omega) (by omega))
    have h1 := AnyM.slices_Sort_string sortLay b off s.c ss w hH (Array.getElem?_eq_some_iff.1 hb).1 (by omega)
    have e : [Sl.val s].toArray = #[.slice (some ⟨b, off, none⟩) ss.length s.c] := by
      show #[Value.slice s.a s.n s.c] = _
      rw [ha, hn]
    rw [e]
    refine Calls.mono h1 fun e w' he => ?_
    obtain ⟨rfl, n, os, rfl⟩ := he
    refine ⟨rfl, hk _ ?_⟩
    have h2 : Holds B (blk b (.cells cs ty_string fz) :: Γ) (Sort.ahead w n) := h.drew _
    have h3 := h2.setBlock (o' := .cells (Sort.putCells Proofs.encStr off (sortL ss).toArray cs) ty_string fz) rfl
    have e2 : ({ (Sort.ahead w n) with heap := (Sort.ahead w n).heap.setIfInBounds b (.cells (Sort.putCells Proofs.encStr off (sortL ss).toArray cs) ty_string fz) } : World) = Sort.putRow Proofs.encStr (Sort.ahead w n) b off (sortL ss).toArray := by
      have harr : (Sort.ahead w n).heap.setIfInBounds b (.cells (Sort.putCells Proofs.encStr off (sortL ss).toArray cs) ty_string fz) = (Sort.ahead w n).heap.modify b (Sort.onCells (Sort.putCells Proofs.encStr off (sortL ss).toArray)) := by
        apply Array.ext_getElem?
        intro i
        rw [Array.getElem?_modify]
        by_cases hi : b = i
        · subst hi
          rw [if_pos rfl, h2.block, Array.getElem?_setIfInBounds_self_of_lt (Array.getElem?_eq_some_iff.1 h2.block).1]
          rfl
        · rw [if_neg hi, Array.getElem?_setIfInBounds_ne hi]
      unfold Sort.putRow Sort.mapBlock
      rw [← harr]
    rw [e2] at h3
    have h4 := holds_grow h3 os
    have hsl : (sortL ss).length = ss.length := by simp [sortL]
    refine slShut (a := ⟨b, off, none⟩) ha h4 ⟨rfl, hf, ?_, fun i hi => ?_, by rw [List.length_map, hsl]; simpa using hlen, hc⟩
    · have : (Sort.putCells Proofs.encStr off (sortL ss).toArray cs).size = cs.size := by simp [Sort.putCells]
      rw [this]; exact hsz
    · simp only [List.length_map] at hi
      unfold Sort.putCells
      rw [Array.getElem?_mapIdx]
      have hlt : off + i < cs.size := by omega
      rw [Array.getElem?_eq_getElem hlt, Option.map_some, if_pos (by simp; omega), List.getElem?_map, List.getElem?_eq_getElem hi, Option.map_some, Nat.add_sub_cancel_left, getElem!_pos (sortL ss).toArray i (by simpa using hi)]
      simp
end
end Go.Proofs.YtfjjocopmknhgaaGreat
/- Keys as strings, sorted. -/
namespace Go.Proofs.YtfjjocopmknhgaaGreat
open Go Go.Sep
set_option linter.unusedSimpArgs false
set_option linter.unusedVariables false
set_option maxRecDepth 100000

theorem keyE_str : KeyE .string strV := ⟨fun _ => trivial, fun a b h => by
  have h1 : bs a = bs b := by injection h
  have h2 := congrArg (fun x : ByteArray => x.data.toList) h1
  simpa using h2, fun a => keyE_string.bits (bs a)⟩
theorem sortL_perm {l l' : List (List UInt8)} (h : l.Perm l') : sortL l = sortL l' := by
  have tr : ∀ a b c : List UInt8, decide (a ≤ b) = true → decide (b ≤ c) = true → decide (a ≤ c) = true := fun a b c h1 h2 => by
    simp only [decide_eq_true_eq] at *
    exact List.le_trans h1 h2
  have tot : ∀ a b : List UInt8, (decide (a ≤ b) || decide (b ≤ a)) = true := fun a b => by
    simp only [Bool.or_eq_true, decide_eq_true_eq]
    exact List.le_total a b
  refine List.Perm.eq_of_pairwise (le := fun a b => decide (a ≤ b) = true) (fun a b _ _ h1 h2 => ?_) (List.pairwise_mergeSort tr tot l) (List.pairwise_mergeSort tr tot l') ?_
  · simp only [decide_eq_true_eq] at h1 h2
    exact List.le_antisymm h1 h2
  · exact ((List.mergeSort_perm l _).trans h).trans (List.mergeSort_perm l' _).symm
theorem sortL_len (l : List (List UInt8)) : (sortL l).length = l.length := (List.mergeSort_perm l _).length_eq
theorem sortL_mem {l : List (List UInt8)} {x : List UInt8} : x ∈ sortL l ↔ x ∈ l := (List.mergeSort_perm l _).mem_iff


abbrev SlS (s : Sl) (ss : List (List UInt8)) : HProp := SlC ty_string 1 s (ss.map strV)
end Go.Proofs.YtfjjocopmknhgaaGreat
/- Plain forms of functions, and that their code comes to them (package lib_maps). -/
namespace Go.Proofs.YtfjjocopmknhgaaGreat
open Go Go.Sep
set_option linter.unusedVariables false
set_option linter.unusedSimpArgs false
set_option maxRecDepth 100000
set_option maxHeartbeats 4000000
attribute [local irreducible] G Gp Cx Tx Ex Sx Dx Ox Ax Lx Rx Fx Bx Bj Al Do Ld LdN St StN New CallF Ar DoU Rd Rd2 Pu Cd Ite Fv CallV CallY Ans0 Ans1 Ans2 Ans3 Ans4 Ans5 Ext Dead Dr WithS Sv LdS LdNS RdS Rd2S Nn Idx IdxA IdxS Fld Bld Slc SlcS Cat All LoopK RangeF RangeJ TakeD
namespace F_IRLibMaps
instance ct_128 : CT Tryz.prog 128 := ⟨by kernel_rfl⟩
instance ct_150 : CT Tryz.prog 150 := ⟨by kernel_rfl⟩
instance mx : MX Tryz.prog := ⟨mixed⟩
end F_IRLibMaps
def maps_Keys_map_string_api_Record_string_api_Record (m0 : (Option Nat)) (Q : Value → K) : K :=
  New 128 #[(.map m0)] fun m1 =>
  Q (.func (.func 100) #[] #[(.pointer (some m1))])
theorem maps_Keys_map_string_api_Record_string_api_Record_ok (m0 : (Option Nat)) (Q : Value → K) (w : World) (h : maps_Keys_map_string_api_Record_string_api_Record m0 Q w) : maps_Keys_map_string_api_Record_string_api_Record.call m0 Q w := by
  exact g_walk 4 h Tryz.func61
def maps_Keys_map_string_locks_gate_string_locks_gate (m0 : (Option Nat)) (Q : Value → K) : K :=
  New 150 #[(.map m0)] fun m1 =>
  Q (.func (.func 115) #[] #[(.pointer (some m1))])
theorem maps_Keys_map_string_locks_gate_string_locks_gate_ok (m0 : (Option Nat)) (Q : Value → K) (w : World) (h : maps_Keys_map_string_locks_gate_string_locks_gate m0 Q w) : maps_Keys_map_string_locks_gate_string_locks_gate.call m0 Q w := by
  exact g_walk 4 h Tryz.func78
def maps_Keys_map_string_api_Record_string_api_Record_1.b1 (Q : K)  (X1 : K) (yield0_1 : Value) (t5_1 : (Option Addr))  : K :=
  Do Tryz.prog (Instr.next (.pointer t5_1) false 0) id fun t6 =>
  Ext t6 0 Value.bool fun t7 =>
  Ite t7
    (Do Tryz.prog (Instr.entry (.pointer t5_1)) id fun t8 =>
    Ext t8 0 Value.string fun t9 =>
    CallY Tryz.prog yield0_1 [(.string t9)] <| Ans1 (fun (t12 : Bool) => Value.bool t12) fun t12 =>
    Ite (!t12)
      (Q)
      (X1))
    (Q)
def maps_Keys_map_string_api_Record_string_api_Record_1 (yield0 : Value) (t1 : Addr) (Q : K) : K :=
  Ld t1 Value.map fun t4 =>
  Do Tryz.prog (Instr.range 128 (.map t4)) Value.pointer fun t5 =>
  LoopK (α := Unit) (fun X x => maps_Keys_map_string_api_Record_string_api_Record_1.b1 Q (X ()) yield0 t5) ()
theorem maps_Keys_map_string_api_Record_string_api_Record_1_ok (yield0 : Value) (t1 : Addr) (Q : K) (w : World) (h : maps_Keys_map_string_api_Record_string_api_Record_1 yield0 t1 Q w) : maps_Keys_map_string_api_Record_string_api_Record_1.call yield0 t1 Q w := by
  have hL1 : ∀ (yield0_1 : Value) (t5_1 : (Option Addr)), LH 1 (fun x : Unit => [(0, yield0_1), (5, (.pointer t5_1))]) (fun X x => maps_Keys_map_string_api_Record_string_api_Record_1.b1 Q (X ()) yield0_1 t5_1) := by intros; exact ⟨⟩
  exact g_walk 14 h Tryz.func100
def maps_Keys_map_string_locks_gate_string_locks_gate_1.b1 (Q : K)  (X1 : K) (yield0_1 : Value) (t5_1 : (Option Addr))  : K :=
  Do Tryz.prog (Instr.next (.pointer t5_1) false 0) id fun t6 =>
  Ext t6 0 Value.bool fun t7 =>
  Ite t7
    (Do Tryz.prog (Instr.entry (.pointer t5_1)) id fun t8 =>
    Ext t8 0 Value.string fun t9 =>
    CallY Tryz.prog yield0_1 [(.string t9)] <| Ans1 (fun (t12 : Bool) => Value.bool t12) fun t12 =>
    Ite (!t12)
      (Q)
      (X1))
    (Q)
def maps_Keys_map_string_locks_gate_string_locks_gate_1 (yield0 : Value) (t1 : Addr) (Q : K) : K :=
  Ld t1 Value.map fun t4 =>
  Do Tryz.prog (Instr.range 150 (.map t4)) Value.pointer fun t5 =>
  LoopK (α := Unit) (fun X x => maps_Keys_map_string_locks_gate_string_locks_gate_1.b1 Q (X ()) yield0 t5) ()
theorem maps_Keys_map_string_locks_gate_string_locks_gate_1_ok (yield0 : Value) (t1 : Addr) (Q : K) (w : World) (h : maps_Keys_map_string_locks_gate_string_locks_gate_1 yield0 t1 Q w) : maps_Keys_map_string_locks_gate_string_locks_gate_1.call yield0 t1 Q w := by
  have hL1 : ∀ (yield0_1 : Value) (t5_1 : (Option Addr)), LH 1 (fun x : Unit => [(0, yield0_1), (5, (.pointer t5_1))]) (fun X x => maps_Keys_map_string_locks_gate_string_locks_gate_1.b1 Q (X ()) yield0_1 t5_1) := by intros; exact ⟨⟩
  exact g_walk 14 h Tryz.func115
end Go.Proofs.YtfjjocopmknhgaaGreat
