/- Texts of the claim RouteRight, one behind the other. -/
import Derived.Test.YtfjjocopmknhgaaGreatRouteRightM3
import Derived.Shelf.SortM.Plain
import Derived.Shelf.SortM.SortNone
import Derived.Ground.SlgmProg
import Derived.Test.YtfjjocopmknhgaaGreatProg
/- Plain forms of functions, and that their code comes to them (package btree). -/
namespace Go.Proofs.YtfjjocopmknhgaaGreat
open Go Go.Sep
set_option linter.unusedVariables false
set_option linter.unusedSimpArgs false
set_option maxRecDepth 100000
set_option maxHeartbeats 4000000
attribute [local irreducible] G Gp Cx Tx Ex Sx Dx Ox Ax Lx Rx Fx Bx Bj Al Do Ld LdN St StN New CallF Ar DoU Rd Rd2 Pu Cd Ite Fv CallV CallY Ans0 Ans1 Ans2 Ans3 Ans4 Ans5 Ext Dead Dr WithS Sv LdS LdNS RdS Rd2S Nn Idx IdxA IdxS Fld Bld Slc SlcS Cat All LoopK RangeF RangeJ TakeD
namespace F_IRBtree
instance at_181 : AT Tryz.prog 181 5 := ⟨by kernel_rfl⟩
instance at_47 : AT Tryz.prog 47 4 := ⟨by kernel_rfl⟩
instance cb_102 : CB Tryz.prog 102 := ⟨by kernel_rfl⟩
instance cb_121 : CB Tryz.prog 121 := ⟨by kernel_rfl⟩
instance cb_123 : CB Tryz.prog 123 := ⟨by kernel_rfl⟩
instance cb_130 : CB Tryz.prog 130 := ⟨by kernel_rfl⟩
instance cb_131 : CB Tryz.prog 131 := ⟨by kernel_rfl⟩
instance cb_154 : CB Tryz.prog 154 := ⟨by kernel_rfl⟩
instance cb_155 : CB Tryz.prog 155 := ⟨by kernel_rfl⟩
instance cb_156 : CB Tryz.prog 156 := ⟨by kernel_rfl⟩
instance cb_157 : CB Tryz.prog 157 := ⟨by kernel_rfl⟩
instance cb_158 : CB Tryz.prog 158 := ⟨by kernel_rfl⟩
instance cb_159 : CB Tryz.prog 159 := ⟨by kernel_rfl⟩
instance cb_160 : CB Tryz.prog 160 := ⟨by kernel_rfl⟩
instance cb_170 : CB Tryz.prog 170 := ⟨by kernel_rfl⟩
instance cb_91 : CB Tryz.prog 91 := ⟨by kernel_rfl⟩
instance ct_117 : CT Tryz.prog 117 := ⟨by kernel_rfl⟩
instance ct_175 : CT Tryz.prog 175 := ⟨by kernel_rfl⟩
instance ct_182 : CT Tryz.prog 182 := ⟨by kernel_rfl⟩
instance ct_183 : CT Tryz.prog 183 := ⟨by kernel_rfl⟩
instance ct_3 : CT Tryz.prog 3 := ⟨by kernel_rfl⟩
instance ct_9 : CT Tryz.prog 9 := ⟨by kernel_rfl⟩
instance ft_177_0 : FT Tryz.prog 177 0 0 1 := ⟨by kernel_rfl⟩
instance ft_177_1 : FT Tryz.prog 177 1 1 1 := ⟨by kernel_rfl⟩
instance ft_181_0 : FT Tryz.prog 181 0 0 1 := ⟨by kernel_rfl⟩
instance ft_181_1 : FT Tryz.prog 181 1 1 4 := ⟨by kernel_rfl⟩
instance ft_185_0 : FT Tryz.prog 185 0 0 1 := ⟨by kernel_rfl⟩
instance ft_185_1 : FT Tryz.prog 185 1 1 1 := ⟨by kernel_rfl⟩
instance mx : MX Tryz.prog := ⟨mixed⟩
instance pl_177 : PLT Tryz.prog 177 [(0, 1), (1, 1)] := ⟨_, Tryz.underlying177, by kernel_rfl⟩
instance pl_181 : PLT Tryz.prog 181 [(0, 1), (1, 4)] := ⟨_, Tryz.underlying181, by kernel_rfl⟩
instance pl_185 : PLT Tryz.prog 185 [(0, 1), (1, 1)] := ⟨_, Tryz.underlying185, by kernel_rfl⟩
instance sl_182 : SLT Tryz.prog 182 181 5 := ⟨by kernel_rfl⟩
instance sl_183 : SLT Tryz.prog 183 175 1 := ⟨by kernel_rfl⟩
instance sz_175 : SZ Tryz.prog 175 1 := ⟨by kernel_rfl⟩
instance sz_181 : SZ Tryz.prog 181 5 := ⟨by kernel_rfl⟩
instance sz_182 : SZ Tryz.prog 182 1 := ⟨by kernel_rfl⟩
instance sz_183 : SZ Tryz.prog 183 1 := ⟨by kernel_rfl⟩
instance sz_3 : SZ Tryz.prog 3 1 := ⟨by kernel_rfl⟩
instance sz_47 : SZ Tryz.prog 47 4 := ⟨by kernel_rfl⟩
instance un_213 : UN Tryz.prog 213 (.pointer 9) := ⟨Tryz.underlying213⟩
instance un_214 : UN Tryz.prog 214 (.pointer 181) := ⟨Tryz.underlying214⟩
instance zt_175 : ZT Tryz.prog 175 (.pointer none) := ⟨Tryz.t175, by kernel_rfl, by kernel_rfl⟩
instance zt_177 : ZT Tryz.prog 177 (.agg #[(.pointer none), (.int .i64 0)]) := ⟨Tryz.t177, by kernel_rfl, by kernel_rfl⟩
instance zt_181 : ZT Tryz.prog 181 (.agg #[(.string ⟨#[]⟩), (.bool false), (Sl.val ⟨none, 0, 0⟩), (.int .i64 0), (.int .u64 0)]) := ⟨Tryz.t181, by kernel_rfl, by kernel_rfl⟩
instance zt_185 : ZT Tryz.prog 185 (.agg #[(Sl.val ⟨none, 0, 0⟩), (Sl.val ⟨none, 0, 0⟩)]) := ⟨Tryz.t185, by kernel_rfl, by kernel_rfl⟩
instance zt_47 : ZT Tryz.prog 47 (.agg #[(.bool false), (Sl.val ⟨none, 0, 0⟩), (.int .i64 0), (.int .u64 0)]) := ⟨Tryz.t47, by kernel_rfl, by kernel_rfl⟩
end F_IRBtree
def btree_Tree_string_api_Record_Get.b1 (Q : (Array Value) → Bool → K)  (X1 : (Option Addr) → K) (key1_1 : ByteArray) (value4_1 : Addr) (n6_1 : (Option Addr)) : K :=
  btree_node_string_api_Record_search.call n6_1 key1_1 fun t16x0 t16x1 =>
  Ite t16x1
    (Nn n6_1 fun t21 =>
    Ld t21 Sl.val fun t23 =>
    Idx t23 t16x0 5 fun t25 =>
    LdN (t25.add 1) 4 fun t27 =>
    StN value4_1 4 t27 <|
    LdN value4_1 4 fun r0 =>
    Q r0 true)
    (Nn n6_1 fun t29 =>
    Ld (t29.add 1) Sl.val fun t31 =>
    Ite (decide ((t31.n : Int) = 0))
      (LdN value4_1 4 fun t34 =>
      StN value4_1 4 t34 <|
      LdN value4_1 4 fun r0 =>
      Q r0 false)
      (Ld (t29.add 1) Sl.val fun t38 =>
      Idx t38 t16x0 1 fun t40 =>
      Ld t40 Value.pointer fun t41 =>
      X1 t41))
def btree_Tree_string_api_Record_Get (t0 : (Option Addr)) (key1 : ByteArray) (Q : (Array Value) → Bool → K) : K :=
  New 47 #[(.bool false), (Sl.val ⟨none, 0, 0⟩), (.int .i64 0), (.int .u64 0)] fun value4 =>
  Nn t0 fun t10 =>
  Ld t10 Value.pointer fun t12 =>
  LoopK (α := (Option Addr)) (fun X x => btree_Tree_string_api_Record_Get.b1 Q X key1 value4 x) t12
theorem btree_Tree_string_api_Record_Get_ok (t0 : (Option Addr)) (key1 : ByteArray) (Q : (Array Value) → Bool → K) (w : World) (h : btree_Tree_string_api_Record_Get t0 key1 Q w) : btree_Tree_string_api_Record_Get.call t0 key1 Q w := by
  have hL2 : ∀ (key1_1 : ByteArray) (value4_1 : Addr), LH 2 (fun x : (Option Addr) => [(1, (.string key1_1)), (4, (.pointer (some value4_1))), (6, (.pointer x))]) (fun X x => btree_Tree_string_api_Record_Get.b1 Q X key1_1 value4_1 x) := by intros; exact ⟨⟩
  exact g_walk 42 h Tryz.func52
def btree_Tree_string_api_Record_All (t0 : (Option Addr)) (Q : Value → K) : K :=
  New 117 #[(.pointer t0)] fun t1 =>
  Q (.func (.func 101) #[] #[(.pointer (some t1))])
theorem btree_Tree_string_api_Record_All_ok (t0 : (Option Addr)) (Q : Value → K) (w : World) (h : btree_Tree_string_api_Record_All t0 Q w) : btree_Tree_string_api_Record_All.call t0 Q w := by
  exact g_walk 4 h Tryz.func63
def btree_New_string_api_Record  (Q : (Option Addr) → K) : K :=
  New 185 #[(Sl.val ⟨none, 0, 0⟩), (Sl.val ⟨none, 0, 0⟩)] fun t2 =>
  New 177 #[(.pointer (some t2)), (.int .i64 0)] fun t4 =>
  Q (some t4)
theorem btree_New_string_api_Record_ok  (Q : (Option Addr) → K) (w : World) (h : btree_New_string_api_Record  Q w) : btree_New_string_api_Record.call  Q w := by
  exact g_walk 5 h Tryz.func72
def btree_node_string_api_Record_search (n0 : (Option Addr)) (key1 : ByteArray) (Q : Int → Bool → K) : K :=
  Nn n0 fun t7 =>
  Ld t7 Sl.val fun t9 =>
  slices_BinarySearchFunc_s_btree_item_string_api_Record_btree_item_string_api_Record_string.call t9 key1 (.func (.func 122) #[] #[]) fun t11x0 t11x1 =>
  Q t11x0 t11x1
theorem btree_node_string_api_Record_search_ok (n0 : (Option Addr)) (key1 : ByteArray) (Q : Int → Bool → K) (w : World) (h : btree_node_string_api_Record_search n0 key1 Q w) : btree_node_string_api_Record_search.call n0 key1 Q w := by
  exact g_walk 14 h Tryz.func91
def btree_Tree_string_api_Record_All_1 (yield0 : Value) (t1 : Addr) (Q : K) : K :=
  Ld t1 Value.pointer fun t3 =>
  Nn t3 fun t4 =>
  Ld t4 Value.pointer fun t6 =>
  btree_node_string_api_Record_walk.call t6 none yield0 fun t8 =>
  Q
theorem btree_Tree_string_api_Record_All_1_ok (yield0 : Value) (t1 : Addr) (Q : K) (w : World) (h : btree_Tree_string_api_Record_All_1 yield0 t1 Q w) : btree_Tree_string_api_Record_All_1.call yield0 t1 Q w := by
  exact g_walk 9 h Tryz.func101
def btree_node_string_api_Record_walk.s4 (Q : Bool → K) (X2 : (Option Addr) → Int → K) (n0_4 : Addr) (yield2_4 : Value) (i7_4 : Int) (t74_4 : Bool) : K :=
  Ite t74_4
    (Q false)
    (Ar (IntKind.wrap .i64 (i7_4 + 1)) fun t26 =>
    X2 none t26)
def btree_node_string_api_Record_walk.s3 (Q : Bool → K) (X2 : (Option Addr) → Int → K) (n0_3 : Addr) (yield2_3 : Value) (i7_3 : Int) (t46_3 : Bool) : K :=
  Ite t46_3
    (Q false)
    (Dr <|
    Ld n0_3 Sl.val fun t51 =>
    Ite (decide (i7_3 < (t51.n : Int)))
      (Ld n0_3 Sl.val fun t59 =>
      Idx t59 i7_3 5 fun t61 =>
      Ld t61 Value.string fun t63 =>
      Ld n0_3 Sl.val fun t67 =>
      Idx t67 i7_3 5 fun t69 =>
      LdN (t69.add 1) 4 fun t71 =>
      CallV Tryz.prog yield2_3 [(.string t63), (.agg t71)] <| Ans1 (fun (t72 : Bool) => Value.bool t72) fun t72 =>
      btree_node_string_api_Record_walk.s4 Q X2 n0_3 yield2_3 i7_3 (!t72))
      (btree_node_string_api_Record_walk.s4 Q X2 n0_3 yield2_3 i7_3 false))
def btree_node_string_api_Record_walk.b2 (Q : Bool → K)  (X2 : (Option Addr) → Int → K) (n0_2 : (Option Addr)) (yield2_2 : Value) (from1_2 : (Option Addr)) (i7_2 : Int) : K :=
  Nn n0_2 fun t20 =>
  Ld t20 Sl.val fun t22 =>
  Ite (decide (i7_2 ≤ (t22.n : Int)))
    (Ld (t20.add 1) Sl.val fun t31 =>
    Ite (decide (i7_2 < (t31.n : Int)))
      (Ld (t20.add 1) Sl.val fun t38 =>
      Idx t38 i7_2 1 fun t40 =>
      Ld t40 Value.pointer fun t41 =>
      btree_node_string_api_Record_walk.call t41 from1_2 yield2_2 fun t44 =>
      btree_node_string_api_Record_walk.s3 Q X2 t20 yield2_2 i7_2 (!t44))
      (btree_node_string_api_Record_walk.s3 Q X2 t20 yield2_2 i7_2 false))
    (Q true)
def btree_node_string_api_Record_walk.s1 (Q : Bool → K)  (n0_1 : (Option Addr)) (from1_1 : (Option Addr)) (yield2_1 : Value) (i7_1 : Int) : K :=
  LoopK (α := (Option Addr) × Int) (fun X x => btree_node_string_api_Record_walk.b2 Q (fun from1_2 i7_2 => X (from1_2, i7_2)) n0_1 yield2_1 x.1 x.2) (from1_1, i7_1)
def btree_node_string_api_Record_walk (n0 : (Option Addr)) (from1 : (Option Addr)) (yield2 : Value) (Q : Bool → K) : K :=
  Ite (!(from1).isNone)
    (Nn from1 fun t13 =>
    Ld t13 Value.string fun t14 =>
    btree_node_string_api_Record_search.call n0 t14 fun t15x0 t15x1 =>
    btree_node_string_api_Record_walk.s1 Q n0 (some t13) yield2 t15x0)
    (btree_node_string_api_Record_walk.s1 Q n0 from1 yield2 0)
theorem btree_node_string_api_Record_walk_ok (n0 : (Option Addr)) (from1 : (Option Addr)) (yield2 : Value) (Q : Bool → K) (w : World) (h : btree_node_string_api_Record_walk n0 from1 yield2 Q w) : btree_node_string_api_Record_walk.call n0 from1 yield2 Q w := by
  have hJ10 : ∀ (X2 : ((Option Addr) × Int) → K), XH 4 X2 → JH 10 fun D => ∃ (n0_4 : Addr) (yield2_4 : Value) (i7_4 : Int), D [(0, (.pointer (some n0_4))), (2, yield2_4), (7, (.int .i64 i7_4))] (fun C => ∀ (t74_4 : Bool), C [(0, (.pointer (some n0_4))), (1, (.pointer none)), (2, yield2_4), (7, (.int .i64 i7_4)), (74, (.bool t74_4))] (btree_node_string_api_Record_walk.s4 Q (fun from1_2 i7_2 => X2 (from1_2, i7_2)) n0_4 yield2_4 i7_4 t74_4)) := by intros; exact ⟨fun _ ⟨_, _, _, h⟩ => ⟨_, _, h⟩⟩
  have hD9 : DH 9 1 [25] (.s [0, 1, 2, 3, 4, 5, 6, 7] (.i (.s [8, 9, 10, 11, 13, 17, 18, 19, 21, 12, 14, 15, 16, 20, 22, 23, 24] (.a [(25, 0, .s [26, 27] .e)])) (.s [8, 9, 10, 11, 12, 13, 14, 15, 16, 17, 18, 19, 20, 21, 22, 23, 24, 25, 26, 27] .e))) := by intros; exact ⟨⟩
  have hJ7 : ∀ (X2 : ((Option Addr) × Int) → K), XH 4 X2 → JH 7 fun D => ∃ (n0_3 : Addr) (yield2_3 : Value) (i7_3 : Int), D [(0, (.pointer (some n0_3))), (2, yield2_3), (7, (.int .i64 i7_3))] (fun C => ∀ (t46_3 : Bool), C [(0, (.pointer (some n0_3))), (2, yield2_3), (7, (.int .i64 i7_3)), (46, (.bool t46_3))] (btree_node_string_api_Record_walk.s3 Q (fun from1_2 i7_2 => X2 (from1_2, i7_2)) n0_3 yield2_3 i7_3 t46_3)) := by intros; exact ⟨fun _ ⟨_, _, _, h⟩ => ⟨_, _, h⟩⟩
  have hL4 : ∀ (n0_2 : (Option Addr)) (yield2_2 : Value), LH 4 (fun x : (Option Addr) × Int => [(0, (.pointer n0_2)), (1, (.pointer x.1)), (2, yield2_2), (7, (.int .i64 x.2))]) (fun X x => btree_node_string_api_Record_walk.b2 Q (fun from1_2 i7_2 => X (from1_2, i7_2)) n0_2 yield2_2 x.1 x.2) := by intros; exact ⟨⟩
  have hJ4 : JH 4 fun D => ∃ (n0_1 : (Option Addr)) (from1_1 : (Option Addr)) (yield2_1 : Value), D [(0, (.pointer n0_1)), (1, (.pointer from1_1)), (2, yield2_1)] (fun C => ∀ (i7_1 : Int), C [(0, (.pointer n0_1)), (1, (.pointer from1_1)), (2, yield2_1), (7, (.int .i64 i7_1))] (btree_node_string_api_Record_walk.s1 Q n0_1 from1_1 yield2_1 i7_1)) := by intros; exact ⟨fun _ ⟨_, _, _, h⟩ => ⟨_, _, h⟩⟩
  exact g_walk 75 h Tryz.func102
def btree_Tree_string_api_Record_Delete.s2 (Q : (Array Value) → Bool → K)  (value4_2 : Addr) (ok5_2 : Bool) : K :=
  LdN value4_2 4 fun t55 =>
  StN value4_2 4 t55 <|
  LdN value4_2 4 fun r0 =>
  Q r0 ok5_2
def btree_Tree_string_api_Record_Delete.s1 (Q : (Array Value) → Bool → K)  (t0_1 : Addr) (value4_1 : Addr) (ok5_1 : Bool) : K :=
  Ite ok5_1
    (Ld (t0_1.add 1) (Value.int .i64) fun t51 =>
    Ar (IntKind.wrap .i64 (t51 - 1)) fun t52 =>
    St (t0_1.add 1) (.int .i64 t52) <|
    btree_Tree_string_api_Record_Delete.s2 Q value4_1 ok5_1)
    (btree_Tree_string_api_Record_Delete.s2 Q value4_1 ok5_1)
def btree_Tree_string_api_Record_Delete.s3 (Q : (Array Value) → Bool → K)  (t0_3 : Addr) (value4_3 : Addr) (ok5_3 : Bool) (t34_3 : Bool) : K :=
  Ite t34_3
    (Ld t0_3 Value.pointer fun t39 =>
    Nn t39 fun t40 =>
    Ld (t40.add 1) Sl.val fun t42 =>
    Idx t42 0 1 fun t43 =>
    Ld t43 Value.pointer fun t44 =>
    St t0_3 (.pointer t44) <|
    btree_Tree_string_api_Record_Delete.s1 Q t0_3 value4_3 ok5_3)
    (btree_Tree_string_api_Record_Delete.s1 Q t0_3 value4_3 ok5_3)
def btree_Tree_string_api_Record_Delete (t0 : (Option Addr)) (key1 : ByteArray) (Q : (Array Value) → Bool → K) : K :=
  New 47 #[(.bool false), (Sl.val ⟨none, 0, 0⟩), (.int .i64 0), (.int .u64 0)] fun value4 =>
  Nn t0 fun t8 =>
  Ld t8 Value.pointer fun t10 =>
  btree_node_string_api_Record_take.call t10 key1 fun t12x0 t12x1 =>
  StN value4 4 t12x0 <|
  Ld t8 Value.pointer fun t18 =>
  Nn t18 fun t19 =>
  Ld t19 Sl.val fun t21 =>
  Ite (decide ((t21.n : Int) = 0))
    (Ld t8 Value.pointer fun t28 =>
    Nn t28 fun t29 =>
    Ld (t29.add 1) Sl.val fun t31 =>
    btree_Tree_string_api_Record_Delete.s3 Q t8 value4 t12x1 (decide ((t31.n : Int) = 1)))
    (btree_Tree_string_api_Record_Delete.s3 Q t8 value4 t12x1 false)
theorem btree_Tree_string_api_Record_Delete_ok (t0 : (Option Addr)) (key1 : ByteArray) (Q : (Array Value) → Bool → K) (w : World) (h : btree_Tree_string_api_Record_Delete t0 key1 Q w) : btree_Tree_string_api_Record_Delete.call t0 key1 Q w := by
  have hJ6 : JH 6 fun D => ∃ (value4_2 : Addr), D [(4, (.pointer (some value4_2)))] (fun C => ∀ (ok5_2 : Bool), C [(4, (.pointer (some value4_2))), (5, (.bool ok5_2))] (btree_Tree_string_api_Record_Delete.s2 Q value4_2 ok5_2)) := by intros; exact ⟨fun _ ⟨_, h⟩ => ⟨_, _, h⟩⟩
  have hJ4 : JH 4 fun D => ∃ (t0_1 : Addr) (value4_1 : Addr), D [(0, (.pointer (some t0_1))), (4, (.pointer (some value4_1)))] (fun C => ∀ (ok5_1 : Bool), C [(0, (.pointer (some t0_1))), (4, (.pointer (some value4_1))), (5, (.bool ok5_1))] (btree_Tree_string_api_Record_Delete.s1 Q t0_1 value4_1 ok5_1)) := by intros; exact ⟨fun _ ⟨_, _, h⟩ => ⟨_, _, h⟩⟩
  have hJ3 : JH 3 fun D => ∃ (t0_3 : Addr) (value4_3 : Addr), D [(0, (.pointer (some t0_3))), (4, (.pointer (some value4_3)))] (fun C => ∀ (ok5_3 : Bool) (t34_3 : Bool), C [(0, (.pointer (some t0_3))), (4, (.pointer (some value4_3))), (5, (.bool ok5_3)), (34, (.bool t34_3))] (btree_Tree_string_api_Record_Delete.s3 Q t0_3 value4_3 ok5_3 t34_3)) := by intros; exact ⟨fun _ ⟨_, _, h⟩ => ⟨_, _, h⟩⟩
  exact g_walk 57 h Tryz.func117
def btree_Tree_string_api_Record_Put.s3 (Q : (Array Value) → Bool → K)  (t6_3 : Addr) (old8_3 : Addr) (had9_3 : Bool) : K :=
  LdN old8_3 4 fun t51 =>
  StN t6_3 4 t51 <|
  LdN t6_3 4 fun r0 =>
  Q r0 had9_3
def btree_Tree_string_api_Record_Put.s2 (Q : (Array Value) → Bool → K)  (t0_2 : (Option Addr)) (t6_2 : Addr) (old8_2 : Addr) (had9_2 : Bool) : K :=
  Ite (!had9_2)
    (Nn t0_2 fun t45 =>
    Ld (t45.add 1) (Value.int .i64) fun t47 =>
    Ar (IntKind.wrap .i64 (t47 + 1)) fun t48 =>
    St (t45.add 1) (.int .i64 t48) <|
    btree_Tree_string_api_Record_Put.s3 Q t6_2 old8_2 had9_2)
    (btree_Tree_string_api_Record_Put.s3 Q t6_2 old8_2 had9_2)
def btree_Tree_string_api_Record_Put.s1 (Q : (Array Value) → Bool → K)  (t0_1 : (Option Addr)) (t6_1 : Addr) (old8_1 : Addr) (had9_1 : Bool) (mid10_1 : (Option Addr)) (right11_1 : (Option Addr)) : K :=
  Ite (!(mid10_1).isNone)
    (Dr <| WithS fun S =>
    Nn mid10_1 fun t29 =>
    Nn t0_1 fun t33 =>
    LdNS S t29 5 fun t30 =>
    LdS S t33 Value.pointer fun t35 =>
    All [
      (Bld #[(.string ⟨#[]⟩), (.bool false), (Sl.val ⟨none, 0, 0⟩), (.int .i64 0), (.int .u64 0)] (fun i => some (i * 5, 5)) [(0, (.agg t30))] fun ct31 =>
      New 181 ct31 fun t31 =>
      Sv S <|
      New 175 #[(.pointer t35), (.pointer right11_1)] fun t37 =>
      Sv S <|
      New 185 #[(Sl.val (Sl.mk (some t31) 1 1)), (Sl.val (Sl.mk (some t37) 2 2))] fun t39 =>
      St t33 (.pointer (some t39)) <|
      btree_Tree_string_api_Record_Put.s2 Q (some t33) t6_1 old8_1 had9_1),
      (New 175 #[(.pointer t35), (.pointer right11_1)] fun t37 =>
      Sv S <|
      Bld #[(.string ⟨#[]⟩), (.bool false), (Sl.val ⟨none, 0, 0⟩), (.int .i64 0), (.int .u64 0)] (fun i => some (i * 5, 5)) [(0, (.agg t30))] fun ct31 =>
      New 181 ct31 fun t31 =>
      Sv S <|
      New 185 #[(Sl.val (Sl.mk (some t31) 1 1)), (Sl.val (Sl.mk (some t37) 2 2))] fun t39 =>
      St t33 (.pointer (some t39)) <|
      btree_Tree_string_api_Record_Put.s2 Q (some t33) t6_1 old8_1 had9_1)
      ])
    (btree_Tree_string_api_Record_Put.s2 Q t0_1 t6_1 old8_1 had9_1)
def btree_Tree_string_api_Record_Put (t0 : (Option Addr)) (key1 : ByteArray) (value2 : (Array Value)) (Q : (Array Value) → Bool → K) : K :=
  New 47 value2 fun value5 =>
  New 47 #[(.bool false), (Sl.val ⟨none, 0, 0⟩), (.int .i64 0), (.int .u64 0)] fun t6 =>
  Dr <| WithS fun S =>
  Nn t0 fun t14 =>
  LdS S t14 Value.pointer fun t16 =>
  LdNS S value5 4 fun t18 =>
  Bld #[(.string ⟨#[]⟩), (.bool false), (Sl.val ⟨none, 0, 0⟩), (.int .i64 0), (.int .u64 0)] ([(0, 1), (1, 4)][·]?) [(0, (.string key1)), (1, (.agg t18))] fun t19 =>
  All [
    (btree_node_string_api_Record_put.call t16 t19 fun t20x0 t20x1 t20x2 t20x3 =>
    New 47 #[(.bool false), (Sl.val ⟨none, 0, 0⟩), (.int .i64 0), (.int .u64 0)] fun old8 =>
    StN old8 4 t20x0 <|
    btree_Tree_string_api_Record_Put.s1 Q (some t14) t6 old8 t20x1 t20x2 t20x3),
    (New 47 #[(.bool false), (Sl.val ⟨none, 0, 0⟩), (.int .i64 0), (.int .u64 0)] fun old8 =>
    Sv S <|
    btree_node_string_api_Record_put.call t16 t19 fun t20x0 t20x1 t20x2 t20x3 =>
    StN old8 4 t20x0 <|
    btree_Tree_string_api_Record_Put.s1 Q (some t14) t6 old8 t20x1 t20x2 t20x3)
    ]
theorem btree_Tree_string_api_Record_Put_ok (t0 : (Option Addr)) (key1 : ByteArray) (value2 : (Array Value)) (Q : (Array Value) → Bool → K) (w : World) (h : btree_Tree_string_api_Record_Put t0 key1 value2 Q w) : btree_Tree_string_api_Record_Put.call t0 key1 value2 Q w := by
  have hJ6 : JH 6 fun D => ∃ (t6_3 : Addr) (old8_3 : Addr), D [(6, (.pointer (some t6_3))), (8, (.pointer (some old8_3)))] (fun C => ∀ (had9_3 : Bool), C [(6, (.pointer (some t6_3))), (8, (.pointer (some old8_3))), (9, (.bool had9_3))] (btree_Tree_string_api_Record_Put.s3 Q t6_3 old8_3 had9_3)) := by intros; exact ⟨fun _ ⟨_, _, h⟩ => ⟨_, _, h⟩⟩
  have hJ4 : JH 4 fun D => ∃ (t0_2 : (Option Addr)) (t6_2 : Addr) (old8_2 : Addr), D [(0, (.pointer t0_2)), (6, (.pointer (some t6_2))), (8, (.pointer (some old8_2)))] (fun C => ∀ (had9_2 : Bool), C [(0, (.pointer t0_2)), (6, (.pointer (some t6_2))), (8, (.pointer (some old8_2))), (9, (.bool had9_2))] (btree_Tree_string_api_Record_Put.s2 Q t0_2 t6_2 old8_2 had9_2)) := by intros; exact ⟨fun _ ⟨_, _, _, h⟩ => ⟨_, _, h⟩⟩
  have hD3 : DH 3 2 [12, 15] (.s [0, 1, 2, 5, 6, 7, 9, 3, 8] (.a [(4, 1, .a [(10, 1, .s [11] (.a [(12, 0, .s [13, 14] (.a [(15, 0, .e)]))]))]), (10, 1, .a [(4, 1, .s [11] (.a [(12, 0, .s [13, 14] (.a [(15, 0, .e)]))]))])])) := by intros; exact ⟨⟩
  have hJ2 : JH 2 fun D => ∃ (t0_1 : (Option Addr)) (t6_1 : Addr), D [(0, (.pointer t0_1)), (6, (.pointer (some t6_1)))] (fun C => ∀ (old8_1 : Addr) (had9_1 : Bool) (mid10_1 : (Option Addr)) (right11_1 : (Option Addr)), C [(0, (.pointer t0_1)), (6, (.pointer (some t6_1))), (8, (.pointer (some old8_1))), (9, (.bool had9_1)), (10, (.pointer mid10_1)), (11, (.pointer right11_1))] (btree_Tree_string_api_Record_Put.s1 Q t0_1 t6_1 old8_1 had9_1 mid10_1 right11_1)) := by intros; exact ⟨fun _ ⟨_, _, h⟩ => ⟨_, _, h⟩⟩
  have hD1 : DH 1 2 [7, 14] (.s [0, 1, 2, 4, 3, 5, 6] (.a [(7, 0, .s [8, 9, 10, 11, 12] (.a [(13, 0, .a [(14, 0, .s [15, 16, 17] .e)])])), (13, 1, .a [(7, 0, .s [8, 9, 10, 11, 12] (.a [(14, 0, .s [15, 16, 17] .e)]))])])) := by intros; exact ⟨⟩
  exact g_walk 53 h Tryz.func118
def btree_node_string_api_Record_search_1 (x0 : (Array Value)) (k1 : ByteArray) (Q : Int → K) : K :=
  New 181 x0 fun x2 =>
  Ld x2 Value.string fun t6 =>
  cmp_Compare_string.call t6 k1 fun t8 =>
  Q t8
theorem btree_node_string_api_Record_search_1_ok (x0 : (Array Value)) (k1 : ByteArray) (Q : Int → K) (w : World) (h : btree_node_string_api_Record_search_1 x0 k1 Q w) : btree_node_string_api_Record_search_1.call x0 k1 Q w := by
  exact g_walk 9 h Tryz.func122
def btree_node_string_api_Record_take.s1 (Q : (Array Value) → Bool → K)  (value4_1 : Addr) (ok5_1 : Bool) : K :=
  LdN value4_1 4 fun t94 =>
  StN value4_1 4 t94 <|
  LdN value4_1 4 fun r0 =>
  Q r0 ok5_1
def btree_node_string_api_Record_take.s2 (Q : (Array Value) → Bool → K)  (n0_2 : (Option Addr)) (key1_2 : ByteArray) (value4_2 : Addr) (i6_2 : Int) (found7_2 : Bool) (t14_2 : Bool) : K :=
  Ite t14_2
    (Nn n0_2 fun t25 =>
    Ld t25 Sl.val fun t27 =>
    Idx t27 i6_2 5 fun t29 =>
    LdN (t29.add 1) 4 fun t31 =>
    StN value4_2 4 t31 <|
    Ld t25 Sl.val fun t36 =>
    Ar (IntKind.wrap .i64 (i6_2 + 1)) fun t39 =>
    slices_Delete_s_btree_item_string_api_Record_btree_item_string_api_Record.call t36 i6_2 t39 fun t40 =>
    St t25 (Sl.val t40) <|
    LdN value4_2 4 fun t43 =>
    StN value4_2 4 t43 <|
    LdN value4_2 4 fun r0 =>
    Q r0 true)
    (Ite found7_2
      (Nn n0_2 fun t47 =>
      Ld t47 Sl.val fun t49 =>
      Idx t49 i6_2 5 fun t51 =>
      LdN (t51.add 1) 4 fun t53 =>
      StN value4_2 4 t53 <|
      Dr <| WithS fun S =>
      LdS S t47 Sl.val fun t57 =>
      LdS S (t47.add 1) Sl.val fun t62 =>
      Idx t62 i6_2 1 fun t64 =>
      LdS S t64 Value.pointer fun t65 =>
      btree_node_string_api_Record_last.call t65 fun t66 =>
      Sv S <|
      Idx t57 i6_2 5 fun t67 =>
      StN t67 5 t66 <|
      btree_node_string_api_Record_mend.call (some t47) i6_2 <|
      LdN value4_2 4 fun t71 =>
      StN value4_2 4 t71 <|
      LdN value4_2 4 fun r0 =>
      Q r0 true)
      (Nn n0_2 fun t74 =>
      Ld (t74.add 1) Sl.val fun t76 =>
      Ite (decide ((0 : Int) < (t76.n : Int)))
        (Ld (t74.add 1) Sl.val fun t83 =>
        Idx t83 i6_2 1 fun t85 =>
        Ld t85 Value.pointer fun t86 =>
        btree_node_string_api_Record_take.call t86 key1_2 fun t88x0 t88x1 =>
        StN value4_2 4 t88x0 <|
        btree_node_string_api_Record_mend.call (some t74) i6_2 <|
        btree_node_string_api_Record_take.s1 Q value4_2 t88x1)
        (btree_node_string_api_Record_take.s1 Q value4_2 false)))
def btree_node_string_api_Record_take (n0 : (Option Addr)) (key1 : ByteArray) (Q : (Array Value) → Bool → K) : K :=
  New 47 #[(.bool false), (Sl.val ⟨none, 0, 0⟩), (.int .i64 0), (.int .u64 0)] fun value4 =>
  btree_node_string_api_Record_search.call n0 key1 fun t11x0 t11x1 =>
  Ite t11x1
    (Nn n0 fun t18 =>
    Ld (t18.add 1) Sl.val fun t20 =>
    btree_node_string_api_Record_take.s2 Q (some t18) key1 value4 t11x0 true (decide ((t20.n : Int) = 0)))
    (btree_node_string_api_Record_take.s2 Q n0 key1 value4 t11x0 false false)
theorem btree_node_string_api_Record_take_ok (n0 : (Option Addr)) (key1 : ByteArray) (Q : (Array Value) → Bool → K) (w : World) (h : btree_node_string_api_Record_take n0 key1 Q w) : btree_node_string_api_Record_take.call n0 key1 Q w := by
  have hJ14 : JH 14 fun D => ∃ (value4_1 : Addr), D [(4, (.pointer (some value4_1)))] (fun C => ∀ (ok5_1 : Bool), C [(4, (.pointer (some value4_1))), (5, (.bool ok5_1))] (btree_node_string_api_Record_take.s1 Q value4_1 ok5_1)) := by intros; exact ⟨fun _ ⟨_, h⟩ => ⟨_, _, h⟩⟩
  have hD8 : DH 8 2 [14] (.s [0, 1, 2, 4, 5, 6, 7, 9, 3, 8, 10, 11] (.a [(12, 1, .s [13] (.a [(14, 0, .e)]))])) := by intros; exact ⟨⟩
  have hJ3 : JH 3 fun D => ∃ (n0_2 : (Option Addr)) (key1_2 : ByteArray) (value4_2 : Addr) (i6_2 : Int), D [(0, (.pointer n0_2)), (1, (.string key1_2)), (4, (.pointer (some value4_2))), (6, (.int .i64 i6_2))] (fun C => ∀ (found7_2 : Bool) (t14_2 : Bool), C [(0, (.pointer n0_2)), (1, (.string key1_2)), (4, (.pointer (some value4_2))), (5, (.bool false)), (6, (.int .i64 i6_2)), (7, (.bool found7_2)), (14, (.bool t14_2))] (btree_node_string_api_Record_take.s2 Q n0_2 key1_2 value4_2 i6_2 found7_2 t14_2)) := by intros; exact ⟨fun _ ⟨_, _, _, _, h⟩ => ⟨_, _, h⟩⟩
  exact g_walk 96 h Tryz.func130
def btree_node_string_api_Record_put.s2 (Q : (Array Value) → Bool → (Option Addr) → (Option Addr) → K)  (old4_2 : Addr) (had5_2 : Bool) (right7_2 : Addr) (m12_2 : Addr) : K :=
  LdN old4_2 4 fun t153 =>
  StN old4_2 4 t153 <|
  LdN old4_2 4 fun r0 =>
  Q r0 had5_2 (some m12_2) (some right7_2)
def btree_node_string_api_Record_put.s1 (Q : (Array Value) → Bool → (Option Addr) → (Option Addr) → K)  (n0_1 : (Option Addr)) (old4_1 : Addr) (had5_1 : Bool) : K :=
  Nn n0_1 fun t101 =>
  Ld t101 Sl.val fun t103 =>
  Ite (decide ((t103.n : Int) ≤ 5))
    (LdN old4_1 4 fun t106 =>
    StN old4_1 4 t106 <|
    LdN old4_1 4 fun r0 =>
    Q r0 had5_1 none none)
    (Ld t101 Sl.val fun t111 =>
    Idx t111 2 5 fun t112 =>
    LdN t112 5 fun t113 =>
    New 181 #[(.string ⟨#[]⟩), (.bool false), (Sl.val ⟨none, 0, 0⟩), (.int .i64 0), (.int .u64 0)] fun m12 =>
    StN m12 5 t113 <|
    Ld t101 Sl.val fun t117 =>
    Slc t117 3 (t117.n : Int) (t117.c : Int) 5 fun t118 =>
    slices_Clone_s_btree_item_string_api_Record_btree_item_string_api_Record.call t118 fun t119 =>
    New 185 #[(Sl.val t119), (Sl.val ⟨none, 0, 0⟩)] fun t121 =>
    Ld t101 Sl.val fun t126 =>
    Slc t126 0 2 2 5 fun t127 =>
    St t101 (Sl.val t127) <|
    Ld (t101.add 1) Sl.val fun t133 =>
    Ite (decide ((0 : Int) < (t133.n : Int)))
      (Ld (t101.add 1) Sl.val fun t140 =>
      Slc t140 3 (t140.n : Int) (t140.c : Int) 1 fun t141 =>
      slices_Clone_s_btree_node_string_api_Record_btree_node_string_api_Record.call t141 fun t142 =>
      St (t121.add 1) (Sl.val t142) <|
      Ld (t101.add 1) Sl.val fun t149 =>
      Slc t149 0 3 3 1 fun t150 =>
      St (t101.add 1) (Sl.val t150) <|
      btree_node_string_api_Record_put.s2 Q old4_1 had5_1 t121 m12)
      (btree_node_string_api_Record_put.s2 Q old4_1 had5_1 t121 m12))
def btree_node_string_api_Record_put (n0 : (Option Addr)) (x1 : (Array Value)) (Q : (Array Value) → Bool → (Option Addr) → (Option Addr) → K) : K :=
  New 181 x1 fun x3 =>
  New 47 #[(.bool false), (Sl.val ⟨none, 0, 0⟩), (.int .i64 0), (.int .u64 0)] fun old4 =>
  Ld x3 Value.string fun t16 =>
  btree_node_string_api_Record_search.call n0 t16 fun t17x0 t17x1 =>
  Ite t17x1
    (Nn n0 fun t64 =>
    Ld t64 Sl.val fun t66 =>
    Idx t66 t17x0 5 fun t68 =>
    LdN (t68.add 1) 4 fun t70 =>
    StN old4 4 t70 <|
    Dr <|
    Ld t64 Sl.val fun t74 =>
    LdN (x3.add 1) 4 fun t77 =>
    Idx t74 t17x0 5 fun t78 =>
    StN (t78.add 1) 4 t77 <|
    LdN old4 4 fun t80 =>
    StN old4 4 t80 <|
    LdN old4 4 fun r0 =>
    Q r0 true none none)
    (Nn n0 fun t84 =>
    Ld (t84.add 1) Sl.val fun t86 =>
    Ite (decide ((t86.n : Int) = 0))
      (Dr <| WithS fun S =>
      LdS S t84 Sl.val fun t93 =>
      LdNS S x3 5 fun t95 =>
      Bld #[(.string ⟨#[]⟩), (.bool false), (Sl.val ⟨none, 0, 0⟩), (.int .i64 0), (.int .u64 0)] (fun i => some (i * 5, 5)) [(0, (.agg t95))] fun ct96 =>
      New 181 ct96 fun t96 =>
      Sv S <|
      slices_Insert_s_btree_item_string_api_Record_btree_item_string_api_Record.call t93 t17x0 (Sl.mk (some t96) 1 1) fun t97 =>
      St t84 (Sl.val t97) <|
      btree_node_string_api_Record_put.s1 Q (some t84) old4 false)
      (Dr <|
      Ld (t84.add 1) Sl.val fun t24 =>
      Idx t24 t17x0 1 fun t26 =>
      Ld t26 Value.pointer fun t27 =>
      LdN x3 5 fun t28 =>
      btree_node_string_api_Record_put.call t27 t28 fun t29x0 t29x1 t29x2 t29x3 =>
      StN old4 4 t29x0 <|
      Ite (!(t29x2).isNone)
        (Dr <| WithS fun S =>
        Nn t29x2 fun t43 =>
        LdS S t84 Sl.val fun t40 =>
        LdNS S t43 5 fun t44 =>
        Bld #[(.string ⟨#[]⟩), (.bool false), (Sl.val ⟨none, 0, 0⟩), (.int .i64 0), (.int .u64 0)] (fun i => some (i * 5, 5)) [(0, (.agg t44))] fun ct45 =>
        New 181 ct45 fun t45 =>
        Sv S <|
        slices_Insert_s_btree_item_string_api_Record_btree_item_string_api_Record.call t40 t17x0 (Sl.mk (some t45) 1 1) fun t46 =>
        St t84 (Sl.val t46) <|
        Ld (t84.add 1) Sl.val fun t53 =>
        Ar (IntKind.wrap .i64 (t17x0 + 1)) fun t55 =>
        New 175 #[(.pointer t29x3)] fun t57 =>
        slices_Insert_s_btree_node_string_api_Record_btree_node_string_api_Record.call t53 t55 (Sl.mk (some t57) 1 1) fun t58 =>
        St (t84.add 1) (Sl.val t58) <|
        btree_node_string_api_Record_put.s1 Q (some t84) old4 t29x1)
        (btree_node_string_api_Record_put.s1 Q (some t84) old4 t29x1)))
theorem btree_node_string_api_Record_put_ok (n0 : (Option Addr)) (x1 : (Array Value)) (Q : (Array Value) → Bool → (Option Addr) → (Option Addr) → K) (w : World) (h : btree_node_string_api_Record_put n0 x1 Q w) : btree_node_string_api_Record_put.call n0 x1 Q w := by
  have hJ22 : JH 22 fun D => ∃ (old4_2 : Addr) (right7_2 : Addr) (m12_2 : Addr), D [(4, (.pointer (some old4_2))), (7, (.pointer (some right7_2))), (12, (.pointer (some m12_2)))] (fun C => ∀ (had5_2 : Bool), C [(4, (.pointer (some old4_2))), (5, (.bool had5_2)), (7, (.pointer (some right7_2))), (12, (.pointer (some m12_2)))] (btree_node_string_api_Record_put.s2 Q old4_2 had5_2 right7_2 m12_2)) := by intros; exact ⟨fun _ ⟨_, _, _, h⟩ => ⟨_, _, h⟩⟩
  have hJ14 : JH 14 fun D => ∃ (n0_1 : (Option Addr)) (old4_1 : Addr), D [(0, (.pointer n0_1)), (4, (.pointer (some old4_1)))] (fun C => ∀ (had5_1 : Bool), C [(0, (.pointer n0_1)), (4, (.pointer (some old4_1))), (5, (.bool had5_1))] (btree_node_string_api_Record_put.s1 Q n0_1 old4_1 had5_1)) := by intros; exact ⟨fun _ ⟨_, _, h⟩ => ⟨_, _, h⟩⟩
  have hD10 : DH 10 1 [9] (.s [0, 1, 2, 4, 5, 3, 6, 7, 8] (.a [(9, 0, .e)])) := by intros; exact ⟨⟩
  have hD13 : DH 13 2 [8, 11] (.s [0, 1, 2, 3, 5, 4, 6] (.a [(7, 1, .a [(8, 0, .s [9, 10] (.a [(11, 0, .e)]))])])) := by intros; exact ⟨⟩
  have hD6 : DH 6 2 [10, 13] (.s [0, 1, 2, 3, 5, 6, 7, 4, 8] (.a [(9, 1, .a [(10, 0, .s [11, 12] (.a [(13, 0, .e)]))])])) := by intros; exact ⟨⟩
  have hD4 : DH 4 1 [8, 14] (.s [0, 1, 2, 4, 3, 5, 6, 7] (.a [(8, 0, .s [9, 10, 11, 12, 13] (.a [(14, 0, .s [15, 16, 17] .e)]))])) := by intros; exact ⟨⟩
  exact g_walk 156 h Tryz.func131
def btree_node_string_api_Record_last (n0 : (Option Addr)) (Q : (Array Value) → K) : K :=
  New 181 #[(.string ⟨#[]⟩), (.bool false), (Sl.val ⟨none, 0, 0⟩), (.int .i64 0), (.int .u64 0)] fun t2 =>
  Nn n0 fun t7 =>
  Ld (t7.add 1) Sl.val fun t9 =>
  Ar (IntKind.wrap .i64 ((t9.n : Int) - 1)) fun t11 =>
  Ite (decide ((0 : Int) ≤ t11))
    (Ld (t7.add 1) Sl.val fun t17 =>
    Idx t17 t11 1 fun t19 =>
    Ld t19 Value.pointer fun t20 =>
    btree_node_string_api_Record_last.call t20 fun t21 =>
    New 181 #[(.string ⟨#[]⟩), (.bool false), (Sl.val ⟨none, 0, 0⟩), (.int .i64 0), (.int .u64 0)] fun x4 =>
    StN x4 5 t21 <|
    btree_node_string_api_Record_mend.call (some t7) t11 <|
    LdN x4 5 fun t25 =>
    StN t2 5 t25 <|
    LdN t2 5 fun r0 =>
    Q r0)
    (Dr <| WithS fun S =>
    LdS S t7 Sl.val fun t29 =>
    LdS S t7 Sl.val fun t33 =>
    Ar (IntKind.wrap .i64 ((t33.n : Int) - 1)) fun t35 =>
    Idx t29 t35 5 fun t36 =>
    LdNS S t36 5 fun t37 =>
    New 181 #[(.string ⟨#[]⟩), (.bool false), (Sl.val ⟨none, 0, 0⟩), (.int .i64 0), (.int .u64 0)] fun x5 =>
    Sv S <|
    StN x5 5 t37 <|
    Dr <|
    Ld t7 Sl.val fun t42 =>
    Ld t7 Sl.val fun t46 =>
    Ar (IntKind.wrap .i64 ((t46.n : Int) - 1)) fun t48 =>
    Slc t42 0 t48 (t42.c : Int) 5 fun t49 =>
    St t7 (Sl.val t49) <|
    LdN x5 5 fun t52 =>
    StN t2 5 t52 <|
    LdN t2 5 fun r0 =>
    Q r0)
theorem btree_node_string_api_Record_last_ok (n0 : (Option Addr)) (Q : (Array Value) → K) (w : World) (h : btree_node_string_api_Record_last n0 Q w) : btree_node_string_api_Record_last.call n0 Q w := by
  have hD7 : DH 7 1 [14] (.s [0, 1, 2, 3, 5, 6, 7, 4, 8, 9, 10, 11, 12, 13] (.a [(14, 0, .e)])) := by intros; exact ⟨⟩
  have hD6 : DH 6 2 [13] (.s [0, 1, 2, 4, 5, 6, 3, 7, 8, 9, 10, 11] (.a [(12, 1, .a [(13, 0, .e)])])) := by intros; exact ⟨⟩
  exact g_walk 53 h Tryz.func155
def btree_node_string_api_Record_mend.s2 (Q : K)  (n0_2 : Addr) (i1_2 : Int) (kid4_2 : Addr) (t202_2 : Bool) : K :=
  Ite t202_2
    (Ld (n0_2.add 1) Sl.val fun t229 =>
    Ar (IntKind.wrap .i64 (i1_2 + 1)) fun t231 =>
    Idx t229 t231 1 fun t232 =>
    Ld t232 Value.pointer fun t233 =>
    Dr <| WithS fun S =>
    LdS S kid4_2 Sl.val fun t238 =>
    LdS S n0_2 Sl.val fun t242 =>
    Idx t242 i1_2 5 fun t244 =>
    LdNS S t244 5 fun t245 =>
    Bld #[(.string ⟨#[]⟩), (.bool false), (Sl.val ⟨none, 0, 0⟩), (.int .i64 0), (.int .u64 0)] (fun i => some (i * 5, 5)) [(0, (.agg t245))] fun ct246 =>
    New 181 ct246 fun t246 =>
    Sv S <|
    Do Tryz.prog (Builtin.append_ #[182, 182] 182 #[(Sl.val t238), (Sl.val (Sl.mk (some t246) 1 1))]) Sl.val fun t247 =>
    St kid4_2 (Sl.val t247) <|
    Dr <|
    Nn t233 fun t256 =>
    Ld n0_2 Sl.val fun t253 =>
    Ld t256 Sl.val fun t258 =>
    Idx t258 0 5 fun t259 =>
    LdN t259 5 fun t260 =>
    Idx t253 i1_2 5 fun t261 =>
    StN t261 5 t260 <|
    Ld t256 Sl.val fun t266 =>
    slices_Delete_s_btree_item_string_api_Record_btree_item_string_api_Record.call t266 0 1 fun t267 =>
    St t256 (Sl.val t267) <|
    Ld (t256.add 1) Sl.val fun t273 =>
    Ite (decide ((0 : Int) < (t273.n : Int)))
      (Dr <| WithS fun S =>
      LdS S (kid4_2.add 1) Sl.val fun t280 =>
      LdS S (t256.add 1) Sl.val fun t284 =>
      Idx t284 0 1 fun t285 =>
      LdS S t285 Value.pointer fun t286 =>
      New 175 #[(.pointer t286)] fun t287 =>
      Sv S <|
      Do Tryz.prog (Builtin.append_ #[183, 183] 183 #[(Sl.val t280), (Sl.val (Sl.mk (some t287) 1 1))]) Sl.val fun t288 =>
      St (kid4_2.add 1) (Sl.val t288) <|
      Ld (t256.add 1) Sl.val fun t295 =>
      slices_Delete_s_btree_node_string_api_Record_btree_node_string_api_Record.call t295 0 1 fun t296 =>
      St (t256.add 1) (Sl.val t296) <|
      Q)
      (Q))
    (Ar (if (1 : Int) > i1_2 then 1 else i1_2) fun t18 =>
    Dr <|
    Ld (n0_2.add 1) Sl.val fun t22 =>
    Ar (IntKind.wrap .i64 (t18 - 1)) fun t24 =>
    Idx t22 t24 1 fun t25 =>
    Ld t25 Value.pointer fun t26 =>
    Ld (n0_2.add 1) Sl.val fun t30 =>
    Idx t30 t18 1 fun t32 =>
    Ld t32 Value.pointer fun t33 =>
    Dr <| WithS fun S =>
    Nn t26 fun t36 =>
    Ar (IntKind.wrap .i64 (t18 - 1)) fun t44 =>
    Nn t33 fun t50 =>
    LdS S t36 Sl.val fun t38 =>
    LdS S n0_2 Sl.val fun t42 =>
    Idx t42 t44 5 fun t45 =>
    LdNS S t45 5 fun t46 =>
    LdS S t50 Sl.val fun t52 =>
    Bld #[(.string ⟨#[]⟩), (.bool false), (Sl.val ⟨none, 0, 0⟩), (.int .i64 0), (.int .u64 0)] (fun i => some (i * 5, 5)) [(0, (.agg t46))] fun ct47 =>
    New 181 ct47 fun t47 =>
    Sv S <|
    Do Tryz.prog (Builtin.append_ #[182, 182] 182 #[(Sl.val t38), (Sl.val (Sl.mk (some t47) 1 1))]) Sl.val fun t48 =>
    Sv S <|
    Do Tryz.prog (Builtin.append_ #[182, 182] 182 #[(Sl.val t48), (Sl.val t52)]) Sl.val fun t53 =>
    St t36 (Sl.val t53) <|
    Dr <|
    Ld (t36.add 1) Sl.val fun t60 =>
    Ld (t50.add 1) Sl.val fun t64 =>
    Do Tryz.prog (Builtin.append_ #[183, 183] 183 #[(Sl.val t60), (Sl.val t64)]) Sl.val fun t65 =>
    St (t36.add 1) (Sl.val t65) <|
    Ld n0_2 Sl.val fun t72 =>
    Ar (IntKind.wrap .i64 (t18 - 1)) fun t74 =>
    slices_Delete_s_btree_item_string_api_Record_btree_item_string_api_Record.call t72 t74 t18 fun t76 =>
    St n0_2 (Sl.val t76) <|
    Ld (n0_2.add 1) Sl.val fun t83 =>
    Ar (IntKind.wrap .i64 (t18 + 1)) fun t86 =>
    slices_Delete_s_btree_node_string_api_Record_btree_node_string_api_Record.call t83 t18 t86 fun t87 =>
    St (n0_2.add 1) (Sl.val t87) <|
    Q)
def btree_node_string_api_Record_mend.s1 (Q : K)  (n0_1 : Addr) (i1_1 : Int) (kid4_1 : Addr) (t97_1 : Bool) : K :=
  Ite t97_1
    (Ld (n0_1.add 1) Sl.val fun t118 =>
    Ar (IntKind.wrap .i64 (i1_1 - 1)) fun t120 =>
    Idx t118 t120 1 fun t121 =>
    Ld t121 Value.pointer fun t122 =>
    Nn t122 fun t124 =>
    Ld t124 Sl.val fun t126 =>
    Ar (IntKind.wrap .i64 ((t126.n : Int) - 1)) fun t128 =>
    Dr <| WithS fun S =>
    Ar (IntKind.wrap .i64 (i1_1 - 1)) fun t139 =>
    LdS S kid4_1 Sl.val fun t133 =>
    LdS S n0_1 Sl.val fun t137 =>
    Idx t137 t139 5 fun t140 =>
    LdNS S t140 5 fun t141 =>
    Bld #[(.string ⟨#[]⟩), (.bool false), (Sl.val ⟨none, 0, 0⟩), (.int .i64 0), (.int .u64 0)] (fun i => some (i * 5, 5)) [(0, (.agg t141))] fun ct142 =>
    New 181 ct142 fun t142 =>
    Sv S <|
    slices_Insert_s_btree_item_string_api_Record_btree_item_string_api_Record.call t133 0 (Sl.mk (some t142) 1 1) fun t143 =>
    St kid4_1 (Sl.val t143) <|
    Dr <|
    Ar (IntKind.wrap .i64 (i1_1 - 1)) fun t151 =>
    Ld n0_1 Sl.val fun t149 =>
    Ld t124 Sl.val fun t155 =>
    Idx t155 t128 5 fun t157 =>
    LdN t157 5 fun t158 =>
    Idx t149 t151 5 fun t159 =>
    StN t159 5 t158 <|
    Ld t124 Sl.val fun t164 =>
    Slc t164 0 t128 (t164.c : Int) 5 fun t166 =>
    St t124 (Sl.val t166) <|
    Ld (t124.add 1) Sl.val fun t172 =>
    Ite (decide ((0 : Int) < (t172.n : Int)))
      (Dr <| WithS fun S =>
      Ar (IntKind.wrap .i64 (t128 + 1)) fun t185 =>
      LdS S (kid4_1.add 1) Sl.val fun t179 =>
      LdS S (t124.add 1) Sl.val fun t183 =>
      Idx t183 t185 1 fun t186 =>
      LdS S t186 Value.pointer fun t187 =>
      New 175 #[(.pointer t187)] fun t188 =>
      Sv S <|
      slices_Insert_s_btree_node_string_api_Record_btree_node_string_api_Record.call t179 0 (Sl.mk (some t188) 1 1) fun t189 =>
      St (kid4_1.add 1) (Sl.val t189) <|
      Ld (t124.add 1) Sl.val fun t196 =>
      Ar (IntKind.wrap .i64 (t128 + 1)) fun t198 =>
      Slc t196 0 t198 (t196.c : Int) 1 fun t199 =>
      St (t124.add 1) (Sl.val t199) <|
      Q)
      (Q))
    (Ar (IntKind.wrap .i64 (i1_1 + 1)) fun t204 =>
    Ld (n0_1.add 1) Sl.val fun t208 =>
    Ite (decide (t204 < (t208.n : Int)))
      (Ld (n0_1.add 1) Sl.val fun t215 =>
      Ar (IntKind.wrap .i64 (i1_1 + 1)) fun t217 =>
      Idx t215 t217 1 fun t218 =>
      Ld t218 Value.pointer fun t219 =>
      Nn t219 fun t220 =>
      Ld t220 Sl.val fun t222 =>
      btree_node_string_api_Record_mend.s2 Q n0_1 i1_1 kid4_1 (decide ((2 : Int) < (t222.n : Int))))
      (btree_node_string_api_Record_mend.s2 Q n0_1 i1_1 kid4_1 false))
def btree_node_string_api_Record_mend (n0 : (Option Addr)) (i1 : Int) (Q : K) : K :=
  Nn n0 fun t11 =>
  Ld (t11.add 1) Sl.val fun t13 =>
  Idx t13 i1 1 fun t15 =>
  Ld t15 Value.pointer fun t16 =>
  Nn t16 fun t92 =>
  Ld t92 Sl.val fun t94 =>
  Ite (decide ((2 : Int) ≤ (t94.n : Int)))
    (Q)
    (Ite (decide ((0 : Int) < i1))
      (Ld (t11.add 1) Sl.val fun t104 =>
      Ar (IntKind.wrap .i64 (i1 - 1)) fun t106 =>
      Idx t104 t106 1 fun t107 =>
      Ld t107 Value.pointer fun t108 =>
      Nn t108 fun t109 =>
      Ld t109 Sl.val fun t111 =>
      btree_node_string_api_Record_mend.s1 Q t11 i1 t92 (decide ((2 : Int) < (t111.n : Int))))
      (btree_node_string_api_Record_mend.s1 Q t11 i1 t92 false))
theorem btree_node_string_api_Record_mend_ok (n0 : (Option Addr)) (i1 : Int) (Q : K) (w : World) (h : btree_node_string_api_Record_mend n0 i1 Q w) : btree_node_string_api_Record_mend.call n0 i1 Q w := by
  have hD15 : DH 15 2 [14, 17] (.s [0, 1, 2, 3, 5, 6, 7, 9, 10, 4, 8, 11, 12] (.a [(13, 1, .a [(14, 0, .s [15, 16] (.a [(17, 0, .e)]))])])) := by intros; exact ⟨⟩
  have hD12 : DH 12 1 [14] (.s [0, 1, 2, 4, 5, 6, 7, 8, 10, 3, 9, 11, 12, 13] (.a [(14, 0, .e)])) := by intros; exact ⟨⟩
  have hD11 : DH 11 2 [14, 17] (.s [0, 1, 2, 3, 5, 6, 7, 9, 10, 4, 8, 11, 12] (.a [(13, 1, .a [(14, 0, .s [15, 16] (.a [(17, 0, .e)]))])])) := by intros; exact ⟨⟩
  have hD23 : DH 23 2 [12, 15] (.s [0, 1, 2, 3, 5, 6, 7, 4, 8, 9, 10] (.a [(11, 1, .a [(12, 0, .s [13, 14] (.a [(15, 0, .e)]))])])) := by intros; exact ⟨⟩
  have hD20 : DH 20 1 [12] (.s [0, 1, 2, 4, 5, 6, 7, 3, 8, 9, 10, 11] (.a [(12, 0, .e)])) := by intros; exact ⟨⟩
  have hD19 : DH 19 2 [13, 16] (.s [0, 1, 2, 3, 5, 6, 7, 9, 4, 8, 10, 11] (.a [(12, 1, .a [(13, 0, .s [14, 15] (.a [(16, 0, .e)]))])])) := by intros; exact ⟨⟩
  have hD4 : DH 4 1 [9, 12] (.s [0, 1, 2, 3, 5, 6, 7, 4, 8] (.a [(9, 0, .s [10, 11] (.a [(12, 0, .e)]))])) := by intros; exact ⟨⟩
  have hD3 : DH 3 2 [19, 22] (.s [0, 1, 2, 3, 5, 6, 7, 9, 10, 15, 16, 17, 4, 8, 11, 12, 18] (.a [(13, 1, .a [(14, 1, .a [(19, 0, .s [20, 21] (.a [(22, 0, .e)]))])])])) := by intros; exact ⟨⟩
  have hJ18 : JH 18 fun D => ∃ (n0_2 : Addr) (i1_2 : Int) (kid4_2 : Addr), D [(0, (.pointer (some n0_2))), (1, (.int .i64 i1_2)), (4, (.pointer (some kid4_2)))] (fun C => ∀ (t202_2 : Bool), C [(0, (.pointer (some n0_2))), (1, (.int .i64 i1_2)), (4, (.pointer (some kid4_2))), (202, (.bool t202_2))] (btree_node_string_api_Record_mend.s2 Q n0_2 i1_2 kid4_2 t202_2)) := by intros; exact ⟨fun _ ⟨_, _, _, h⟩ => ⟨_, _, h⟩⟩
  have hJ9 : JH 9 fun D => ∃ (n0_1 : Addr) (i1_1 : Int) (kid4_1 : Addr), D [(0, (.pointer (some n0_1))), (1, (.int .i64 i1_1)), (4, (.pointer (some kid4_1)))] (fun C => ∀ (t97_1 : Bool), C [(0, (.pointer (some n0_1))), (1, (.int .i64 i1_1)), (4, (.pointer (some kid4_1))), (97, (.bool t97_1))] (btree_node_string_api_Record_mend.s1 Q n0_1 i1_1 kid4_1 t97_1)) := by intros; exact ⟨fun _ ⟨_, _, _, h⟩ => ⟨_, _, h⟩⟩
  exact g_walk 299 h Tryz.func156
end Go.Proofs.YtfjjocopmknhgaaGreat
/- Plain forms of functions, and that their code comes to them (package lib_btree). -/
namespace Go.Proofs.YtfjjocopmknhgaaGreat
open Go Go.Sep
set_option linter.unusedVariables false
set_option linter.unusedSimpArgs false
set_option maxRecDepth 100000
set_option maxHeartbeats 4000000
attribute [local irreducible] G Gp Cx Tx Ex Sx Dx Ox Ax Lx Rx Fx Bx Bj Al Do Ld LdN St StN New CallF Ar DoU Rd Rd2 Pu Cd Ite Fv CallV CallY Ans0 Ans1 Ans2 Ans3 Ans4 Ans5 Ext Dead Dr WithS Sv LdS LdNS RdS Rd2S Nn Idx IdxA IdxS Fld Bld Slc SlcS Cat All LoopK RangeF RangeJ TakeD
namespace F_IRLibBtree
instance at_181 : AT Tryz.prog 181 5 := ⟨by kernel_rfl⟩
instance cb_172 : CB Tryz.prog 172 := ⟨by kernel_rfl⟩
instance cb_174 : CB Tryz.prog 174 := ⟨by kernel_rfl⟩
instance cb_177 : CB Tryz.prog 177 := ⟨by kernel_rfl⟩
instance cb_178 : CB Tryz.prog 178 := ⟨by kernel_rfl⟩
instance cb_179 : CB Tryz.prog 179 := ⟨by kernel_rfl⟩
instance cb_180 : CB Tryz.prog 180 := ⟨by kernel_rfl⟩
instance ct_175 : CT Tryz.prog 175 := ⟨by kernel_rfl⟩
instance ext_171 : EXT Tryz.prog 171 (Extern.SlicesOverlaps.overlaps #[182, 182] #[4]) := ext_of Tryz.func171 (by kernel_rfl) (by kernel_rfl) (by kernel_rfl) (by kernel_rfl)
instance ext_173 : EXT Tryz.prog 173 (Extern.SlicesOverlaps.overlaps #[183, 183] #[4]) := ext_of Tryz.func173 (by kernel_rfl) (by kernel_rfl) (by kernel_rfl) (by kernel_rfl)
instance in_210 : INT Tryz.prog 210 .u64 := ⟨by kernel_rfl⟩
instance in_3 : INT Tryz.prog 3 .i64 := ⟨by kernel_rfl⟩
instance mx : MX Tryz.prog := ⟨mixed⟩
instance sl_182 : SLT Tryz.prog 182 181 5 := ⟨by kernel_rfl⟩
instance sl_183 : SLT Tryz.prog 183 175 1 := ⟨by kernel_rfl⟩
instance sz_175 : SZ Tryz.prog 175 1 := ⟨by kernel_rfl⟩
instance sz_181 : SZ Tryz.prog 181 5 := ⟨by kernel_rfl⟩
instance un_182 : UN Tryz.prog 182 (.slice 181) := ⟨Tryz.underlying182⟩
instance un_183 : UN Tryz.prog 183 (.slice 175) := ⟨Tryz.underlying183⟩
instance zt_175 : ZT Tryz.prog 175 (.pointer none) := ⟨Tryz.t175, by kernel_rfl, by kernel_rfl⟩
instance zt_181 : ZT Tryz.prog 181 (.agg #[(.string ⟨#[]⟩), (.bool false), (Sl.val ⟨none, 0, 0⟩), (.int .i64 0), (.int .u64 0)]) := ⟨Tryz.t181, by kernel_rfl, by kernel_rfl⟩
end F_IRLibBtree
def slices_BinarySearchFunc_s_btree_item_string_api_Record_btree_item_string_api_Record_string.s2 (Q : Int → Bool → K) (X1 : Int → Int → K) (t6_2 : Int) (t7_2 : Bool) : K :=
  Q t6_2 t7_2
def slices_BinarySearchFunc_s_btree_item_string_api_Record_btree_item_string_api_Record_string.b1 (Q : Int → Bool → K)  (X1 : Int → Int → K) (x0_1 : Sl) (target1_1 : ByteArray) (cmp2_1 : Value) (n8_1 : Int) (i9_1 : Int) (j10_1 : Int) : K :=
  Ite (decide (i9_1 < j10_1))
    (Ar (IntKind.wrap .i64 (i9_1 + j10_1)) fun t20 =>
    Ar (IntKind.wrap .u64 t20) fun t21 =>
    Cd (0 ≤ (1 : Int)) <|
    Ar (shrOf .u64 t21 1) fun t22 =>
    Ar (IntKind.wrap .i64 t22) fun t23 =>
    Idx x0_1 t23 5 fun t27 =>
    LdN t27 5 fun t28 =>
    CallV Tryz.prog cmp2_1 [(.agg t28), (.string target1_1)] <| Ans1 (fun (t30 : Int) => (Value.int .i64) t30) fun t30 =>
    Ite (decide (t30 < 0))
      (Ar (IntKind.wrap .i64 (t23 + 1)) fun t33 =>
      X1 t33 j10_1)
      (X1 i9_1 t23))
    (Ite (decide (i9_1 < n8_1))
      (Idx x0_1 i9_1 5 fun t43 =>
      LdN t43 5 fun t44 =>
      CallV Tryz.prog cmp2_1 [(.agg t44), (.string target1_1)] <| Ans1 (fun (t46 : Int) => (Value.int .i64) t46) fun t46 =>
      slices_BinarySearchFunc_s_btree_item_string_api_Record_btree_item_string_api_Record_string.s2 Q X1 i9_1 (decide (t46 = 0)))
      (slices_BinarySearchFunc_s_btree_item_string_api_Record_btree_item_string_api_Record_string.s2 Q X1 i9_1 false))
def slices_BinarySearchFunc_s_btree_item_string_api_Record_btree_item_string_api_Record_string (x0 : Sl) (target1 : ByteArray) (cmp2 : Value) (Q : Int → Bool → K) : K :=
  LoopK (α := Int × Int) (fun X x => slices_BinarySearchFunc_s_btree_item_string_api_Record_btree_item_string_api_Record_string.b1 Q (fun i9_1 j10_1 => X (i9_1, j10_1)) x0 target1 cmp2 (x0.n : Int) x.1 x.2) (0, (x0.n : Int))
theorem slices_BinarySearchFunc_s_btree_item_string_api_Record_btree_item_string_api_Record_string_ok (x0 : Sl) (target1 : ByteArray) (cmp2 : Value) (Q : Int → Bool → K) (w : World) (h : slices_BinarySearchFunc_s_btree_item_string_api_Record_btree_item_string_api_Record_string x0 target1 cmp2 Q w) : slices_BinarySearchFunc_s_btree_item_string_api_Record_btree_item_string_api_Record_string.call x0 target1 cmp2 Q w := by
  have hJ1000008 : ∀ (X1 : (Int × Int) → K), XH 3 X1 → JH 1000008 fun D => D [] (fun C => ∀ (t6_2 : Int) (t7_2 : Bool), C [(6, (.int .i64 t6_2)), (7, (.bool t7_2))] (slices_BinarySearchFunc_s_btree_item_string_api_Record_btree_item_string_api_Record_string.s2 Q (fun i9_1 j10_1 => X1 (i9_1, j10_1)) t6_2 t7_2)) := by intros; exact ⟨fun _ h => ⟨_, _, h⟩⟩
  have hL3 : ∀ (x0_1 : Sl) (target1_1 : ByteArray) (cmp2_1 : Value) (n8_1 : Int), LH 3 (fun x : Int × Int => [(0, (Sl.val x0_1)), (1, (.string target1_1)), (2, cmp2_1), (8, (.int .i64 n8_1)), (9, (.int .i64 x.1)), (10, (.int .i64 x.2))]) (fun X x => slices_BinarySearchFunc_s_btree_item_string_api_Record_btree_item_string_api_Record_string.b1 Q (fun i9_1 j10_1 => X (i9_1, j10_1)) x0_1 target1_1 cmp2_1 n8_1 x.1 x.2) := by intros; exact ⟨⟩
  exact g_walk 49 h Tryz.func121
def slices_Delete_s_btree_item_string_api_Record_btree_item_string_api_Record (s0 : Sl) (i1 : Int) (j2 : Int) (Q : Sl → K) : K :=
  Slc s0 i1 j2 (s0.n : Int) 5 fun t13 =>
  Ite (decide (i1 = j2))
    (Q s0)
    (Dr <|
    Slc s0 0 i1 (s0.c : Int) 5 fun t22 =>
    Slc s0 j2 (s0.n : Int) (s0.c : Int) 5 fun t25 =>
    Do Tryz.prog (Builtin.append_ #[182, 182] 182 #[(Sl.val t22), (Sl.val t25)]) Sl.val fun t26 =>
    Slc t26 (t26.n : Int) (s0.n : Int) (t26.c : Int) 5 fun t31 =>
    Do Tryz.prog (Builtin.clear_ #[182] 0 #[(Sl.val t31)]) id fun _ =>
    Q t26)
theorem slices_Delete_s_btree_item_string_api_Record_btree_item_string_api_Record_ok (s0 : Sl) (i1 : Int) (j2 : Int) (Q : Sl → K) (w : World) (h : slices_Delete_s_btree_item_string_api_Record_btree_item_string_api_Record s0 i1 j2 Q w) : slices_Delete_s_btree_item_string_api_Record_btree_item_string_api_Record.call s0 i1 j2 Q w := by
  have hD5 : DH 5 0 [] (.s [0, 1, 2, 3, 4, 5] (.a [(6, 0, .s [7] .e)])) := by intros; exact ⟨⟩
  exact g_walk 33 h Tryz.func154
def slices_Insert_s_btree_item_string_api_Record_btree_item_string_api_Record (s0 : Sl) (i1 : Int) (v2 : Sl) (Q : Sl → K) : K :=
  Slc s0 i1 (s0.n : Int) (s0.c : Int) 5 fun t12 =>
  Ite (decide ((v2.n : Int) = 0))
    (Q s0)
    (Ite (decide (i1 = (s0.n : Int)))
      (Do Tryz.prog (Builtin.append_ #[182, 182] 182 #[(Sl.val s0), (Sl.val v2)]) Sl.val fun t25 =>
      Q t25)
      (Ar (IntKind.wrap .i64 ((s0.n : Int) + (v2.n : Int))) fun t28 =>
      Do Tryz.prog (Builtin.cap_ #[182] 3 #[(Sl.val s0)]) (Value.int .i64) fun t30 =>
      Ite (decide (t30 < t28))
        (Slc s0 0 i1 (s0.c : Int) 5 fun t34 =>
        Ar (IntKind.wrap .i64 ((s0.n : Int) + (v2.n : Int))) fun t37 =>
        Ar (IntKind.wrap .i64 (t37 - i1)) fun t39 =>
        Do Tryz.prog (Builtin.append_ #[182, 3] 182 #[(Sl.val t34), (.int .i64 t39)]) Sl.val fun t40 =>
        Slc t40 i1 (t40.n : Int) (t40.c : Int) 5 fun t43 =>
        Do Tryz.prog (Builtin.copy_ #[182, 182] 3 #[(Sl.val t43), (Sl.val v2)]) (Value.int .i64) fun t45 =>
        Dr <|
        Ar (IntKind.wrap .i64 (i1 + (v2.n : Int))) fun t49 =>
        Slc t40 t49 (t40.n : Int) (t40.c : Int) 5 fun t50 =>
        Slc s0 i1 (s0.n : Int) (s0.c : Int) 5 fun t53 =>
        Do Tryz.prog (Builtin.copy_ #[182, 182] 3 #[(Sl.val t50), (Sl.val t53)]) (Value.int .i64) fun t54 =>
        Q t40)
        (Ar (IntKind.wrap .i64 ((s0.n : Int) + (v2.n : Int))) fun t59 =>
        Slc s0 0 t59 (s0.c : Int) 5 fun t60 =>
        Ar (IntKind.wrap .i64 (i1 + (v2.n : Int))) fun t65 =>
        Slc t60 t65 (t60.n : Int) (t60.c : Int) 5 fun t66 =>
        Rd Tryz.prog (Extern.SlicesOverlaps.overlaps #[182, 182] #[4] [(Sl.val v2), (Sl.val t66)].toArray) Value.bool fun t67 =>
        Ite (!t67)
          (Dr <|
          Ar (IntKind.wrap .i64 (i1 + (v2.n : Int))) fun t72 =>
          Slc t60 t72 (t60.n : Int) (t60.c : Int) 5 fun t73 =>
          Slc t60 i1 (t60.n : Int) (t60.c : Int) 5 fun t76 =>
          Do Tryz.prog (Builtin.copy_ #[182, 182] 3 #[(Sl.val t73), (Sl.val t76)]) (Value.int .i64) fun t77 =>
          Slc t60 i1 (t60.n : Int) (t60.c : Int) 5 fun t80 =>
          Do Tryz.prog (Builtin.copy_ #[182, 182] 3 #[(Sl.val t80), (Sl.val v2)]) (Value.int .i64) fun t82 =>
          Q t60)
          (Slc t60 (s0.n : Int) (t60.n : Int) (t60.c : Int) 5 fun t86 =>
          Do Tryz.prog (Builtin.copy_ #[182, 182] 3 #[(Sl.val t86), (Sl.val v2)]) (Value.int .i64) fun t88 =>
          Slc t60 i1 (t60.n : Int) (t60.c : Int) 5 fun t91 =>
          slices_rotateRight_btree_item_string_api_Record.call t91 (v2.n : Int) <|
          Q t60))))
theorem slices_Insert_s_btree_item_string_api_Record_btree_item_string_api_Record_ok (s0 : Sl) (i1 : Int) (v2 : Sl) (Q : Sl → K) (w : World) (h : slices_Insert_s_btree_item_string_api_Record_btree_item_string_api_Record s0 i1 v2 Q w) : slices_Insert_s_btree_item_string_api_Record_btree_item_string_api_Record.call s0 i1 v2 Q w := by
  have hD11 : DH 11 0 [] (.s [0, 1, 2, 3, 4, 5, 6, 7] (.a [(8, 0, .e)])) := by intros; exact ⟨⟩
  have hD15 : DH 15 0 [] (.s [0, 1, 2, 3, 4, 5, 6, 7] (.a [(8, 0, .e)])) := by intros; exact ⟨⟩
  exact g_walk 95 h Tryz.func157
def slices_Insert_s_btree_node_string_api_Record_btree_node_string_api_Record (s0 : Sl) (i1 : Int) (v2 : Sl) (Q : Sl → K) : K :=
  Slc s0 i1 (s0.n : Int) (s0.c : Int) 1 fun t12 =>
  Ite (decide ((v2.n : Int) = 0))
    (Q s0)
    (Ite (decide (i1 = (s0.n : Int)))
      (Do Tryz.prog (Builtin.append_ #[183, 183] 183 #[(Sl.val s0), (Sl.val v2)]) Sl.val fun t25 =>
      Q t25)
      (Ar (IntKind.wrap .i64 ((s0.n : Int) + (v2.n : Int))) fun t28 =>
      Do Tryz.prog (Builtin.cap_ #[183] 3 #[(Sl.val s0)]) (Value.int .i64) fun t30 =>
      Ite (decide (t30 < t28))
        (Slc s0 0 i1 (s0.c : Int) 1 fun t34 =>
        Ar (IntKind.wrap .i64 ((s0.n : Int) + (v2.n : Int))) fun t37 =>
        Ar (IntKind.wrap .i64 (t37 - i1)) fun t39 =>
        Do Tryz.prog (Builtin.append_ #[183, 3] 183 #[(Sl.val t34), (.int .i64 t39)]) Sl.val fun t40 =>
        Slc t40 i1 (t40.n : Int) (t40.c : Int) 1 fun t43 =>
        Do Tryz.prog (Builtin.copy_ #[183, 183] 3 #[(Sl.val t43), (Sl.val v2)]) (Value.int .i64) fun t45 =>
        Dr <|
        Ar (IntKind.wrap .i64 (i1 + (v2.n : Int))) fun t49 =>
        Slc t40 t49 (t40.n : Int) (t40.c : Int) 1 fun t50 =>
        Slc s0 i1 (s0.n : Int) (s0.c : Int) 1 fun t53 =>
        Do Tryz.prog (Builtin.copy_ #[183, 183] 3 #[(Sl.val t50), (Sl.val t53)]) (Value.int .i64) fun t54 =>
        Q t40)
        (Ar (IntKind.wrap .i64 ((s0.n : Int) + (v2.n : Int))) fun t59 =>
        Slc s0 0 t59 (s0.c : Int) 1 fun t60 =>
        Ar (IntKind.wrap .i64 (i1 + (v2.n : Int))) fun t65 =>
        Slc t60 t65 (t60.n : Int) (t60.c : Int) 1 fun t66 =>
        Rd Tryz.prog (Extern.SlicesOverlaps.overlaps #[183, 183] #[4] [(Sl.val v2), (Sl.val t66)].toArray) Value.bool fun t67 =>
        Ite (!t67)
          (Dr <|
          Ar (IntKind.wrap .i64 (i1 + (v2.n : Int))) fun t72 =>
          Slc t60 t72 (t60.n : Int) (t60.c : Int) 1 fun t73 =>
          Slc t60 i1 (t60.n : Int) (t60.c : Int) 1 fun t76 =>
          Do Tryz.prog (Builtin.copy_ #[183, 183] 3 #[(Sl.val t73), (Sl.val t76)]) (Value.int .i64) fun t77 =>
          Slc t60 i1 (t60.n : Int) (t60.c : Int) 1 fun t80 =>
          Do Tryz.prog (Builtin.copy_ #[183, 183] 3 #[(Sl.val t80), (Sl.val v2)]) (Value.int .i64) fun t82 =>
          Q t60)
          (Slc t60 (s0.n : Int) (t60.n : Int) (t60.c : Int) 1 fun t86 =>
          Do Tryz.prog (Builtin.copy_ #[183, 183] 3 #[(Sl.val t86), (Sl.val v2)]) (Value.int .i64) fun t88 =>
          Slc t60 i1 (t60.n : Int) (t60.c : Int) 1 fun t91 =>
          slices_rotateRight_btree_node_string_api_Record.call t91 (v2.n : Int) <|
          Q t60))))
theorem slices_Insert_s_btree_node_string_api_Record_btree_node_string_api_Record_ok (s0 : Sl) (i1 : Int) (v2 : Sl) (Q : Sl → K) (w : World) (h : slices_Insert_s_btree_node_string_api_Record_btree_node_string_api_Record s0 i1 v2 Q w) : slices_Insert_s_btree_node_string_api_Record_btree_node_string_api_Record.call s0 i1 v2 Q w := by
  have hD11 : DH 11 0 [] (.s [0, 1, 2, 3, 4, 5, 6, 7] (.a [(8, 0, .e)])) := by intros; exact ⟨⟩
  have hD15 : DH 15 0 [] (.s [0, 1, 2, 3, 4, 5, 6, 7] (.a [(8, 0, .e)])) := by intros; exact ⟨⟩
  exact g_walk 95 h Tryz.func158
def slices_Clone_s_btree_item_string_api_Record_btree_item_string_api_Record (s0 : Sl) (Q : Sl → K) : K :=
  Ite ((s0).a.isNone)
    (Q (Sl.mk none 0 0))
    (New 181 #[] fun t5 =>
    Do Tryz.prog (Builtin.append_ #[182, 182] 182 #[(Sl.val (Sl.mk (some t5) 0 0)), (Sl.val s0)]) Sl.val fun t7 =>
    Q t7)
theorem slices_Clone_s_btree_item_string_api_Record_btree_item_string_api_Record_ok (s0 : Sl) (Q : Sl → K) (w : World) (h : slices_Clone_s_btree_item_string_api_Record_btree_item_string_api_Record s0 Q w) : slices_Clone_s_btree_item_string_api_Record_btree_item_string_api_Record.call s0 Q w := by
  exact g_walk 8 h Tryz.func159
def slices_Clone_s_btree_node_string_api_Record_btree_node_string_api_Record (s0 : Sl) (Q : Sl → K) : K :=
  Ite ((s0).a.isNone)
    (Q (Sl.mk none 0 0))
    (New 175 #[] fun t5 =>
    Do Tryz.prog (Builtin.append_ #[183, 183] 183 #[(Sl.val (Sl.mk (some t5) 0 0)), (Sl.val s0)]) Sl.val fun t7 =>
    Q t7)
theorem slices_Clone_s_btree_node_string_api_Record_btree_node_string_api_Record_ok (s0 : Sl) (Q : Sl → K) (w : World) (h : slices_Clone_s_btree_node_string_api_Record_btree_node_string_api_Record s0 Q w) : slices_Clone_s_btree_node_string_api_Record_btree_node_string_api_Record.call s0 Q w := by
  exact g_walk 8 h Tryz.func160
def slices_Delete_s_btree_node_string_api_Record_btree_node_string_api_Record (s0 : Sl) (i1 : Int) (j2 : Int) (Q : Sl → K) : K :=
  Slc s0 i1 j2 (s0.n : Int) 1 fun t13 =>
  Ite (decide (i1 = j2))
    (Q s0)
    (Dr <|
    Slc s0 0 i1 (s0.c : Int) 1 fun t22 =>
    Slc s0 j2 (s0.n : Int) (s0.c : Int) 1 fun t25 =>
    Do Tryz.prog (Builtin.append_ #[183, 183] 183 #[(Sl.val t22), (Sl.val t25)]) Sl.val fun t26 =>
    Slc t26 (t26.n : Int) (s0.n : Int) (t26.c : Int) 1 fun t31 =>
    Do Tryz.prog (Builtin.clear_ #[183] 0 #[(Sl.val t31)]) id fun _ =>
    Q t26)
theorem slices_Delete_s_btree_node_string_api_Record_btree_node_string_api_Record_ok (s0 : Sl) (i1 : Int) (j2 : Int) (Q : Sl → K) (w : World) (h : slices_Delete_s_btree_node_string_api_Record_btree_node_string_api_Record s0 i1 j2 Q w) : slices_Delete_s_btree_node_string_api_Record_btree_node_string_api_Record.call s0 i1 j2 Q w := by
  have hD5 : DH 5 0 [] (.s [0, 1, 2, 3, 4, 5] (.a [(6, 0, .s [7] .e)])) := by intros; exact ⟨⟩
  exact g_walk 33 h Tryz.func170
def slices_rotateRight_btree_item_string_api_Record (s0 : Sl) (r1 : Int) (Q : K) : K :=
  Ar (IntKind.wrap .i64 ((s0.n : Int) - r1)) fun t8 =>
  slices_rotateLeft_btree_item_string_api_Record.call s0 t8 <|
  Q
theorem slices_rotateRight_btree_item_string_api_Record_ok (s0 : Sl) (r1 : Int) (Q : K) (w : World) (h : slices_rotateRight_btree_item_string_api_Record s0 r1 Q w) : slices_rotateRight_btree_item_string_api_Record.call s0 r1 Q w := by
  exact g_walk 10 h Tryz.func172
def slices_rotateRight_btree_node_string_api_Record (s0 : Sl) (r1 : Int) (Q : K) : K :=
  Ar (IntKind.wrap .i64 ((s0.n : Int) - r1)) fun t8 =>
  slices_rotateLeft_btree_node_string_api_Record.call s0 t8 <|
  Q
theorem slices_rotateRight_btree_node_string_api_Record_ok (s0 : Sl) (r1 : Int) (Q : K) (w : World) (h : slices_rotateRight_btree_node_string_api_Record s0 r1 Q w) : slices_rotateRight_btree_node_string_api_Record.call s0 r1 Q w := by
  exact g_walk 10 h Tryz.func174
def slices_rotateLeft_btree_item_string_api_Record (s0 : Sl) (r1 : Int) (Q : K) : K :=
  Slc s0 0 r1 (s0.c : Int) 5 fun t6 =>
  slices_Reverse_s_btree_item_string_api_Record_btree_item_string_api_Record.call t6 <|
  Slc s0 r1 (s0.n : Int) (s0.c : Int) 5 fun t10 =>
  slices_Reverse_s_btree_item_string_api_Record_btree_item_string_api_Record.call t10 <|
  slices_Reverse_s_btree_item_string_api_Record_btree_item_string_api_Record.call s0 <|
  Q
theorem slices_rotateLeft_btree_item_string_api_Record_ok (s0 : Sl) (r1 : Int) (Q : K) (w : World) (h : slices_rotateLeft_btree_item_string_api_Record s0 r1 Q w) : slices_rotateLeft_btree_item_string_api_Record.call s0 r1 Q w := by
  exact g_walk 14 h Tryz.func177
def slices_rotateLeft_btree_node_string_api_Record (s0 : Sl) (r1 : Int) (Q : K) : K :=
  Slc s0 0 r1 (s0.c : Int) 1 fun t6 =>
  slices_Reverse_s_btree_node_string_api_Record_btree_node_string_api_Record.call t6 <|
  Slc s0 r1 (s0.n : Int) (s0.c : Int) 1 fun t10 =>
  slices_Reverse_s_btree_node_string_api_Record_btree_node_string_api_Record.call t10 <|
  slices_Reverse_s_btree_node_string_api_Record_btree_node_string_api_Record.call s0 <|
  Q
theorem slices_rotateLeft_btree_node_string_api_Record_ok (s0 : Sl) (r1 : Int) (Q : K) (w : World) (h : slices_rotateLeft_btree_node_string_api_Record s0 r1 Q w) : slices_rotateLeft_btree_node_string_api_Record.call s0 r1 Q w := by
  exact g_walk 14 h Tryz.func178
def slices_Reverse_s_btree_item_string_api_Record_btree_item_string_api_Record.b1 (Q : K)  (X1 : Int → Int → K) (s0_1 : Sl) (i2_1 : Int) (j3_1 : Int) : K :=
  Ite (decide (i2_1 < j3_1))
    (Dr <|
    Idx s0_1 j3_1 5 fun t20 =>
    Idx s0_1 i2_1 5 fun t24 =>
    LdN t20 5 fun t21 =>
    LdN t24 5 fun t25 =>
    Idx s0_1 i2_1 5 fun t26 =>
    StN t26 5 t21 <|
    Idx s0_1 j3_1 5 fun t27 =>
    StN t27 5 t25 <|
    Ar (IntKind.wrap .i64 (i2_1 + 1)) fun t11 =>
    Ar (IntKind.wrap .i64 (j3_1 - 1)) fun t13 =>
    X1 t11 t13)
    (Q)
def slices_Reverse_s_btree_item_string_api_Record_btree_item_string_api_Record (s0 : Sl) (Q : K) : K :=
  Ar (IntKind.wrap .i64 ((s0.n : Int) - 1)) fun t6 =>
  LoopK (α := Int × Int) (fun X x => slices_Reverse_s_btree_item_string_api_Record_btree_item_string_api_Record.b1 Q (fun i2_1 j3_1 => X (i2_1, j3_1)) s0 x.1 x.2) (0, t6)
theorem slices_Reverse_s_btree_item_string_api_Record_btree_item_string_api_Record_ok (s0 : Sl) (Q : K) (w : World) (h : slices_Reverse_s_btree_item_string_api_Record_btree_item_string_api_Record s0 Q w) : slices_Reverse_s_btree_item_string_api_Record_btree_item_string_api_Record.call s0 Q w := by
  have hD3 : DH 3 1 [13, 15] (.s [0, 1, 2, 3, 4, 5, 6, 8, 9, 10, 7, 11, 12] (.a [(13, 0, .s [14] (.a [(15, 0, .e)]))])) := by intros; exact ⟨⟩
  have hL1 : ∀ (s0_1 : Sl), LH 1 (fun x : Int × Int => [(0, (Sl.val s0_1)), (2, (.int .i64 x.1)), (3, (.int .i64 x.2))]) (fun X x => slices_Reverse_s_btree_item_string_api_Record_btree_item_string_api_Record.b1 Q (fun i2_1 j3_1 => X (i2_1, j3_1)) s0_1 x.1 x.2) := by intros; exact ⟨⟩
  exact g_walk 28 h Tryz.func179
def slices_Reverse_s_btree_node_string_api_Record_btree_node_string_api_Record.b1 (Q : K)  (X1 : Int → Int → K) (s0_1 : Sl) (i2_1 : Int) (j3_1 : Int) : K :=
  Ite (decide (i2_1 < j3_1))
    (Dr <|
    Idx s0_1 j3_1 1 fun t20 =>
    Idx s0_1 i2_1 1 fun t24 =>
    Ld t20 Value.pointer fun t21 =>
    Ld t24 Value.pointer fun t25 =>
    Idx s0_1 i2_1 1 fun t26 =>
    St t26 (.pointer t21) <|
    Idx s0_1 j3_1 1 fun t27 =>
    St t27 (.pointer t25) <|
    Ar (IntKind.wrap .i64 (i2_1 + 1)) fun t11 =>
    Ar (IntKind.wrap .i64 (j3_1 - 1)) fun t13 =>
    X1 t11 t13)
    (Q)
def slices_Reverse_s_btree_node_string_api_Record_btree_node_string_api_Record (s0 : Sl) (Q : K) : K :=
  Ar (IntKind.wrap .i64 ((s0.n : Int) - 1)) fun t6 =>
  LoopK (α := Int × Int) (fun X x => slices_Reverse_s_btree_node_string_api_Record_btree_node_string_api_Record.b1 Q (fun i2_1 j3_1 => X (i2_1, j3_1)) s0 x.1 x.2) (0, t6)
theorem slices_Reverse_s_btree_node_string_api_Record_btree_node_string_api_Record_ok (s0 : Sl) (Q : K) (w : World) (h : slices_Reverse_s_btree_node_string_api_Record_btree_node_string_api_Record s0 Q w) : slices_Reverse_s_btree_node_string_api_Record_btree_node_string_api_Record.call s0 Q w := by
  have hD3 : DH 3 1 [13, 15] (.s [0, 1, 2, 3, 4, 5, 6, 8, 9, 10, 7, 11, 12] (.a [(13, 0, .s [14] (.a [(15, 0, .e)]))])) := by intros; exact ⟨⟩
  have hL1 : ∀ (s0_1 : Sl), LH 1 (fun x : Int × Int => [(0, (Sl.val s0_1)), (2, (.int .i64 x.1)), (3, (.int .i64 x.2))]) (fun X x => slices_Reverse_s_btree_node_string_api_Record_btree_node_string_api_Record.b1 Q (fun i2_1 j3_1 => X (i2_1, j3_1)) s0_1 x.1 x.2) := by intros; exact ⟨⟩
  exact g_walk 28 h Tryz.func180
end Go.Proofs.YtfjjocopmknhgaaGreat
/- Plain forms of functions, and that their code comes to them (package lib_cmp). -/
namespace Go.Proofs.YtfjjocopmknhgaaGreat
open Go Go.Sep
set_option linter.unusedVariables false
set_option linter.unusedSimpArgs false
set_option maxRecDepth 100000
set_option maxHeartbeats 4000000
attribute [local irreducible] G Gp Cx Tx Ex Sx Dx Ox Ax Lx Rx Fx Bx Bj Al Do Ld LdN St StN New CallF Ar DoU Rd Rd2 Pu Cd Ite Fv CallV CallY Ans0 Ans1 Ans2 Ans3 Ans4 Ans5 Ext Dead Dr WithS Sv LdS LdNS RdS Rd2S Nn Idx IdxA IdxS Fld Bld Slc SlcS Cat All LoopK RangeF RangeJ TakeD
namespace F_IRLibCmp
instance cb_133 : CB Tryz.prog 133 := ⟨by kernel_rfl⟩
instance cb_166 : CB Tryz.prog 166 := ⟨by kernel_rfl⟩
instance mx : MX Tryz.prog := ⟨mixed⟩
end F_IRLibCmp
def cmp_Compare_string (x0 : ByteArray) (y1 : ByteArray) (Q : Int → K) : K :=
  cmp_isNaN_string.call x0 fun t8 =>
  cmp_isNaN_string.call y1 fun t10 =>
  Ite t8
    (Ite t10
      (Q 0)
      (Q (-1)))
    (Ite t10
      (Q 1)
      (Ite (Op.bytesLess x0.toList y1.toList)
        (Q (-1))
        (Ite (!(Op.bytesLess x0.toList y1.toList || x0.toList == y1.toList))
          (Q 1)
          (Q 0))))
theorem cmp_Compare_string_ok (x0 : ByteArray) (y1 : ByteArray) (Q : Int → K) (w : World) (h : cmp_Compare_string x0 y1 Q w) : cmp_Compare_string.call x0 y1 Q w := by
  exact g_walk 20 h Tryz.func123
def cmp_isNaN_string (x0 : ByteArray) (Q : Bool → K) : K :=
  Q (!(x0.toList == x0.toList))
theorem cmp_isNaN_string_ok (x0 : ByteArray) (Q : Bool → K) (w : World) (h : cmp_isNaN_string x0 Q w) : cmp_isNaN_string.call x0 Q w := by
  exact g_walk 6 h Tryz.func133
def cmp_Less_int.s1 (Q : Bool → K)  (t4_1 : Bool) : K :=
  Q t4_1
def cmp_Less_int (x0 : Int) (y1 : Int) (Q : Bool → K) : K :=
  cmp_isNaN_int.call x0 fun t6 =>
  Ite t6
    (cmp_isNaN_int.call y1 fun t9 =>
    Ite (!t9)
      (cmp_Less_int.s1 Q true)
      (cmp_Less_int.s1 Q (decide (x0 < y1))))
    (cmp_Less_int.s1 Q (decide (x0 < y1)))
theorem cmp_Less_int_ok (x0 : Int) (y1 : Int) (Q : Bool → K) (w : World) (h : cmp_Less_int x0 y1 Q w) : cmp_Less_int.call x0 y1 Q w := by
  have hJ1000001 : JH 1000001 fun D => D [] (fun C => ∀ (t4_1 : Bool), C [(4, (.bool t4_1))] (cmp_Less_int.s1 Q t4_1)) := by intros; exact ⟨fun _ h => ⟨_, _, h⟩⟩
  exact g_walk 17 h Tryz.func140
def cmp_Less_string.s1 (Q : Bool → K)  (t4_1 : Bool) : K :=
  Q t4_1
def cmp_Less_string (x0 : ByteArray) (y1 : ByteArray) (Q : Bool → K) : K :=
  cmp_isNaN_string.call x0 fun t6 =>
  Ite t6
    (cmp_isNaN_string.call y1 fun t9 =>
    Ite (!t9)
      (cmp_Less_string.s1 Q true)
      (cmp_Less_string.s1 Q (Op.bytesLess x0.toList y1.toList)))
    (cmp_Less_string.s1 Q (Op.bytesLess x0.toList y1.toList))
theorem cmp_Less_string_ok (x0 : ByteArray) (y1 : ByteArray) (Q : Bool → K) (w : World) (h : cmp_Less_string x0 y1 Q w) : cmp_Less_string.call x0 y1 Q w := by
  have hJ1000001 : JH 1000001 fun D => D [] (fun C => ∀ (t4_1 : Bool), C [(4, (.bool t4_1))] (cmp_Less_string.s1 Q t4_1)) := by intros; exact ⟨fun _ h => ⟨_, _, h⟩⟩
  exact g_walk 17 h Tryz.func151
def cmp_isNaN_int (x0 : Int) (Q : Bool → K) : K :=
  Q (decide (x0 ≠ x0))
theorem cmp_isNaN_int_ok (x0 : Int) (Q : Bool → K) (w : World) (h : cmp_isNaN_int x0 Q w) : cmp_isNaN_int.call x0 Q w := by
  exact g_walk 6 h Tryz.func166
end Go.Proofs.YtfjjocopmknhgaaGreat
/- The B-tree of records by strings is one of Bt's. -/
namespace Go.Proofs.YtfjjocopmknhgaaGreat
open Go Go.Sep Go.Sep.Bt
set_option linter.unusedSimpArgs false
set_option linter.unusedVariables false
set_option maxRecDepth 100000

noncomputable def btS : BtT ByteArray where
  P := Tryz.prog
  tI := ty_btree_item_string_api_Record
  tSI := ty_s_btree_item_string_api_Record
  tV := ty_api_Record
  tK := ty_p_btree_node_string_api_Record
  tSK := ty_s_p_btree_node_string_api_Record
  tN := ty_btree_node_string_api_Record
  tT := ty_btree_Tree_string_api_Record
  nv := 4
  kz := .string ⟨#[]⟩
  vz := [.bool false, Sl.val ⟨none, 0, 0⟩, .int .i64 0, .int .u64 0]
  kV := Value.string
  cv := .func (.func 122) #[] #[]
  bsC := slices_BinarySearchFunc_s_btree_item_string_api_Record_btree_item_string_api_Record_string.call
  nsearchC := btree_node_string_api_Record_search.call
  nputC := btree_node_string_api_Record_put.call
  insIC := slices_Insert_s_btree_item_string_api_Record_btree_item_string_api_Record.call
  insKC := slices_Insert_s_btree_node_string_api_Record_btree_node_string_api_Record.call
  cloneIC := slices_Clone_s_btree_item_string_api_Record_btree_item_string_api_Record.call
  cloneKC := slices_Clone_s_btree_node_string_api_Record_btree_node_string_api_Record.call

/-- How strings are compared. -/
def cmpS (a b : ByteArray) : Int := if a.toList < b.toList then -1 else if a.toList = b.toList then 0 else 1
theorem toList_inj {a b : ByteArray} (h : a.toList = b.toList) : a = b := by
  obtain ⟨x, rfl⟩ := bs_of a
  obtain ⟨y, rfl⟩ := bs_of b
  rw [bs_list, bs_list] at h
  rw [h]
theorem cmpS_neg {a b : ByteArray} : cmpS a b < 0 ↔ a.toList < b.toList := by
  unfold cmpS
  split
  · simp [*]
  · split <;> simp [*]
theorem cmpS_zero {a b : ByteArray} : cmpS a b = 0 ↔ a = b := by
  unfold cmpS
  split
  · rename_i h
    simp only [show ¬ ((-1 : Int) = 0) by omega, false_iff]
    rintro rfl; exact List.lt_irrefl _ h
  · split
    · rename_i h; simp [toList_inj h]
    · rename_i h
      simp only [show ¬ ((1 : Int) = 0) by omega, false_iff]
      rintro rfl; exact h rfl
theorem list_tri {x y : List UInt8} (h1 : ¬ x < y) (h2 : ¬ x = y) : y < x := by
  have h4 : y ≤ x := by rw [← List.not_lt]; exact h1
  rcases List.le_iff_lt_or_eq.1 h4 with h5 | h5
  · exact h5
  · exact absurd h5.symm h2
theorem cmpS_pos {a b : ByteArray} : 0 < cmpS a b ↔ b.toList < a.toList := by
  unfold cmpS
  split
  · rename_i h
    simp only [show ¬ (0 < (-1 : Int)) by omega, false_iff]
    exact fun h2 => List.lt_irrefl _ (List.lt_trans h h2)
  · split
    · rename_i h
      simp only [show ¬ (0 < (0 : Int)) by omega, false_iff]
      rw [h]; exact List.lt_irrefl _
    · rename_i h1 h2
      simp only [show 0 < (1 : Int) by omega, true_iff]
      exact list_tri h1 h2
theorem isNaN_spec {B : World} {Γ : List HProp} {x : ByteArray} {q : Bool → K} (h : HG B Γ (q false)) : HG B Γ (cmp_isNaN_string.call x q) := fun w hw => cmp_isNaN_string_ok _ _ _ (by unfold cmp_isNaN_string; simpa using h w hw)
theorem Compare_spec {B : World} {Γ : List HProp} {x y : ByteArray} {q : Int → K} (h : HG B Γ (q (cmpS x y))) : HG B Γ (cmp_Compare_string.call x y q) := fun w hw => by
  refine cmp_Compare_string_ok _ _ _ _ ?_
  refine hg hw ?_
  unfold cmp_Compare_string
  refine isNaN_spec (isNaN_spec ?_)
  refine s_f ?_ rfl
  refine s_f ?_ rfl
  rw [gt_dec, bytesLess_dec]
  refine s_ite (fun h1 => ?_) fun h1 => ?_
  · have e : cmpS x y = -1 := by unfold cmpS; rw [if_pos (by simpa using h1)]
    rw [e] at h; exact h
  refine s_ite (fun h2 => ?_) fun h2 => ?_
  · have h3 : y.toList < x.toList := by simpa using h2
    have e : cmpS x y = 1 := by
      unfold cmpS
      rw [if_neg (by simpa using h1), if_neg fun h4 => by rw [h4] at h3; exact List.lt_irrefl _ h3]
    rw [e] at h; exact h
  · have h3 : ¬ y.toList < x.toList := by simpa using h2
    have e : cmpS x y = 0 := by
      unfold cmpS
      rw [if_neg (by simpa using h1), if_pos (Classical.byContradiction fun h4 => h3 (list_tri (by simpa using h1) h4))]
    rw [e] at h; exact h
theorem btS_ok : BtOk btS cmpS where
  kf := fun _ => rfl
  kzf := rfl
  vz := ⟨rfl, rfl⟩
  TI := by kernel_rfl
  ZI := by kernel_rfl
  TK := by kernel_rfl
  ZK := by kernel_rfl
  tr := fun h1 h2 => cmpS_neg.2 (List.lt_trans (cmpS_neg.1 h1) (cmpS_neg.1 h2))
  eq := cmpS_zero
  sw := by intro a b; rw [cmpS_neg, cmpS_pos]
  cmp := fun a b vs q hl h => by
    refine s_callv ?_
    refine fun w hw => btree_node_string_api_Record_search_1_ok _ _ _ _ ?_
    refine hg hw ?_
    clear hw w
    unfold btree_node_string_api_Record_search_1
    refine s_new fun t => ?_
    refine s_ld (b := t) (x := a) ?_
    refine Compare_spec ?_
    exact s_end h
  bs := fun s k Q w h => slices_BinarySearchFunc_s_btree_item_string_api_Record_btree_item_string_api_Record_string_ok _ _ _ _ _ h
  search := fun n k Q w h => btree_node_string_api_Record_search_ok _ _ _ _ h
  put := fun n x Q w h => btree_node_string_api_Record_put_ok _ _ _ _ h
  insI := ⟨_, _, fun s i v Q w h => slices_Insert_s_btree_item_string_api_Record_btree_item_string_api_Record_ok _ _ _ _ _ h⟩
  insK := ⟨_, _, fun s i v Q w h => slices_Insert_s_btree_node_string_api_Record_btree_node_string_api_Record_ok _ _ _ _ _ h⟩
  cloneI := fun s Q w h => slices_Clone_s_btree_item_string_api_Record_btree_item_string_api_Record_ok _ _ _ h
  cloneK := fun s Q w h => slices_Clone_s_btree_node_string_api_Record_btree_node_string_api_Record_ok _ _ _ h

section
variable {B : World} {Γ : List HProp}
theorem btNew_spec {Q : Option Addr → K} (h : ∀ t, HG B (TreeR btS cmpS t [] :: Γ) (Q (some ⟨t, 0, none⟩))) : HG B Γ (btree_New_string_api_Record.call Q) := fun w hw =>
  btree_New_string_api_Record_ok _ _ (show tnew btS Q w from hg hw (tnew_spec h))
theorem btGet_spec {t : Nat} {L : List btS.It} {k : ByteArray} {Q : Array Value → Bool → K} (hfound : ∀ A v C, L = A ++ (k, v) :: C → HG B (TreeR btS cmpS t L :: Γ) (Q v.1.toArray true)) (hnot : (∀ A C, L = A ++ C → (∀ x ∈ A, cmpS x.1 k < 0) → (∀ x ∈ C, cmpS k x.1 < 0) → HG B (TreeR btS cmpS t L :: Γ) (Q btS.vz.toArray false))) :
    HG B (TreeR btS cmpS t L :: Γ) (btree_Tree_string_api_Record_Get.call (some ⟨t, 0, none⟩) k Q) := fun w hw =>
  btree_Tree_string_api_Record_Get_ok _ _ _ _ (show tget btS (some ⟨t, 0, none⟩) k Q w from hg hw (tget_spec btS_ok hfound hnot))
theorem btPut_spec {t : Nat} {L : List btS.It} {k : ByteArray} {v : Cel btS.nv} {Q : Array Value → Bool → K} (hL : L.length < 1000000000) (h : ∀ L' old had, PutR cmpS (btS.z0 btS_ok.vz) L k v L' old had → HG B (TreeR btS cmpS t L' :: Γ) (Q old.1.toArray had)) :
    HG B (TreeR btS cmpS t L :: Γ) (btree_Tree_string_api_Record_Put.call (some ⟨t, 0, none⟩) k v.1.toArray Q) := fun w hw =>
  btree_Tree_string_api_Record_Put_ok _ _ _ _ _ (show tput btS (some ⟨t, 0, none⟩) k v.1.toArray Q w from hg hw (tput_spec btS_ok hL h))
end
end Go.Proofs.YtfjjocopmknhgaaGreat
/- bytes.Clone gives the same bytes in memory of one's own. -/
namespace Go.Proofs.YtfjjocopmknhgaaGreat
open Go Go.Sep
set_option linter.unusedSimpArgs false
set_option linter.unusedVariables false
section
variable {B w : World} {Γ : List HProp}
theorem bytes_Clone_spec {b : Sl} {xs : List UInt8} {k : Sl → K} (h : Holds B Γ w) (hr : ∀ w, Holds B Γ w → RdB w b xs) (hl : xs.length ≤ 1000000000)
    (hk : ∀ s w, Holds B (Bytes ty_uint8 s xs :: Γ) w → s.a.isNone = b.a.isNone → k s w) : bytes_Clone.call b k w := by
  refine bytes_Clone_ok _ _ _ ?_
  unfold bytes_Clone
  refine r_ite (fun hb => ?_) (fun hb => ?_)
  · have hx : xs = [] := by
      have h1 := (hr w h).nil (by simpa using hb)
      have h2 := (hr w h).len
      rw [h1] at h2; simpa using h2
    subst hx
    exact hk _ _ (h.nilSl _ _) (by rw [hb]; rfl)
  · refine r_new h ?_
    clear h
    intro t w h
    try simp only [add_mk, Nat.zero_add, Nat.reduceAdd]
    have hn : b.n = xs.length := by have h2 := (hr w h.tail).len; simpa using h2.symm
    refine r_append (vs := []) (h.imp (blk_SlC rfl rfl)) (by kernel_rfl) (by kernel_rfl) (by' := 1) (by kernel_rfl) zero_ty_uint8 rfl (hr w h.tail) (byteV_flat _) (by simp only [hn]; omega) (by decide) fun s w h hs ha => ?_
    refine hk s w h ?_
    rw [hb]
    have := ha rfl
    cases hh : s.a <;> simp [hh] at this ⊢
end
end Go.Proofs.YtfjjocopmknhgaaGreat
/- Plain forms of functions, and that their code comes to them (package store). -/
namespace Go.Proofs.YtfjjocopmknhgaaGreat
open Go Go.Sep
set_option linter.unusedVariables false
set_option linter.unusedSimpArgs false
set_option maxRecDepth 100000
set_option maxHeartbeats 4000000
attribute [local irreducible] G Gp Cx Tx Ex Sx Dx Ox Ax Lx Rx Fx Bx Bj Al Do Ld LdN St StN New CallF Ar DoU Rd Rd2 Pu Cd Ite Fv CallV CallY Ans0 Ans1 Ans2 Ans3 Ans4 Ans5 Ext Dead Dr WithS Sv LdS LdNS RdS Rd2S Nn Idx IdxA IdxS Fld Bld Slc SlcS Cat All LoopK RangeF RangeJ TakeD
namespace F_IRStore
instance at_47 : AT Tryz.prog 47 4 := ⟨by kernel_rfl⟩
instance cb_117 : CB Tryz.prog 117 := ⟨by kernel_rfl⟩
instance cb_118 : CB Tryz.prog 118 := ⟨by kernel_rfl⟩
instance cb_14 : CB Tryz.prog 14 := ⟨by kernel_rfl⟩
instance cb_52 : CB Tryz.prog 52 := ⟨by kernel_rfl⟩
instance cb_53 : CB Tryz.prog 53 := ⟨by kernel_rfl⟩
instance cb_54 : CB Tryz.prog 54 := ⟨by kernel_rfl⟩
instance cb_63 : CB Tryz.prog 63 := ⟨by kernel_rfl⟩
instance cb_72 : CB Tryz.prog 72 := ⟨by kernel_rfl⟩
instance cb_87 : CB Tryz.prog 87 := ⟨by kernel_rfl⟩
instance ct_117 : CT Tryz.prog 117 := ⟨by kernel_rfl⟩
instance ct_3 : CT Tryz.prog 3 := ⟨by kernel_rfl⟩
instance ct_35 : CT Tryz.prog 35 := ⟨by kernel_rfl⟩
instance ct_4 : CT Tryz.prog 4 := ⟨by kernel_rfl⟩
instance ct_45 : CT Tryz.prog 45 := ⟨by kernel_rfl⟩
instance ct_60 : CT Tryz.prog 60 := ⟨by kernel_rfl⟩
instance ft_119_0 : FT Tryz.prog 119 0 0 1 := ⟨by kernel_rfl⟩
instance ft_119_1 : FT Tryz.prog 119 1 1 1 := ⟨by kernel_rfl⟩
instance ft_47_0 : FT Tryz.prog 47 0 0 1 := ⟨by kernel_rfl⟩
instance ft_47_1 : FT Tryz.prog 47 1 1 1 := ⟨by kernel_rfl⟩
instance ft_47_2 : FT Tryz.prog 47 2 2 1 := ⟨by kernel_rfl⟩
instance ft_47_3 : FT Tryz.prog 47 3 3 1 := ⟨by kernel_rfl⟩
instance in_3 : INT Tryz.prog 3 .i64 := ⟨by kernel_rfl⟩
instance in_5 : INT Tryz.prog 5 .u8 := ⟨by kernel_rfl⟩
instance mx : MX Tryz.prog := ⟨mixed⟩
instance pl_119 : PLT Tryz.prog 119 [(0, 1), (1, 1)] := ⟨_, Tryz.underlying119, by kernel_rfl⟩
instance pl_75 : PLT Tryz.prog 75 [(0, 1), (1, 4)] := ⟨_, Tryz.underlying75, by kernel_rfl⟩
instance sl_60 : SLT Tryz.prog 60 75 5 := ⟨by kernel_rfl⟩
instance st_9 : STT Tryz.prog 9 := ⟨by kernel_rfl⟩
instance sz_3 : SZ Tryz.prog 3 1 := ⟨by kernel_rfl⟩
instance sz_35 : SZ Tryz.prog 35 1 := ⟨by kernel_rfl⟩
instance sz_4 : SZ Tryz.prog 4 1 := ⟨by kernel_rfl⟩
instance sz_45 : SZ Tryz.prog 45 1 := ⟨by kernel_rfl⟩
instance sz_47 : SZ Tryz.prog 47 4 := ⟨by kernel_rfl⟩
instance sz_60 : SZ Tryz.prog 60 1 := ⟨by kernel_rfl⟩
instance zt_119 : ZT Tryz.prog 119 (.agg #[(.int .i64 0), (.pointer none)]) := ⟨Tryz.t119, by kernel_rfl, by kernel_rfl⟩
instance zt_47 : ZT Tryz.prog 47 (.agg #[(.bool false), (Sl.val ⟨none, 0, 0⟩), (.int .i64 0), (.int .u64 0)]) := ⟨Tryz.t47, by kernel_rfl, by kernel_rfl⟩
instance zt_60 : ZT Tryz.prog 60 (Sl.val ⟨none, 0, 0⟩) := ⟨Tryz.t60, by kernel_rfl, by kernel_rfl⟩
instance zt_75 : ZT Tryz.prog 75 (.agg #[(.string ⟨#[]⟩), (.bool false), (Sl.val ⟨none, 0, 0⟩), (.int .i64 0), (.int .u64 0)]) := ⟨Tryz.t75, by kernel_rfl, by kernel_rfl⟩
end F_IRStore
def store_Store_Get.s1 (Q : (Array Value) → K)  (t4_1 : Addr) (r5_1 : Addr) : K :=
  Ld (r5_1.add 1) Sl.val fun t26 =>
  bytes_Clone.call t26 fun t27 =>
  St (r5_1.add 1) (Sl.val t27) <|
  LdN r5_1 4 fun t29 =>
  StN t4_1 4 t29 <|
  LdN t4_1 4 fun r0 =>
  Q r0
def store_Store_Get (s0 : (Option Addr)) (key1 : ByteArray) (Q : (Array Value) → K) : K :=
  New 47 #[(.bool false), (Sl.val ⟨none, 0, 0⟩), (.int .i64 0), (.int .u64 0)] fun t4 =>
  Nn s0 fun t9 =>
  Ld (t9.add 1) Value.pointer fun t11 =>
  btree_Tree_string_api_Record_Get.call t11 key1 fun t13x0 t13x1 =>
  New 47 #[(.bool false), (Sl.val ⟨none, 0, 0⟩), (.int .i64 0), (.int .u64 0)] fun r5 =>
  StN r5 4 t13x0 <|
  Ite (!t13x1)
    (Ld t9 (Value.int .i64) fun t22 =>
    store_Default.call key1 t22 fun t23 =>
    St (r5.add 2) (.int .i64 t23) <|
    store_Store_Get.s1 Q t4 r5)
    (store_Store_Get.s1 Q t4 r5)
theorem store_Store_Get_ok (s0 : (Option Addr)) (key1 : ByteArray) (Q : (Array Value) → K) (w : World) (h : store_Store_Get s0 key1 Q w) : store_Store_Get.call s0 key1 Q w := by
  have hJ4 : JH 4 fun D => ∃ (t4_1 : Addr) (r5_1 : Addr), D [(4, (.pointer (some t4_1))), (5, (.pointer (some r5_1)))] (fun C => C [(4, (.pointer (some t4_1))), (5, (.pointer (some r5_1)))] (store_Store_Get.s1 Q t4_1 r5_1)) := by intros; exact ⟨fun _ ⟨_, _, h⟩ => ⟨_, _, h⟩⟩
  exact g_walk 30 h Tryz.func14
def store_Store_Rows (s0 : (Option Addr)) (Q : Sl → K) : K :=
  New 60 #[(Sl.val ⟨none, 0, 0⟩)] fun out2 =>
  Nn s0 fun t6 =>
  Ld (t6.add 1) Value.pointer fun t8 =>
  btree_Tree_string_api_Record_All.call t8 fun t9 =>
  RangeJ Tryz.prog t9 .ret (fun x : ByteArray × (Array Value) => [(.string x.1), (.agg x.2)]) (fun BG1 KN1 KJ1 x =>
    New 47 #[(.bool false), (Sl.val ⟨none, 0, 0⟩), (.int .i64 0), (.int .u64 0)] fun r4 =>
    StN r4 4 x.2 <|
    BG1 <|
    Ld (r4.add 1) Sl.val fun t13 =>
    bytes_Clone.call t13 fun t14 =>
    St (r4.add 1) (Sl.val t14) <|
    Ld out2 Sl.val fun t16 =>
    LdN r4 4 fun t18 =>
    Bld #[(.string ⟨#[]⟩), (.bool false), (Sl.val ⟨none, 0, 0⟩), (.int .i64 0), (.int .u64 0)] ([(0, 1), (1, 4)][·]?) [(0, (.string x.1)), (1, (.agg t18))] fun t19 =>
    Bld #[(.string ⟨#[]⟩), (.bool false), (Sl.val ⟨none, 0, 0⟩), (.int .i64 0), (.int .u64 0)] (fun i => some (i * 5, 5)) [(0, (.agg t19))] fun ct20 =>
    New 75 ct20 fun t20 =>
    Do Tryz.prog (Builtin.append_ #[60, 60] 60 #[(Sl.val t16), (Sl.val (Sl.mk (some t20) 1 1))]) Sl.val fun t21 =>
    St out2 (Sl.val t21) <|
    KN1)
    (fun D1 =>
      Ld out2 Sl.val fun t22 =>
      St out2 (Sl.val t22) <|
      TakeD D1 <|
      Ld out2 Sl.val fun r0 =>
      Q r0)
    (fun D1 =>
      Dead)
theorem store_Store_Rows_ok (s0 : (Option Addr)) (Q : Sl → K) (w : World) (h : store_Store_Rows s0 Q w) : store_Store_Rows.call s0 Q w := by
  exact g_walk 23 h Tryz.func23
def store_New.s1 (Q : (Option Addr) → Int → K)  (regions0_1 : Int) (t9_1 : Bool) : K :=
  Ite t9_1
    (Q none 1)
    (btree_New_string_api_Record.call  fun t11 =>
    New 119 #[(.int .i64 regions0_1), (.pointer t11)] fun t13 =>
    Q (some t13) 0)
def store_New (regions0 : Int) (Q : (Option Addr) → Int → K) : K :=
  Ite (decide (regions0 < 1))
    (store_New.s1 Q regions0 true)
    (store_New.s1 Q regions0 (decide ((3 : Int) < regions0)))
theorem store_New_ok (regions0 : Int) (Q : (Option Addr) → Int → K) (w : World) (h : store_New regions0 Q w) : store_New.call regions0 Q w := by
  have hJ2 : JH 2 fun D => ∃ (regions0_1 : Int), D [(0, (.int .i64 regions0_1))] (fun C => ∀ (t9_1 : Bool), C [(0, (.int .i64 regions0_1)), (9, (.bool t9_1))] (store_New.s1 Q regions0_1 t9_1)) := by intros; exact ⟨fun _ ⟨_, h⟩ => ⟨_, _, h⟩⟩
  exact g_walk 14 h Tryz.func31
def store_Store_Move.s1 (Q : Int → K)  (s0_1 : (Option Addr)) (key1_1 : ByteArray) (home2_1 : Int) (r7_1 : Addr) (t11_1 : Bool) : K :=
  Ite t11_1
    (Q 1)
    (Ld (r7_1.add 3) (Value.int .u64) fun t24 =>
    Ite (decide (t24 = 18446744073709551615))
      (Q 111)
      (St (r7_1.add 2) (.int .i64 home2_1) <|
      Ld (r7_1.add 3) (Value.int .u64) fun t29 =>
      Ar (IntKind.wrap .u64 (t29 + 1)) fun t30 =>
      St (r7_1.add 3) (.int .u64 t30) <|
      LdN r7_1 4 fun t34 =>
      store_Store_set.call s0_1 key1_1 t34 <|
      Q 0))
def store_Store_Move (s0 : (Option Addr)) (key1 : ByteArray) (home2 : Int) (Q : Int → K) : K :=
  store_Store_Get.call s0 key1 fun t10 =>
  New 47 #[(.bool false), (Sl.val ⟨none, 0, 0⟩), (.int .i64 0), (.int .u64 0)] fun r7 =>
  StN r7 4 t10 <|
  Ite (decide (home2 < 0))
    (store_Store_Move.s1 Q s0 key1 home2 r7 true)
    (Nn s0 fun t17 =>
    Ld t17 (Value.int .i64) fun t19 =>
    store_Store_Move.s1 Q (some t17) key1 home2 r7 (decide (t19 ≤ home2)))
theorem store_Store_Move_ok (s0 : (Option Addr)) (key1 : ByteArray) (home2 : Int) (Q : Int → K) (w : World) (h : store_Store_Move s0 key1 home2 Q w) : store_Store_Move.call s0 key1 home2 Q w := by
  have hJ3 : JH 3 fun D => ∃ (s0_1 : (Option Addr)) (key1_1 : ByteArray) (home2_1 : Int) (r7_1 : Addr), D [(0, (.pointer s0_1)), (1, (.string key1_1)), (2, (.int .i64 home2_1)), (7, (.pointer (some r7_1)))] (fun C => ∀ (t11_1 : Bool), C [(0, (.pointer s0_1)), (1, (.string key1_1)), (2, (.int .i64 home2_1)), (7, (.pointer (some r7_1))), (11, (.bool t11_1))] (store_Store_Move.s1 Q s0_1 key1_1 home2_1 r7_1 t11_1)) := by intros; exact ⟨fun _ ⟨_, _, _, _, h⟩ => ⟨_, _, h⟩⟩
  exact g_walk 36 h Tryz.func48
def store_Default.b1 (Q : Int → K)  (X1 : Int → Int → K) (key0_1 : ByteArray) (regions1_1 : Int) (t10_1 : Int) (sum5_1 : Int) (t11_1 : Int) : K :=
  Ite (decide (t11_1 < t10_1))
    (IdxS key0_1 t11_1 fun t17 =>
    Ar (IntKind.wrap .i64 t17) fun t18 =>
    Ar (IntKind.wrap .i64 (sum5_1 + t18)) fun t19 =>
    Cd (regions1_1 ≠ 0) <|
    Ar (Int.tmod t19 regions1_1) fun t21 =>
    Ar (IntKind.wrap .i64 (t11_1 + 1)) fun t22 =>
    X1 t21 t22)
    (Q sum5_1)
def store_Default (key0 : ByteArray) (regions1 : Int) (Q : Int → K) : K :=
  Ite (decide (regions1 < 1))
    (Q 0)
    (LoopK (α := Int × Int) (fun X x => store_Default.b1 Q (fun sum5_1 t11_1 => X (sum5_1, t11_1)) key0 regions1 (key0.size : Int) x.1 x.2) (0, 0))
theorem store_Default_ok (key0 : ByteArray) (regions1 : Int) (Q : Int → K) (w : World) (h : store_Default key0 regions1 Q w) : store_Default.call key0 regions1 Q w := by
  have hL5 : ∀ (key0_1 : ByteArray) (regions1_1 : Int) (t10_1 : Int), LH 5 (fun x : Int × Int => [(0, (.string key0_1)), (1, (.int .i64 regions1_1)), (5, (.int .i64 x.1)), (10, (.int .i64 t10_1)), (11, (.int .i64 x.2))]) (fun X x => store_Default.b1 Q (fun sum5_1 t11_1 => X (sum5_1, t11_1)) key0_1 regions1_1 t10_1 x.1 x.2) := by intros; exact ⟨⟩
  exact g_walk 24 h Tryz.func53
def store_Store_Put (s0 : (Option Addr)) (key1 : ByteArray) (value2 : Sl) (Q : K) : K :=
  store_Store_Get.call s0 key1 fun t9 =>
  New 47 #[(.bool false), (Sl.val ⟨none, 0, 0⟩), (.int .i64 0), (.int .u64 0)] fun r6 =>
  StN r6 4 t9 <|
  bytes_Clone.call value2 fun t11 =>
  St r6 (.bool true) <|
  St (r6.add 1) (Sl.val t11) <|
  LdN r6 4 fun t16 =>
  store_Store_set.call s0 key1 t16 <|
  Q
theorem store_Store_Put_ok (s0 : (Option Addr)) (key1 : ByteArray) (value2 : Sl) (Q : K) (w : World) (h : store_Store_Put s0 key1 value2 Q w) : store_Store_Put.call s0 key1 value2 Q w := by
  exact g_walk 18 h Tryz.func56
def store_Store_Delete (s0 : (Option Addr)) (key1 : ByteArray) (Q : K) : K :=
  store_Store_Get.call s0 key1 fun t7 =>
  New 47 #[(.bool false), (Sl.val ⟨none, 0, 0⟩), (.int .i64 0), (.int .u64 0)] fun r4 =>
  StN r4 4 t7 <|
  St r4 (.bool false) <|
  St (r4.add 1) (Sl.val (Sl.mk none 0 0)) <|
  LdN r4 4 fun t12 =>
  store_Store_set.call s0 key1 t12 <|
  Q
theorem store_Store_Delete_ok (s0 : (Option Addr)) (key1 : ByteArray) (Q : K) (w : World) (h : store_Store_Delete s0 key1 Q w) : store_Store_Delete.call s0 key1 Q w := by
  exact g_walk 14 h Tryz.func68
def store_Store_set.s1 (Q : K)  (s0_1 : (Option Addr)) (key1_1 : ByteArray) (r5_1 : Addr) (t13_1 : Bool) : K :=
  Ite t13_1
    (Nn s0_1 fun t15 =>
    Ld (t15.add 1) Value.pointer fun t17 =>
    btree_Tree_string_api_Record_Delete.call t17 key1_1 fun t19x0 t19x1 =>
    Q)
    (Dr <|
    Nn s0_1 fun t21 =>
    Ld (t21.add 1) Value.pointer fun t23 =>
    LdN r5_1 4 fun t25 =>
    btree_Tree_string_api_Record_Put.call t23 key1_1 t25 fun t26x0 t26x1 =>
    Q)
def store_Store_set (s0 : (Option Addr)) (key1 : ByteArray) (r2 : (Array Value)) (Q : K) : K :=
  New 47 r2 fun r5 =>
  Ld r5 Value.bool fun t7 =>
  Ite (!t7)
    (Ld (r5.add 3) (Value.int .u64) fun t11 =>
    store_Store_set.s1 Q s0 key1 r5 (decide (t11 = 0)))
    (store_Store_set.s1 Q s0 key1 r5 false)
theorem store_Store_set_ok (s0 : (Option Addr)) (key1 : ByteArray) (r2 : (Array Value)) (Q : K) (w : World) (h : store_Store_set s0 key1 r2 Q w) : store_Store_set.call s0 key1 r2 Q w := by
  have hD3 : DH 3 1 [6] (.s [0, 1, 2, 4, 3, 5] (.a [(6, 0, .e)])) := by intros; exact ⟨⟩
  have hJ2 : JH 2 fun D => ∃ (s0_1 : (Option Addr)) (key1_1 : ByteArray) (r5_1 : Addr), D [(0, (.pointer s0_1)), (1, (.string key1_1)), (5, (.pointer (some r5_1)))] (fun C => ∀ (t13_1 : Bool), C [(0, (.pointer s0_1)), (1, (.string key1_1)), (5, (.pointer (some r5_1))), (13, (.bool t13_1))] (store_Store_set.s1 Q s0_1 key1_1 r5_1 t13_1)) := by intros; exact ⟨fun _ ⟨_, _, _, h⟩ => ⟨_, _, h⟩⟩
  exact g_walk 27 h Tryz.func87
end Go.Proofs.YtfjjocopmknhgaaGreat
/- The store: its records, and what its functions do to them. -/
namespace Go.Proofs.YtfjjocopmknhgaaGreat
open Go Go.Sep Go.Sep.Bt
set_option linter.unusedSimpArgs false
set_option linter.unusedVariables false
set_option maxRecDepth 100000

structure Rec where
  has : Bool
  val : List UInt8
  home : Int
  cnt : Int
def Rec.ok (r : Rec) : Prop := 0 ≤ r.cnt ∧ r.cnt ≤ 18446744073709551615 ∧ r.val.length ≤ 1000000000
abbrev recL (r : Rec) (s : Sl) : List Value := [.bool r.has, s.val, .int .i64 r.home, .int .u64 r.cnt]
abbrev recA (r : Rec) (s : Sl) : Array Value := #[.bool r.has, s.val, .int .i64 r.home, .int .u64 r.cnt]
abbrev recC (x : Rec × Sl) : Cel 4 := ⟨recL x.1 x.2, rfl, rfl⟩
abbrev Recs := List (ByteArray × Rec)
abbrev RecX := ByteArray × (Rec × Sl)
abbrev recB (x : RecX) : HProp := Bytes ty_uint8 x.2.2 x.2.1.val
abbrev recI (x : RecX) : btS.It := (x.1, recC x.2)
abbrev recM (x : RecX) : ByteArray × Rec := (x.1, x.2.1)
/-- The first home of a key. -/
def homeOf (k : List UInt8) (n : Nat) : Nat := k.foldl (fun s b => (s + b.toNat) % n) 0
def getM (M : Recs) (k : ByteArray) : Option Rec := (M.find? fun x => decide (x.1 = k)).map Prod.snd
def putM (M : Recs) (k : ByteArray) (r : Rec) : Recs := match M with
  | [] => [(k, r)]
  | x :: M => if cmpS x.1 k < 0 then x :: putM M k r else if x.1 = k then (k, r) :: M else (k, r) :: x :: M
def sGet (n : Nat) (M : Recs) (k : ByteArray) : Rec := (getM M k).getD ⟨false, [], homeOf k.toList n, 0⟩
def sMove (n : Nat) (M : Recs) (k : ByteArray) (h : Int) : Recs × Int :=
  if h < 0 ∨ (n : Int) ≤ h then (M, 1) else if (sGet n M k).cnt = 18446744073709551615 then (M, 111) else (putM M k { sGet n M k with home := h, cnt := (sGet n M k).cnt + 1 }, 0)
theorem getM_put (M : Recs) (k k' : ByteArray) (r : Rec) : getM (putM M k r) k' = if k' = k then some r else getM M k' := by
  induction M with
  | nil => by_cases h : k' = k <;> simp [putM, getM, h, eq_comm]
  | cons x M ih =>
    unfold putM
    split
    · rename_i h
      have hx : x.1 ≠ k := fun e => by rw [e] at h; have := cmpS_neg.1 h; exact List.lt_irrefl _ this
      by_cases h2 : k' = k
      · subst h2
        have := ih
        simp only [getM, List.find?_cons, if_true] at this ⊢
        rw [show decide (x.1 = k') = false by simpa using hx]
        simpa using this
      · simp only [if_neg h2] at ih ⊢
        by_cases h3 : x.1 = k'
        · simp [getM, List.find?_cons, h3]
        · simp only [getM, List.find?_cons, show decide (x.1 = k') = false by simpa using h3]
          simpa [getM] using ih
    · split
      · rename_i h h1
        by_cases h2 : k' = k
        · subst h2; simp [getM]
        · simp [getM, List.find?_cons, h2, Ne.symm h2, h1]
      · rename_i h h1
        by_cases h2 : k' = k
        · subst h2; simp [getM]
        · simp [getM, List.find?_cons, h2, Ne.symm h2]
theorem putM_len (M : Recs) (k : ByteArray) (r : Rec) : (putM M k r).length ≤ M.length + 1 := by
  induction M with
  | nil => simp [putM]
  | cons x M ih =>
    unfold putM
    split
    · simp; omega
    · split <;> simp
theorem putM_mem {M : Recs} {k : ByteArray} {r : Rec} {x : ByteArray × Rec} (h : x ∈ putM M k r) : x = (k, r) ∨ x ∈ M := by
  induction M with
  | nil => simpa [putM] using h
  | cons y M ih =>
    unfold putM at h
    split at h
    · rcases List.mem_cons.1 h with rfl | h
      · exact .inr List.mem_cons_self
      · rcases ih h with h | h
        · exact .inl h
        · exact .inr (List.mem_cons_of_mem _ h)
    · split at h
      · rcases List.mem_cons.1 h with rfl | h
        · exact .inl rfl
        · exact .inr (List.mem_cons_of_mem _ h)
      · rcases List.mem_cons.1 h with rfl | h
        · exact .inl rfl
        · exact .inr h
theorem sGet_put (n : Nat) (M : Recs) (k k' : ByteArray) (r : Rec) : sGet n (putM M k r) k' = if k' = k then r else sGet n M k' := by
  unfold sGet
  rw [getM_put]
  split <;> simp
theorem getM_mem {M : Recs} {k : ByteArray} {r : Rec} (h : getM M k = some r) : (k, r) ∈ M := by
  simp only [getM, Option.map_eq_some_iff] at h
  obtain ⟨x, hx, rfl⟩ := h
  have h1 := List.mem_of_find?_eq_some hx
  have h2 := List.find?_some hx
  simp only [decide_eq_true_eq] at h2
  rw [← h2]; exact h1
theorem getM_mid {A C : Recs} {k : ByteArray} {r : Rec} (hA : ∀ x ∈ A, x.1 ≠ k) : getM (A ++ (k, r) :: C) k = some r := by
  unfold getM
  rw [List.find?_append, List.find?_eq_none.2 (fun x hx => by simpa using hA x hx)]
  simp
theorem getM_none {M : Recs} {k : ByteArray} (h : ∀ x ∈ M, x.1 ≠ k) : getM M k = none := by
  unfold getM
  rw [List.find?_eq_none.2 (fun x hx => by simpa using h x hx)]; rfl
theorem putM_mid {A C : Recs} {k : ByteArray} {r0 r : Rec} (hA : ∀ x ∈ A, cmpS x.1 k < 0) : putM (A ++ (k, r0) :: C) k r = A ++ (k, r) :: C := by
  induction A with
  | nil =>
    have : ¬ cmpS k k < 0 := fun h => List.lt_irrefl _ (cmpS_neg.1 h)
    simp [putM, this]
  | cons x A ih =>
    rw [List.cons_append, putM, if_pos (hA x List.mem_cons_self), ih (fun y hy => hA y (List.mem_cons_of_mem _ hy))]; rfl
theorem putM_new {A C : Recs} {k : ByteArray} {r : Rec} (hA : ∀ x ∈ A, cmpS x.1 k < 0) (hC : ∀ x ∈ C, cmpS k x.1 < 0) : putM (A ++ C) k r = A ++ (k, r) :: C := by
  induction A with
  | nil =>
    cases C with
    | nil => rfl
    | cons y C =>
      have h := cmpS_neg.1 (hC y List.mem_cons_self)
      have h1 : ¬ cmpS y.1 k < 0 := fun h2 => List.lt_irrefl _ (List.lt_trans h (cmpS_neg.1 h2))
      have h2 : ¬ y.1 = k := fun e => by rw [e] at h; exact List.lt_irrefl _ h
      simp [putM, h1, h2]
  | cons x A ih =>
    rw [List.cons_append, putM, if_pos (hA x List.mem_cons_self), ih (fun y hy => hA y (List.mem_cons_of_mem _ hy))]; rfl

/-- A store of some regions. -/
def StoreR (st n : Nat) (M : Recs) : HProp := ex fun t => ex fun X : List RecX => Sep.stars [pur (M = X.map recM ∧ (∀ x ∈ M, x.2.ok) ∧ 1 ≤ n ∧ n ≤ 3), blk st (.cells [.int .i64 n, .pointer (some ⟨t, 0, none⟩)].toArray ty_store_Store (0, 0)), TreeR btS cmpS t (X.map recI), Sep.stars (X.map recB)]
section
variable {B : World} {Γ Δ : List HProp}
instance (priority := high) own_store {st n : Nat} {M : Recs} : Sep.Own st (StoreR st n M :: Γ) (StoreR st n M) Γ := ⟨.refl _⟩
theorem s_store {st n : Nat} {M : Recs} {k : K} (h : ∀ t (X : List RecX), M = X.map recM → (∀ x ∈ M, x.2.ok) → 1 ≤ n → n ≤ 3 → HG B (blk st (.cells [.int .i64 n, .pointer (some ⟨t, 0, none⟩)].toArray ty_store_Store (0, 0)) :: TreeR btS cmpS t (X.map recI) :: Sep.stars (X.map recB) :: Γ) k) : HG B (StoreR st n M :: Γ) k :=
  s_ex fun t => s_ex fun X => s_flat <| s_pur fun ⟨h1, h2, h3, h4⟩ => h t X h1 h2 h3 h4
theorem s_mkStore {st n t : Nat} {X : List RecX} {k : K} (h2 : ∀ x ∈ X.map recM, x.2.ok) (h3 : 1 ≤ n) (h4 : n ≤ 3) (h : HG B (StoreR st n (X.map recM) :: Γ) k) : HG B (blk st (.cells [.int .i64 n, .pointer (some ⟨t, 0, none⟩)].toArray ty_store_Store (0, 0)) :: TreeR btS cmpS t (X.map recI) :: Sep.stars (X.map recB) :: Γ) k := fun w hw => by
  refine h w ?_
  have h3 : Holds B (Sep.stars [pur (X.map recM = X.map recM ∧ (∀ x ∈ X.map recM, x.2.ok) ∧ 1 ≤ n ∧ n ≤ 3), blk st (.cells [.int .i64 n, .pointer (some ⟨t, 0, none⟩)].toArray ty_store_Store (0, 0)), TreeR btS cmpS t (X.map recI), Sep.stars (X.map recB)] :: Γ) w := Holds.flat.2 (Holds.pur.2 ⟨⟨rfl, h2, h3, h4⟩, hw⟩)
  exact h3.imp fun g hg => ⟨t, X, hg⟩

theorem Default_spec {k : ByteArray} {n : Nat} {q : Int → K} (h1 : 1 ≤ n) (hn : n ≤ 1000) (hk : k.size < 1000000000000) (h : HG B Γ (q (homeOf k.toList n : Nat))) : HG B Γ (store_Default.call k n q) := fun w hw => by
  refine store_Default_ok _ _ _ _ ?_
  refine hg hw ?_
  clear hw w
  unfold store_Default
  refine s_f ?_
  obtain ⟨l, rfl⟩ := bs_of k
  rw [bs_list] at h
  have hsz : (bs l).size = l.length := rfl
  refine s_loopC (fun x : Int × Int => ∃ i s : Nat, x = ((s : Int), (i : Int)) ∧ i ≤ l.length ∧ s = homeOf (l.take i) n ∧ s < n) (fun x => l.length - x.2.toNat) ⟨0, 0, rfl, Nat.zero_le _, rfl, by omega⟩ fun k' x hx hk' => ?_
  obtain ⟨i, s, rfl, hi, hs, hsn⟩ := hx
  unfold store_Default.b1
  dsimp only
  refine s_ite (fun hb => ?_) fun hb => ?_
  · have hil : i < l.length := by simp only [decide_eq_true_eq] at hb; omega
    refine fun w hw => ⟨(l[i].toNat : Int), l[i], by omega, ?_, rfl, hg hw ?_⟩
    · show (bs l)[((i : Nat) : Int).toNat]? = _
      rw [Int.toNat_natCast]
      exact Array.getElem?_eq_getElem (xs := l.toArray) (by simpa using hil)
    have hb8 : l[i].toNat < 256 := l[i].toNat_lt
    refine s_ai ?_
    refine s_ai ?_
    refine s_cd (by omega) ?_
    refine s_ar (e' := (((s + l[i].toNat) % n : Nat) : Int)) ?_ ?_
    · rw [Int.tmod_eq_emod_of_nonneg (by omega)]; simp
    refine s_ai ?_
    refine hk' _ ⟨i + 1, (s + l[i].toNat) % n, by simp, hil, ?_, Nat.mod_lt _ (by omega)⟩ (by simp only; omega)
    rw [hs, List.take_succ_eq_append_getElem hil, homeOf, homeOf, List.foldl_append]; rfl
  · have hil : i = l.length := by simp only [decide_eq_false_iff_not] at hb; omega
    rw [hil, List.take_length] at hs
    rw [hs]
    exact h

theorem bytesClone_hg {b : Sl} {xs : List UInt8} {q : Sl → K} (hr : ∀ w, Holds B Γ w → RdB w b xs) (hl : xs.length ≤ 1000000000) (hk : ∀ s, s.a.isNone = b.a.isNone → HG B (Bytes ty_uint8 s xs :: Γ) (q s)) : HG B Γ (bytes_Clone.call b q) := fun w hw =>
  bytes_Clone_spec hw hr hl fun s w h hs => hk s hs w h
theorem storeNew_spec {n : Nat} {q : Option Addr → Int → K} (h1 : 1 ≤ n) (h3 : n ≤ 3) (h : ∀ st, HG B (StoreR st n [] :: Γ) (q (some ⟨st, 0, none⟩) 0)) : HG B Γ (store_New.call n q) := fun w hw => by
  refine store_New_ok _ _ _ ?_
  refine hg hw ?_
  clear hw w
  unfold store_New
  refine s_f ?_
  unfold store_New.s1
  refine s_f ?_
  refine btNew_spec fun t => ?_
  show HG B (TreeR btS cmpS t (([] : List RecX).map recI) :: Γ) _
  refine s_new fun st => ?_
  refine fun w hw => ?_
  refine hg (show Holds B (Sep.stars (([] : List RecX).map recB) :: _) w from Holds.flat.2 hw) ?_
  refine s_end (Δ := blk st (.cells [.int .i64 n, .pointer (some ⟨t, 0, none⟩)].toArray ty_store_Store (0, 0)) :: TreeR btS cmpS t (([] : List RecX).map recI) :: Sep.stars (([] : List RecX).map recB) :: Γ) ?_
  exact s_mkStore (by simp) h1 h3 (h st)

theorem split_rec {X : List RecX} {A C : List btS.It} {k : ByteArray} {v : Cel btS.nv} (e : X.map recI = A ++ ((k, v) : btS.It) :: C) : ∃ XA r XC, X = XA ++ (k, r) :: XC ∧ A = XA.map recI ∧ C = XC.map recI ∧ v = recC r := by
  obtain ⟨XA, X2, rfl, rfl, h2⟩ := List.map_eq_append_iff.1 e
  obtain ⟨⟨k', r⟩, XC, rfl, h3, rfl⟩ := List.map_eq_cons_iff.1 h2
  simp only [recI, Prod.mk.injEq] at h3
  obtain ⟨rfl, rfl⟩ := h3
  exact ⟨XA, r, XC, rfl, rfl, rfl, rfl⟩
theorem split_app {X : List RecX} {A C : List btS.It} (e : X.map recI = A ++ C) : ∃ XA XC, X = XA ++ XC ∧ A = XA.map recI ∧ C = XC.map recI := by
  obtain ⟨XA, X2, rfl, rfl, rfl⟩ := List.map_eq_append_iff.1 e
  exact ⟨XA, X2, rfl, rfl, rfl⟩
theorem lt_of_srt {X Y : List RecX} {k : ByteArray} {r : Rec × Sl} (h : Srt cmpS ((X ++ (k, r) :: Y).map recI)) : ∀ x ∈ X, cmpS x.1 k < 0 := fun x hx => by
  rw [List.map_append] at h
  exact (List.pairwise_append.1 h).2.2 (recI x) (List.mem_map.2 ⟨x, hx, rfl⟩) (recI (k, r)) (by simp)
theorem ne_of_lt {a b : ByteArray} (h : cmpS a b < 0) : a ≠ b := fun e => by rw [e] at h; exact List.lt_irrefl _ (cmpS_neg.1 h)

theorem sGet1 {t4 r5 : Nat} {r : Rec} {s : Sl} {z : List Value} {q : Array Value → K} (hz : z.length = 4) (hzf : z.all flatV = true) (hr : ∀ w, Holds B Γ w → RdB w s r.val) (hl : r.val.length ≤ 1000000000) (h : ∀ s', s'.a.isNone = s.a.isNone → HG B (Bytes ty_uint8 s' r.val :: Γ) (q (recA r s'))) :
    HG B (blk r5 (.cells (recL r s).toArray ty_api_Record (0, 0)) :: blk t4 (.cells z.toArray ty_api_Record (0, 0)) :: Γ) (store_Store_Get.s1 q ⟨t4, 0, none⟩ ⟨r5, 0, none⟩) := by
  unfold store_Store_Get.s1
  refine s_ld (b := r5) (x := s) ?_
  refine bytesClone_hg (fun w hw => hr w hw.tail.tail) hl fun s' hs' => ?_
  refine s_st (b := r5) ?_
  refine s_ldN (b := r5) ?_
  refine s_stN (b := t4) ?_ hz rfl rfl
  refine s_ldN (b := t4) ?_
  exact s_end (h s' hs')
/-- Get. -/
theorem storeGet_spec {st n : Nat} {M : Recs} {k : ByteArray} {q : Array Value → K} (hk : k.size < 1000000000000) (h : ∀ s, (sGet n M k).ok → HG B (Bytes ty_uint8 s (sGet n M k).val :: StoreR st n M :: Γ) (q (recA (sGet n M k) s))) : HG B (StoreR st n M :: Γ) (store_Store_Get.call (some ⟨st, 0, none⟩) k q) := fun w hw => by
  refine store_Store_Get_ok _ _ _ _ ?_
  refine hg hw ?_
  clear hw w
  refine s_store fun t X hM hok h1 h3 => ?_
  unfold store_Store_Get
  refine s_new fun t4 => ?_
  refine s_nn ?_
  refine s_ld (b := st) (x := some ⟨t, 0, none⟩) ?_
  refine s_own t ?_
  refine tree_srt fun hs => ?_
  refine btGet_spec (fun A v C e => ?_) fun A C e hA hC => ?_
  · obtain ⟨XA, r, XC, rfl, rfl, rfl, rfl⟩ := split_rec e
    have hlt := lt_of_srt hs
    have hg' : getM M k = some r.1 := by
      rw [hM, List.map_append]
      exact getM_mid fun x hx => by
        obtain ⟨y, hy, rfl⟩ := List.mem_map.1 hx
        exact ne_of_lt (hlt y hy)
    have hr : sGet n M k = r.1 := by unfold sGet; rw [hg']; rfl
    have hrok : r.1.ok := hok (k, r.1) (getM_mem hg')
    rw [hr] at h
    refine s_new fun r5 => ?_
    refine s_stN (b := r5) (l' := recL r.1 r.2) ?_
    refine s_f ?_
    refine s_end (Δ := blk r5 (.cells (recL r.1 r.2).toArray ty_api_Record (0, 0)) :: blk t4 (.cells [.bool false, Sl.val ⟨none, 0, 0⟩, .int .i64 0, .int .u64 0].toArray ty_api_Record (0, 0)) :: blk st (.cells [.int .i64 n, .pointer (some ⟨t, 0, none⟩)].toArray ty_store_Store (0, 0)) :: TreeR btS cmpS t ((XA ++ (k, r) :: XC).map recI) :: Sep.stars ((XA ++ (k, r) :: XC).map recB) :: Γ) ?_
    refine sGet1 (r := r.1) rfl rfl (fun w hw => ?_) hrok.2.2 fun s' hs' => ?_
    · have h5 : Holds B (recB (k, r) :: _) w := (Holds.flat.1 (hw.tail.tail)).perm mid_perm |>.perm List.perm_middle
      exact h5.rdC List.mem_cons_self
    · rw [hM] at h
      refine s_end (Δ := blk st (.cells [.int .i64 n, .pointer (some ⟨t, 0, none⟩)].toArray ty_store_Store (0, 0)) :: TreeR btS cmpS t ((XA ++ (k, r) :: XC).map recI) :: Sep.stars ((XA ++ (k, r) :: XC).map recB) :: Bytes ty_uint8 s' r.1.val :: Γ) ?_
      refine s_mkStore (by rw [← hM]; exact hok) h1 h3 ?_
      exact s_end (h s' hrok)
  · obtain ⟨XA, XC, rfl, rfl, rfl⟩ := split_app e
    have hg' : getM M k = none := by
      rw [hM, List.map_append]
      refine getM_none fun x hx => ?_
      rcases List.mem_append.1 hx with hx | hx
      · obtain ⟨y, hy, rfl⟩ := List.mem_map.1 hx
        exact ne_of_lt (hA (recI y) (List.mem_map.2 ⟨y, hy, rfl⟩))
      · obtain ⟨y, hy, rfl⟩ := List.mem_map.1 hx
        exact Ne.symm (ne_of_lt (hC (recI y) (List.mem_map.2 ⟨y, hy, rfl⟩)))
    have hr : sGet n M k = ⟨false, [], homeOf k.toList n, 0⟩ := by unfold sGet; rw [hg']; rfl
    rw [hr] at h
    refine s_new fun r5 => ?_
    refine s_stN (b := r5) (l' := recL ⟨false, [], 0, 0⟩ ⟨none, 0, 0⟩) ?_
    refine s_t ?_
    refine s_ld (b := st) (x := (n : Int)) ?_
    refine Default_spec h1 (by omega) hk ?_
    refine s_st (b := r5) ?_
    refine s_end (Δ := blk r5 (.cells (recL ⟨false, [], homeOf k.toList n, 0⟩ ⟨none, 0, 0⟩).toArray ty_api_Record (0, 0)) :: blk t4 (.cells [.bool false, Sl.val ⟨none, 0, 0⟩, .int .i64 0, .int .u64 0].toArray ty_api_Record (0, 0)) :: blk st (.cells [.int .i64 n, .pointer (some ⟨t, 0, none⟩)].toArray ty_store_Store (0, 0)) :: TreeR btS cmpS t ((XA ++ XC).map recI) :: Sep.stars ((XA ++ XC).map recB) :: Γ) ?_
    refine sGet1 (r := ⟨false, [], homeOf k.toList n, 0⟩) rfl rfl (fun w hw => RdC.none') (by simp) fun s' hs' => ?_
    rw [hM] at h
    refine s_end (Δ := blk st (.cells [.int .i64 n, .pointer (some ⟨t, 0, none⟩)].toArray ty_store_Store (0, 0)) :: TreeR btS cmpS t ((XA ++ XC).map recI) :: Sep.stars ((XA ++ XC).map recB) :: Bytes ty_uint8 s' [] :: Γ) ?_
    refine s_mkStore (by rw [← hM]; exact hok) h1 h3 ?_
    exact s_end (h s' ⟨by simp, by simp, by simp⟩)

theorem srt_M {X : List RecX} (h : Srt cmpS (X.map recI)) : Srt cmpS (X.map recM) := by
  unfold Srt at h ⊢
  rw [List.pairwise_map] at h ⊢
  exact h
/-- What a store is told of a key. -/
theorem storePut_hg {st t n : Nat} {X : List RecX} {k : ByteArray} {r : Rec} {s : Sl} {q : Array Value → Bool → K} (hok : ∀ x ∈ X.map recM, x.2.ok) (hr : r.ok) (h1 : 1 ≤ n) (h3 : n ≤ 3) (hL : X.length < 1000000000)
    (h : ∀ a b, HG B (StoreR st n (putM (X.map recM) k r) :: Γ) (q a b)) :
    HG B (blk st (.cells [.int .i64 n, .pointer (some ⟨t, 0, none⟩)].toArray ty_store_Store (0, 0)) :: TreeR btS cmpS t (X.map recI) :: Sep.stars (X.map recB) :: Bytes ty_uint8 s r.val :: Γ) (btree_Tree_string_api_Record_Put.call (some ⟨t, 0, none⟩) k (recA r s) q) := by
  refine s_own t ?_
  refine tree_srt fun hs => ?_
  refine btPut_spec (v := recC (r, s)) (by simpa using hL) fun L' old had hp => ?_
  have hput : ∀ x ∈ putM (X.map recM) k r, x.2.ok := fun x hx => by
    rcases putM_mem hx with rfl | hx
    · exact hr
    · exact hok x hx
  rcases hp with ⟨A, C, e, rfl, rfl⟩ | ⟨A, C, e, hA, hC, rfl, rfl, rfl⟩
  · obtain ⟨XA, r0, XC, rfl, rfl, rfl, rfl⟩ := split_rec e
    have hlt := lt_of_srt hs
    have e2 : putM ((XA ++ (k, r0) :: XC).map recM) k r = (XA ++ (k, (r, s)) :: XC).map recM := by
      rw [List.map_append, List.map_cons]
      rw [show recM (k, r0) = (k, r0.1) from rfl, putM_mid (fun x hx => by
        obtain ⟨y, hy, rfl⟩ := List.mem_map.1 hx
        exact hlt y hy)]
      simp
    rw [e2] at h hput
    refine s_pick (Sep.stars ((XA ++ (k, r0) :: XC).map recB)) ?_
    refine s_mid ?_
    have e3 : XA.map recI ++ ((k, recC (r, s)) : btS.It) :: XC.map recI = (XA ++ (k, (r, s)) :: XC).map recI := by simp
    refine s_end (Δ := recB (k, (r, s)) :: Sep.stars ((XA ++ XC).map recB) :: blk st (.cells [.int .i64 n, .pointer (some ⟨t, 0, none⟩)].toArray ty_store_Store (0, 0)) :: TreeR btS cmpS t (XA.map recI ++ ((k, recC (r, s)) : btS.It) :: XC.map recI) :: Γ) ?_
    refine s_unmid ?_
    rw [e3]
    refine s_end (Δ := blk st (.cells [.int .i64 n, .pointer (some ⟨t, 0, none⟩)].toArray ty_store_Store (0, 0)) :: TreeR btS cmpS t ((XA ++ (k, (r, s)) :: XC).map recI) :: Sep.stars ((XA ++ (k, (r, s)) :: XC).map recB) :: Γ) ?_
    exact s_mkStore hput h1 h3 (h _ _)
  · obtain ⟨XA, XC, rfl, rfl, rfl⟩ := split_app e
    have e2 : putM ((XA ++ XC).map recM) k r = (XA ++ (k, (r, s)) :: XC).map recM := by
      rw [List.map_append, putM_new (fun x hx => by
        obtain ⟨y, hy, rfl⟩ := List.mem_map.1 hx
        exact hA (recI y) (List.mem_map.2 ⟨y, hy, rfl⟩)) (fun x hx => by
        obtain ⟨y, hy, rfl⟩ := List.mem_map.1 hx
        exact hC (recI y) (List.mem_map.2 ⟨y, hy, rfl⟩))]
      simp
    rw [e2] at h hput
    have e3 : XA.map recI ++ ((k, recC (r, s)) : btS.It) :: XC.map recI = (XA ++ (k, (r, s)) :: XC).map recI := by simp
    refine s_end (Δ := recB (k, (r, s)) :: Sep.stars ((XA ++ XC).map recB) :: blk st (.cells [.int .i64 n, .pointer (some ⟨t, 0, none⟩)].toArray ty_store_Store (0, 0)) :: TreeR btS cmpS t (XA.map recI ++ ((k, recC (r, s)) : btS.It) :: XC.map recI) :: Γ) ?_
    refine s_unmid ?_
    rw [e3]
    refine s_end (Δ := blk st (.cells [.int .i64 n, .pointer (some ⟨t, 0, none⟩)].toArray ty_store_Store (0, 0)) :: TreeR btS cmpS t ((XA ++ (k, (r, s)) :: XC).map recI) :: Sep.stars ((XA ++ (k, (r, s)) :: XC).map recB) :: Γ) ?_
    exact s_mkStore hput h1 h3 (h _ _)
theorem storeSet_spec {st n : Nat} {M : Recs} {k : ByteArray} {r : Rec} {s : Sl} {q : K} (hr : r.ok) (hne : r.has = true ∨ r.cnt ≠ 0) (hL : M.length < 1000000000) (h : HG B (StoreR st n (putM M k r) :: Γ) q) : HG B (StoreR st n M :: Bytes ty_uint8 s r.val :: Γ) (store_Store_set.call (some ⟨st, 0, none⟩) k (recA r s) q) := fun w hw => by
  refine store_Store_set_ok _ _ _ _ _ ?_
  refine hg hw ?_
  clear hw w
  refine s_store fun t X hM hok h1 h3 => ?_
  subst hM
  unfold store_Store_set
  refine s_new fun r5 => ?_
  refine s_ld (b := r5) (x := r.has) ?_
  have key : HG B (blk r5 (.cells (recL r s).toArray ty_api_Record (0, 0)) :: blk st (.cells [.int .i64 n, .pointer (some ⟨t, 0, none⟩)].toArray ty_store_Store (0, 0)) :: TreeR btS cmpS t (X.map recI) :: Sep.stars (X.map recB) :: Bytes ty_uint8 s r.val :: Γ) (store_Store_set.s1 q (some ⟨st, 0, none⟩) k ⟨r5, 0, none⟩ false) := by
    unfold store_Store_set.s1
    refine s_f ?_
    refine s_dr ?_
    refine s_nn ?_
    refine s_ld (b := st) (x := some ⟨t, 0, none⟩) ?_
    refine s_ldN (b := r5) ?_
    refine s_end (Δ := blk st (.cells [.int .i64 n, .pointer (some ⟨t, 0, none⟩)].toArray ty_store_Store (0, 0)) :: TreeR btS cmpS t (X.map recI) :: Sep.stars (X.map recB) :: Bytes ty_uint8 s r.val :: Γ) ?_
    exact storePut_hg hok hr h1 h3 (by simpa using hL) fun _ _ => h
  refine s_ite (fun hb => ?_) fun hb => key
  refine s_ld (b := r5) (x := r.cnt) ?_
  have hc : r.cnt ≠ 0 := hne.resolve_left (by simpa using hb)
  rw [show decide (r.cnt = 0) = false by simpa using hc]
  exact key
/-- Move. -/
theorem storeMove_spec {st n : Nat} {M : Recs} {k : ByteArray} {to : Int} {q : Int → K} (hk : k.size < 1000000000000) (hL : M.length < 1000000000) (h : HG B (StoreR st n (sMove n M k to).1 :: Γ) (q (sMove n M k to).2)) : HG B (StoreR st n M :: Γ) (store_Store_Move.call (some ⟨st, 0, none⟩) k to q) := fun w hw => by
  refine store_Store_Move_ok _ _ _ _ _ ?_
  refine hg hw ?_
  clear hw w
  unfold store_Store_Move
  refine storeGet_spec hk fun s hok => ?_
  generalize hR : sGet n M k = r at *
  refine s_new fun r7 => ?_
  refine s_stN (b := r7) (l' := recL r s) ?_
  have bad : to < 0 ∨ (n : Int) ≤ to → ∀ s0, HG B (blk r7 (.cells (recL r s).toArray ty_api_Record (0, 0)) :: Bytes ty_uint8 s r.val :: StoreR st n M :: Γ) (store_Store_Move.s1 q s0 k to ⟨r7, 0, none⟩ true) := fun hb s0 => by
    unfold store_Store_Move.s1
    refine s_t ?_
    have e : sMove n M k to = (M, 1) := by unfold sMove; rw [if_pos hb]
    rw [e] at h
    exact s_end h
  refine s_ite (fun hb => bad (.inl (by simpa using hb)) _) fun hb => ?_
  refine s_nn ?_
  refine s_own st ?_
  refine s_store fun t X hM hok2 h1 h3 => ?_
  refine s_ld (b := st) (x := (n : Int)) ?_
  subst hM
  refine s_mkStore hok2 h1 h3 ?_
  refine s_end (Δ := blk r7 (.cells (recL r s).toArray ty_api_Record (0, 0)) :: Bytes ty_uint8 s r.val :: StoreR st n (X.map recM) :: Γ) ?_
  by_cases hb2 : (n : Int) ≤ to
  · rw [show decide ((n : Int) ≤ to) = true by simpa using hb2]
    exact bad (.inr hb2) _
  rw [show decide ((n : Int) ≤ to) = false by simpa using hb2]
  have hnb : ¬ (to < 0 ∨ (n : Int) ≤ to) := by
    simp only [decide_eq_false_iff_not] at hb
    omega
  unfold store_Store_Move.s1
  refine s_f ?_
  refine s_ld (b := r7) (x := r.cnt) ?_
  refine s_ite (fun hc => ?_) fun hc => ?_
  · have e : sMove n (X.map recM) k to = (X.map recM, 111) := by unfold sMove; rw [if_neg hnb, hR, if_pos (by simpa using hc)]
    rw [e] at h
    exact s_end h
  have hc' : r.cnt ≠ 18446744073709551615 := by simpa using hc
  obtain ⟨o1, o2, o3⟩ := hok
  refine s_st (b := r7) ?_
  refine s_ld (b := r7) (x := r.cnt) ?_
  refine s_ar (wrapU64 (by omega) (by omega)) ?_
  refine s_st (b := r7) ?_
  refine s_ldN (b := r7) (l' := recL { r with home := to, cnt := r.cnt + 1 } s) ?_
  refine s_end (Δ := StoreR st n (X.map recM) :: Bytes ty_uint8 s r.val :: Γ) ?_
  refine storeSet_spec (r := { r with home := to, cnt := r.cnt + 1 }) ⟨by simp only; omega, by simp only; omega, o3⟩ (.inr (by simp only; omega)) hL ?_
  have e : sMove n (X.map recM) k to = (putM (X.map recM) k { r with home := to, cnt := r.cnt + 1 }, 0) := by unfold sMove; rw [if_neg hnb, hR, if_neg hc']
  rw [e] at h
  exact h
end
end Go.Proofs.YtfjjocopmknhgaaGreat
/- A B-tree's node, leaf or not, in one view. Holds for every program. -/
namespace Go.Sep
open Go Go.RowKit
set_option linter.unusedSimpArgs false
set_option linter.unusedVariables false
namespace Bt
section
variable {κ : Type} {G : BtT κ} {c : κ → κ → Int} {B : World} {Γ Δ : List HProp}
/-- Items and kids in turn. -/
def wv : List G.It → List (Kid G) → List G.It
  | its, [] => its
  | [], q :: _ => q.2
  | x :: its, q :: ks => q.2 ++ x :: wv its ks
theorem wv_ps (q0 : Kid G) : ∀ (ps : List (G.It × Kid G)), wv (ps.map Prod.fst) (q0 :: ps.map Prod.snd) = psL q0 ps
  | [] => by simp [wv, psL]
  | (x, q) :: ps => by
    have e : psL q0 ((x, q) :: ps) = q0.2 ++ x :: psL q ps := by simp [psL]
    rw [e, ← wv_ps q ps]; rfl
/-- As many kids as there must be. -/
def Fit (d : Nat) (its : List G.It) (ks : List (Kid G)) : Prop := match d with
  | 0 => ks = []
  | _ + 1 => ks.length = its.length + 1
def kidsD (G : BtT κ) : Nat → List (Kid G) → HProp
  | 0, _ => Sep.stars []
  | d + 1, ks => kidsR G d ks
abbrev rawL (G : BtT κ) (d b : Nat) (s kd : Sl) (its : List G.It) (ks : List (Kid G)) (Γ : List HProp) : List HProp := nodeB G b s kd :: itsR G s its :: kpsR G kd (ks.map ptr) :: kidsD G d ks :: Γ
theorem s_raw {d m b : Nat} {L : List G.It} {k : K} (h : ∀ s kd its ks, Fit d its ks → its.length ≤ 5 → (m = 2 → its ≠ []) → L = wv its ks → HG B (rawL G d b s kd its ks Γ) k) : HG B (NodeR G d m b L :: Γ) k := by
  cases d with
  | zero =>
    refine s_node0 fun s kd h1 h2 => ?_
    refine fun w hw => ?_
    refine hg (show Holds B (kidsD G 0 [] :: _) w from Holds.flat.2 hw) ?_
    have := h s kd L [] rfl h2 h1 (by cases L <;> rfl)
    refine s_end (Δ := nodeB G b s kd :: itsR G s L :: kpsR G kd [] :: kidsD G 0 [] :: Γ) ?_
    exact this
  | succ d =>
    refine s_nodeS fun s kd q0 ps h1 h2 h3 => ?_
    exact h s kd (ps.map Prod.fst) (q0 :: ps.map Prod.snd) (by simp [Fit]) (by simpa using h2) (fun hm => by simpa using h1 (by omega)) (by rw [h3, wv_ps])
theorem zip_ps {its : List G.It} {ks : List (Kid G)} (h : ks.length = its.length + 1) : ∃ (q0 : Kid G) (ps : List (G.It × Kid G)), its = ps.map Prod.fst ∧ ks = q0 :: ps.map Prod.snd := by
  cases ks with
  | nil => simp at h
  | cons q0 ks =>
    refine ⟨q0, its.zip ks, ?_, ?_⟩
    · rw [List.map_fst_zip (by simp at h; omega)]
    · rw [List.map_snd_zip (by simp at h; omega)]
theorem s_unraw {d m b : Nat} {s kd : Sl} {its : List G.It} {ks : List (Kid G)} {k : K} (hf : Fit d its ks) (hl : its.length ≤ 5) (hm : 1 ≤ m → (d = 0 ∧ m = 1) ∨ its ≠ []) (h : HG B (NodeR G d m b (wv its ks) :: Γ) k) : HG B (rawL G d b s kd its ks Γ) k := by
  cases d with
  | zero =>
    have hk : ks = [] := hf
    subst hk
    have e : wv its [] = its := by cases its <;> rfl
    rw [e] at h
    show HG B (nodeB G b s kd :: itsR G s its :: kpsR G kd [] :: kidsD G 0 [] :: Γ) k
    refine s_end (Δ := nodeB G b s kd :: itsR G s its :: kpsR G kd [] :: Γ) ?_
    exact s_mk0 (fun h2 => by rcases hm (by omega) with h3 | h3
                              · omega
                              · exact h3) hl h
  | succ d =>
    obtain ⟨q0, ps, rfl, rfl⟩ := zip_ps hf
    rw [wv_ps] at h
    exact s_mkS (fun h2 => by rcases hm h2 with h3 | h3
                              · omega
                              · simpa using h3) (by simpa using hl) h
end
end Bt
end Go.Sep
/- A B-tree: what Delete's functions are (printed by tools/mkbt.py). Holds for every program. -/
namespace Go.Sep
open Go Go.RowKit
set_option linter.unusedSimpArgs false
set_option linter.unusedVariables false
namespace Bt
structure BtD (κ : Type) extends BtT κ where
  delIC : Sl → Int → Int → (Sl → K) → K
  delKC : Sl → Int → Int → (Sl → K) → K
  ntakeC : Option Addr → κ → (Array Value → Bool → K) → K
  nlastC : Option Addr → (Array Value → K) → K
  nmendC : Option Addr → Int → K → K
section
variable {κ : Type}
def nmend_s2 (G : BtD κ) (Q : K)  (n0_2 : Addr) (i1_2 : Int) (kid4_2 : Addr) (t202_2 : Bool) : K :=
  Ite t202_2
    (Ld (n0_2.add 1) Sl.val fun t229 =>
    Ar (IntKind.wrap .i64 (i1_2 + 1)) fun t231 =>
    Idx t229 t231 1 fun t232 =>
    Ld t232 Value.pointer fun t233 =>
    Dr <| WithS fun S =>
    LdS S kid4_2 Sl.val fun t238 =>
    LdS S n0_2 Sl.val fun t242 =>
    Idx t242 i1_2 (G.nv + 1) fun t244 =>
    LdNS S t244 (G.nv + 1) fun t245 =>
    Bld (G.kz :: G.vz).toArray (fun i => some (i * (G.nv + 1), (G.nv + 1))) [(0, (.agg t245))] fun ct246 =>
    New G.tI ct246 fun t246 =>
    Sv S <|
    Do G.P (Builtin.append_ #[G.tSI, G.tSI] G.tSI #[(Sl.val t238), (Sl.val (Sl.mk (some t246) 1 1))]) Sl.val fun t247 =>
    St kid4_2 (Sl.val t247) <|
    Dr <|
    Nn t233 fun t256 =>
    Ld n0_2 Sl.val fun t253 =>
    Ld t256 Sl.val fun t258 =>
    Idx t258 0 (G.nv + 1) fun t259 =>
    LdN t259 (G.nv + 1) fun t260 =>
    Idx t253 i1_2 (G.nv + 1) fun t261 =>
    StN t261 (G.nv + 1) t260 <|
    Ld t256 Sl.val fun t266 =>
    G.delIC t266 0 1 fun t267 =>
    St t256 (Sl.val t267) <|
    Ld (t256.add 1) Sl.val fun t273 =>
    Ite (decide ((0 : Int) < (t273.n : Int)))
      (Dr <| WithS fun S =>
      LdS S (kid4_2.add 1) Sl.val fun t280 =>
      LdS S (t256.add 1) Sl.val fun t284 =>
      Idx t284 0 1 fun t285 =>
      LdS S t285 Value.pointer fun t286 =>
      New G.tK #[(.pointer t286)] fun t287 =>
      Sv S <|
      Do G.P (Builtin.append_ #[G.tSK, G.tSK] G.tSK #[(Sl.val t280), (Sl.val (Sl.mk (some t287) 1 1))]) Sl.val fun t288 =>
      St (kid4_2.add 1) (Sl.val t288) <|
      Ld (t256.add 1) Sl.val fun t295 =>
      G.delKC t295 0 1 fun t296 =>
      St (t256.add 1) (Sl.val t296) <|
      Q)
      (Q))
    (Ar (if (1 : Int) > i1_2 then 1 else i1_2) fun t18 =>
    Dr <|
    Ld (n0_2.add 1) Sl.val fun t22 =>
    Ar (IntKind.wrap .i64 (t18 - 1)) fun t24 =>
    Idx t22 t24 1 fun t25 =>
    Ld t25 Value.pointer fun t26 =>
    Ld (n0_2.add 1) Sl.val fun t30 =>
    Idx t30 t18 1 fun t32 =>
    Ld t32 Value.pointer fun t33 =>
    Dr <| WithS fun S =>
    Nn t26 fun t36 =>
    Ar (IntKind.wrap .i64 (t18 - 1)) fun t44 =>
    Nn t33 fun t50 =>
    LdS S t36 Sl.val fun t38 =>
    LdS S n0_2 Sl.val fun t42 =>
    Idx t42 t44 (G.nv + 1) fun t45 =>
    LdNS S t45 (G.nv + 1) fun t46 =>
    LdS S t50 Sl.val fun t52 =>
    Bld (G.kz :: G.vz).toArray (fun i => some (i * (G.nv + 1), (G.nv + 1))) [(0, (.agg t46))] fun ct47 =>
    New G.tI ct47 fun t47 =>
    Sv S <|
    Do G.P (Builtin.append_ #[G.tSI, G.tSI] G.tSI #[(Sl.val t38), (Sl.val (Sl.mk (some t47) 1 1))]) Sl.val fun t48 =>
    Sv S <|
    Do G.P (Builtin.append_ #[G.tSI, G.tSI] G.tSI #[(Sl.val t48), (Sl.val t52)]) Sl.val fun t53 =>
    St t36 (Sl.val t53) <|
    Dr <|
    Ld (t36.add 1) Sl.val fun t60 =>
    Ld (t50.add 1) Sl.val fun t64 =>
    Do G.P (Builtin.append_ #[G.tSK, G.tSK] G.tSK #[(Sl.val t60), (Sl.val t64)]) Sl.val fun t65 =>
    St (t36.add 1) (Sl.val t65) <|
    Ld n0_2 Sl.val fun t72 =>
    Ar (IntKind.wrap .i64 (t18 - 1)) fun t74 =>
    G.delIC t72 t74 t18 fun t76 =>
    St n0_2 (Sl.val t76) <|
    Ld (n0_2.add 1) Sl.val fun t83 =>
    Ar (IntKind.wrap .i64 (t18 + 1)) fun t86 =>
    G.delKC t83 t18 t86 fun t87 =>
    St (n0_2.add 1) (Sl.val t87) <|
    Q)
def nmend_s1 (G : BtD κ) (Q : K)  (n0_1 : Addr) (i1_1 : Int) (kid4_1 : Addr) (t97_1 : Bool) : K :=
  Ite t97_1
    (Ld (n0_1.add 1) Sl.val fun t118 =>
    Ar (IntKind.wrap .i64 (i1_1 - 1)) fun t120 =>
    Idx t118 t120 1 fun t121 =>
    Ld t121 Value.pointer fun t122 =>
    Nn t122 fun t124 =>
    Ld t124 Sl.val fun t126 =>
    Ar (IntKind.wrap .i64 ((t126.n : Int) - 1)) fun t128 =>
    Dr <| WithS fun S =>
    Ar (IntKind.wrap .i64 (i1_1 - 1)) fun t139 =>
    LdS S kid4_1 Sl.val fun t133 =>
    LdS S n0_1 Sl.val fun t137 =>
    Idx t137 t139 (G.nv + 1) fun t140 =>
    LdNS S t140 (G.nv + 1) fun t141 =>
    Bld (G.kz :: G.vz).toArray (fun i => some (i * (G.nv + 1), (G.nv + 1))) [(0, (.agg t141))] fun ct142 =>
    New G.tI ct142 fun t142 =>
    Sv S <|
    G.insIC t133 0 (Sl.mk (some t142) 1 1) fun t143 =>
    St kid4_1 (Sl.val t143) <|
    Dr <|
    Ar (IntKind.wrap .i64 (i1_1 - 1)) fun t151 =>
    Ld n0_1 Sl.val fun t149 =>
    Ld t124 Sl.val fun t155 =>
    Idx t155 t128 (G.nv + 1) fun t157 =>
    LdN t157 (G.nv + 1) fun t158 =>
    Idx t149 t151 (G.nv + 1) fun t159 =>
    StN t159 (G.nv + 1) t158 <|
    Ld t124 Sl.val fun t164 =>
    Slc t164 0 t128 (t164.c : Int) (G.nv + 1) fun t166 =>
    St t124 (Sl.val t166) <|
    Ld (t124.add 1) Sl.val fun t172 =>
    Ite (decide ((0 : Int) < (t172.n : Int)))
      (Dr <| WithS fun S =>
      Ar (IntKind.wrap .i64 (t128 + 1)) fun t185 =>
      LdS S (kid4_1.add 1) Sl.val fun t179 =>
      LdS S (t124.add 1) Sl.val fun t183 =>
      Idx t183 t185 1 fun t186 =>
      LdS S t186 Value.pointer fun t187 =>
      New G.tK #[(.pointer t187)] fun t188 =>
      Sv S <|
      G.insKC t179 0 (Sl.mk (some t188) 1 1) fun t189 =>
      St (kid4_1.add 1) (Sl.val t189) <|
      Ld (t124.add 1) Sl.val fun t196 =>
      Ar (IntKind.wrap .i64 (t128 + 1)) fun t198 =>
      Slc t196 0 t198 (t196.c : Int) 1 fun t199 =>
      St (t124.add 1) (Sl.val t199) <|
      Q)
      (Q))
    (Ar (IntKind.wrap .i64 (i1_1 + 1)) fun t204 =>
    Ld (n0_1.add 1) Sl.val fun t208 =>
    Ite (decide (t204 < (t208.n : Int)))
      (Ld (n0_1.add 1) Sl.val fun t215 =>
      Ar (IntKind.wrap .i64 (i1_1 + 1)) fun t217 =>
      Idx t215 t217 1 fun t218 =>
      Ld t218 Value.pointer fun t219 =>
      Nn t219 fun t220 =>
      Ld t220 Sl.val fun t222 =>
      nmend_s2 G Q n0_1 i1_1 kid4_1 (decide ((2 : Int) < (t222.n : Int))))
      (nmend_s2 G Q n0_1 i1_1 kid4_1 false))
def nmend (G : BtD κ) (n0 : (Option Addr)) (i1 : Int) (Q : K) : K :=
  Nn n0 fun t11 =>
  Ld (t11.add 1) Sl.val fun t13 =>
  Idx t13 i1 1 fun t15 =>
  Ld t15 Value.pointer fun t16 =>
  Nn t16 fun t92 =>
  Ld t92 Sl.val fun t94 =>
  Ite (decide ((2 : Int) ≤ (t94.n : Int)))
    (Q)
    (Ite (decide ((0 : Int) < i1))
      (Ld (t11.add 1) Sl.val fun t104 =>
      Ar (IntKind.wrap .i64 (i1 - 1)) fun t106 =>
      Idx t104 t106 1 fun t107 =>
      Ld t107 Value.pointer fun t108 =>
      Nn t108 fun t109 =>
      Ld t109 Sl.val fun t111 =>
      nmend_s1 G Q t11 i1 t92 (decide ((2 : Int) < (t111.n : Int))))
      (nmend_s1 G Q t11 i1 t92 false))
def nlast (G : BtD κ) (n0 : (Option Addr)) (Q : (Array Value) → K) : K :=
  New G.tI (G.kz :: G.vz).toArray fun t2 =>
  Nn n0 fun t7 =>
  Ld (t7.add 1) Sl.val fun t9 =>
  Ar (IntKind.wrap .i64 ((t9.n : Int) - 1)) fun t11 =>
  Ite (decide ((0 : Int) ≤ t11))
    (Ld (t7.add 1) Sl.val fun t17 =>
    Idx t17 t11 1 fun t19 =>
    Ld t19 Value.pointer fun t20 =>
    G.nlastC t20 fun t21 =>
    New G.tI (G.kz :: G.vz).toArray fun x4 =>
    StN x4 (G.nv + 1) t21 <|
    G.nmendC (some t7) t11 <|
    LdN x4 (G.nv + 1) fun t25 =>
    StN t2 (G.nv + 1) t25 <|
    LdN t2 (G.nv + 1) fun r0 =>
    Q r0)
    (Dr <| WithS fun S =>
    LdS S t7 Sl.val fun t29 =>
    LdS S t7 Sl.val fun t33 =>
    Ar (IntKind.wrap .i64 ((t33.n : Int) - 1)) fun t35 =>
    Idx t29 t35 (G.nv + 1) fun t36 =>
    LdNS S t36 (G.nv + 1) fun t37 =>
    New G.tI (G.kz :: G.vz).toArray fun x5 =>
    Sv S <|
    StN x5 (G.nv + 1) t37 <|
    Dr <|
    Ld t7 Sl.val fun t42 =>
    Ld t7 Sl.val fun t46 =>
    Ar (IntKind.wrap .i64 ((t46.n : Int) - 1)) fun t48 =>
    Slc t42 0 t48 (t42.c : Int) (G.nv + 1) fun t49 =>
    St t7 (Sl.val t49) <|
    LdN x5 (G.nv + 1) fun t52 =>
    StN t2 (G.nv + 1) t52 <|
    LdN t2 (G.nv + 1) fun r0 =>
    Q r0)
def ntake_s1 (G : BtD κ) (Q : (Array Value) → Bool → K)  (value4_1 : Addr) (ok5_1 : Bool) : K :=
  LdN value4_1 G.nv fun t94 =>
  StN value4_1 G.nv t94 <|
  LdN value4_1 G.nv fun r0 =>
  Q r0 ok5_1
def ntake_s2 (G : BtD κ) (Q : (Array Value) → Bool → K)  (n0_2 : (Option Addr)) (key1_2 : κ) (value4_2 : Addr) (i6_2 : Int) (found7_2 : Bool) (t14_2 : Bool) : K :=
  Ite t14_2
    (Nn n0_2 fun t25 =>
    Ld t25 Sl.val fun t27 =>
    Idx t27 i6_2 (G.nv + 1) fun t29 =>
    LdN (t29.add 1) G.nv fun t31 =>
    StN value4_2 G.nv t31 <|
    Ld t25 Sl.val fun t36 =>
    Ar (IntKind.wrap .i64 (i6_2 + 1)) fun t39 =>
    G.delIC t36 i6_2 t39 fun t40 =>
    St t25 (Sl.val t40) <|
    LdN value4_2 G.nv fun t43 =>
    StN value4_2 G.nv t43 <|
    LdN value4_2 G.nv fun r0 =>
    Q r0 true)
    (Ite found7_2
      (Nn n0_2 fun t47 =>
      Ld t47 Sl.val fun t49 =>
      Idx t49 i6_2 (G.nv + 1) fun t51 =>
      LdN (t51.add 1) G.nv fun t53 =>
      StN value4_2 G.nv t53 <|
      Dr <| WithS fun S =>
      LdS S t47 Sl.val fun t57 =>
      LdS S (t47.add 1) Sl.val fun t62 =>
      Idx t62 i6_2 1 fun t64 =>
      LdS S t64 Value.pointer fun t65 =>
      G.nlastC t65 fun t66 =>
      Sv S <|
      Idx t57 i6_2 (G.nv + 1) fun t67 =>
      StN t67 (G.nv + 1) t66 <|
      G.nmendC (some t47) i6_2 <|
      LdN value4_2 G.nv fun t71 =>
      StN value4_2 G.nv t71 <|
      LdN value4_2 G.nv fun r0 =>
      Q r0 true)
      (Nn n0_2 fun t74 =>
      Ld (t74.add 1) Sl.val fun t76 =>
      Ite (decide ((0 : Int) < (t76.n : Int)))
        (Ld (t74.add 1) Sl.val fun t83 =>
        Idx t83 i6_2 1 fun t85 =>
        Ld t85 Value.pointer fun t86 =>
        G.ntakeC t86 key1_2 fun t88x0 t88x1 =>
        StN value4_2 G.nv t88x0 <|
        G.nmendC (some t74) i6_2 <|
        ntake_s1 G Q value4_2 t88x1)
        (ntake_s1 G Q value4_2 false)))
def ntake (G : BtD κ) (n0 : (Option Addr)) (key1 : κ) (Q : (Array Value) → Bool → K) : K :=
  New G.tV G.vz.toArray fun value4 =>
  G.nsearchC n0 key1 fun t11x0 t11x1 =>
  Ite t11x1
    (Nn n0 fun t18 =>
    Ld (t18.add 1) Sl.val fun t20 =>
    ntake_s2 G Q (some t18) key1 value4 t11x0 true (decide ((t20.n : Int) = 0)))
    (ntake_s2 G Q n0 key1 value4 t11x0 false false)
def tdel_s2 (G : BtD κ) (Q : (Array Value) → Bool → K)  (value4_2 : Addr) (ok5_2 : Bool) : K :=
  LdN value4_2 G.nv fun t55 =>
  StN value4_2 G.nv t55 <|
  LdN value4_2 G.nv fun r0 =>
  Q r0 ok5_2
def tdel_s1 (G : BtD κ) (Q : (Array Value) → Bool → K)  (t0_1 : Addr) (value4_1 : Addr) (ok5_1 : Bool) : K :=
  Ite ok5_1
    (Ld (t0_1.add 1) (Value.int .i64) fun t51 =>
    Ar (IntKind.wrap .i64 (t51 - 1)) fun t52 =>
    St (t0_1.add 1) (.int .i64 t52) <|
    tdel_s2 G Q value4_1 ok5_1)
    (tdel_s2 G Q value4_1 ok5_1)
def tdel_s3 (G : BtD κ) (Q : (Array Value) → Bool → K)  (t0_3 : Addr) (value4_3 : Addr) (ok5_3 : Bool) (t34_3 : Bool) : K :=
  Ite t34_3
    (Ld t0_3 Value.pointer fun t39 =>
    Nn t39 fun t40 =>
    Ld (t40.add 1) Sl.val fun t42 =>
    Idx t42 0 1 fun t43 =>
    Ld t43 Value.pointer fun t44 =>
    St t0_3 (.pointer t44) <|
    tdel_s1 G Q t0_3 value4_3 ok5_3)
    (tdel_s1 G Q t0_3 value4_3 ok5_3)
def tdel (G : BtD κ) (t0 : (Option Addr)) (key1 : κ) (Q : (Array Value) → Bool → K) : K :=
  New G.tV G.vz.toArray fun value4 =>
  Nn t0 fun t8 =>
  Ld t8 Value.pointer fun t10 =>
  G.ntakeC t10 key1 fun t12x0 t12x1 =>
  StN value4 G.nv t12x0 <|
  Ld t8 Value.pointer fun t18 =>
  Nn t18 fun t19 =>
  Ld t19 Sl.val fun t21 =>
  Ite (decide ((t21.n : Int) = 0))
    (Ld t8 Value.pointer fun t28 =>
    Nn t28 fun t29 =>
    Ld (t29.add 1) Sl.val fun t31 =>
    tdel_s3 G Q t8 value4 t12x1 (decide ((t31.n : Int) = 1)))
    (tdel_s3 G Q t8 value4 t12x1 false)
end
/-- What is asked of Delete's functions. -/
structure BtDOk {κ : Type} (G : BtD κ) (c : κ → κ → Int) : Prop extends BtOk G.toBtT c where
  delI : ∃ Z, ∀ s i j Q w, delK G.P G.tSI Z (G.nv + 1) s i j Q w → G.delIC s i j Q w
  delK : ∃ Z, ∀ s i j Q w, delK G.P G.tSK Z 1 s i j Q w → G.delKC s i j Q w
  take : ∀ n k Q w, ntake G n k Q w → G.ntakeC n k Q w
  last : ∀ n Q w, nlast G n Q w → G.nlastC n Q w
  mend : ∀ n i Q w, nmend G n i Q w → G.nmendC n i Q w
end Bt
end Go.Sep
/- A B-tree: what mend does. Holds for every program. -/
namespace Go.Sep
open Go Go.RowKit
set_option linter.unusedSimpArgs false
set_option linter.unusedVariables false
namespace Bt
section
variable {κ : Type} {B : World} {Γ Γ0 Δ : List HProp}
/-- An element that is read in every state that bears this. -/
theorem s_ldElS {α : Type} {f : α → List Value} {esz E : Nat} {s : Sl} {L : List α} {i : Nat} {x : α} {k : Array Value → K} (hf : ∀ x, (f x).length = esz) (hx : L[i]? = some x) (h : HG B Γ (k (f x).toArray)) [o : OwnS s Γ0 (SlC E esz s (L.flatMap f)) Δ] : HG B Γ (LdNS (Holds B Γ0) (elA s i esz) esz k) := fun w hw => by
  refine ⟨(f x).toArray, by simp [hf], fun w' hw' => ?_, h w hw⟩
  obtain ⟨cs, hcs, hrd, hk⟩ := s_ldEl (s := s) (i := i) (k := fun cs _ => cs = (f x).toArray) (E := E) (Γ := Γ0) (B := B) hf hx (fun _ _ => rfl) w' hw'
  rw [← hk]; exact hrd
theorem s_ldES1 {α : Type} {c : α → Value} {E : Nat} {s : Sl} {L : List α} {i : Nat} {x : α} {k : α → K} (hx : L[i]? = some x) (h : HG B Γ (k x)) [o : OwnS s Γ0 (SlC E 1 s (L.map c)) Δ] : HG B Γ (LdS (Holds B Γ0) (elA s i 1) c k) := fun w hw => by
  refine ⟨x, fun w' hw' => ?_, h w hw⟩
  obtain ⟨h0, h1, h2, h3, h4⟩ := own_rd hw' (p := o)
  rw [← add0 (elA s i 1)]
  exact el_cell (vs := L.map c) (off := 0) h0 h3 (by simp [hx])
/-- An element is another one. -/
theorem s_stEl {α : Type} {f : α → List Value} {esz E : Nat} {s : Sl} {A C : List α} {x y : α} {k : K} (hf : ∀ x, (f x).length = esz) (hfl : (f y).all flatV = true) (h : HG B (SlC E esz s ((A ++ y :: C).flatMap f) :: Δ) k) [o : OwnS s Γ (SlC E esz s ((A ++ x :: C).flatMap f)) Δ] : HG B Γ (StN (elA s A.length esz) esz (f y).toArray k) := by
  rw [← add0 (elA s A.length esz)]
  refine s_stEN (s := s) (us := f y) ?_ (hf y) ?_ hfl
  · have e : layAt ((A ++ x :: C).flatMap f) (A.length * esz + 0) (f y) = (A ++ y :: C).flatMap f := by
      have e1 : (A ++ x :: C).flatMap f = A.flatMap f ++ (f x ++ C.flatMap f) := by simp
      have e2 : (A ++ y :: C).flatMap f = A.flatMap f ++ (f y ++ C.flatMap f) := by simp
      rw [e1, e2, layAt_mid (by simp [flatMap_len f esz hf]) (by rw [hf, hf])]
    rw [e]; exact h
  · have e1 : ((A ++ x :: C).flatMap f).length = (A.length + (C.length + 1)) * esz := by rw [flatMap_len f esz hf]; simp
    rw [e1, Nat.add_mul, Nat.add_mul]; omega
variable {G : BtT κ} {c : κ → κ → Int}
theorem wv_nil (its : List G.It) : wv its ([] : List (Kid G)) = its := by cases its <;> rfl
theorem wv_app {d : Nat} {i1 i2 : List G.It} {k1 k2 : List (Kid G)} {x : G.It} (h1 : Fit d i1 k1) (h2 : Fit d i2 k2) : wv (i1 ++ x :: i2) (k1 ++ k2) = wv i1 k1 ++ x :: wv i2 k2 := by
  cases d with
  | zero =>
    have e1 : k1 = [] := h1
    have e2 : k2 = [] := h2
    subst e1; subst e2
    simp only [List.append_nil, wv_nil]
  | succ d =>
    obtain ⟨q1, ps1, rfl, rfl⟩ := zip_ps h1
    obtain ⟨q2, ps2, rfl, rfl⟩ := zip_ps h2
    have e : wv (ps1.map Prod.fst ++ x :: ps2.map Prod.fst) (q1 :: ps1.map Prod.snd ++ q2 :: ps2.map Prod.snd) = psL q1 (ps1 ++ (x, q2) :: ps2) := by
      rw [← wv_ps]; simp
    rw [e, wv_ps, wv_ps]
    simp [psL]
theorem fit_app {d : Nat} {i1 i2 : List G.It} {k1 k2 : List (Kid G)} {x : G.It} (h1 : Fit d i1 k1) (h2 : Fit d i2 k2) : Fit d (i1 ++ x :: i2) (k1 ++ k2) := by
  cases d with
  | zero =>
    have e1 : k1 = [] := h1
    have e2 : k2 = [] := h2
    subst e1; subst e2; rfl
  | succ d =>
    simp only [Fit, List.length_append, List.length_cons] at h1 h2 ⊢
    omega
theorem fit_split {d : Nat} {i1 i2 : List G.It} {ks : List (Kid G)} {x : G.It} (h : Fit d (i1 ++ x :: i2) ks) : ∃ k1 k2, ks = k1 ++ k2 ∧ Fit d i1 k1 ∧ Fit d i2 k2 := by
  cases d with
  | zero => exact ⟨[], [], h, rfl, rfl⟩
  | succ d =>
    simp only [Fit, List.length_append, List.length_cons] at h
    exact ⟨ks.take (i1.length + 1), ks.drop (i1.length + 1), (List.take_append_drop _ _).symm, by simp [Fit]; omega, by simp [Fit]; omega⟩
theorem kids_join {d : Nat} {A C : List (Kid G)} : ∀ w, Holds B (kidsD G d A :: kidsD G d C :: Γ) w ↔ Holds B (kidsD G d (A ++ C) :: Γ) w := fun w => by
  cases d with
  | zero =>
    show Holds B (Sep.stars [] :: Sep.stars [] :: Γ) w ↔ Holds B (Sep.stars [] :: Γ) w
    exact Holds.flat (Δ := [])
  | succ d =>
    show Holds B (kidsR G d A :: kidsR G d C :: Γ) w ↔ Holds B (kidsR G d (A ++ C) :: Γ) w
    constructor
    · intro h
      have h1 := Holds.flat.1 h
      have h2 := Holds.flat.1 (h1.perm (List.perm_middle (a := kidsR G d C) (l₁ := A.map fun q => NodeR G d 2 q.1 q.2) (l₂ := Γ)))
      refine Holds.flat.2 (h2.perm ?_)
      rw [List.map_append, List.append_assoc]
      rw [← List.append_assoc, ← List.append_assoc]
      exact List.perm_append_comm.append_right Γ
    · intro h
      have := s_kids_split (k := fun w => Holds B (kidsR G d A :: kidsR G d C :: Γ) w) (fun w h => h) w h
      exact this
theorem s_join {d : Nat} {A C : List (Kid G)} {k : K} (h : HG B (kidsD G d (A ++ C) :: Γ) k) : HG B (kidsD G d A :: kidsD G d C :: Γ) k := fun w hw => h w ((kids_join w).1 hw)
theorem s_part {d : Nat} {A C : List (Kid G)} {k : K} (h : HG B (kidsD G d A :: kidsD G d C :: Γ) k) : HG B (kidsD G d (A ++ C) :: Γ) k := fun w hw => h w ((kids_join w).2 hw)
end
end Bt
end Go.Sep
/- A B-tree: a kid is filled up from its left, its right, or joined. Holds for every program. -/
namespace Go.Sep
open Go Go.RowKit
set_option linter.unusedSimpArgs false
set_option linter.unusedVariables false
namespace Bt
section
variable {κ : Type} {G : BtD κ} {c : κ → κ → Int} {B : World} {Γ Δ : List HProp}
theorem its_n {s : Sl} {its : List G.It} (h : (its.flatMap G.f).length = s.n * (G.nv + 1)) : s.n = its.length := by
  rw [flatMap_len G.f _ G.f_len] at h
  exact (Nat.eq_of_mul_eq_mul_right (by omega) h).symm
theorem kps_n {s : Sl} {kp : List (Option Addr)} (h : (kp.map Value.pointer).length = s.n * 1) : s.n = kp.length := by rw [kp_len] at h; omega
theorem flat_f (ok : BtOk G.toBtT c) (x : G.It) : (G.f x).all flatV = true := List.all_eq_true.2 (f_flat ok x)
theorem ins_first {its : List G.It} {x : G.It} : (its.flatMap G.f).take (0 * (G.nv + 1)) ++ G.f x ++ (its.flatMap G.f).drop (0 * (G.nv + 1)) = (x :: its).flatMap G.f := by simp
theorem ins_firstK {kp : List (Option Addr)} {x : Option Addr} : (kp.map Value.pointer).take (0 * 1) ++ [Value.pointer x] ++ (kp.map Value.pointer).drop (0 * 1) = (x :: kp).map Value.pointer := by simp
theorem s_shrinkI {s : Sl} {its : List G.It} {m : Nat} {k : K} (hm : m ≤ s.n) (hc : s.n ≤ s.c) (h : HG B (itsR G.toBtT ⟨s.a, m, s.c⟩ (its.take m) :: Δ) k) [p : OwnS s Γ (itsR G.toBtT s its) Δ] : HG B Γ k := by
  refine s_shrink (s := s) (m := m) (c' := s.c) hm (Nat.le_trans hm hc) (Nat.le_refl _) ?_
  rw [flatMap_take G.f_len]
  exact h
theorem s_shrinkK {s : Sl} {kp : List (Option Addr)} {m : Nat} {k : K} (hm : m ≤ s.n) (hc : s.n ≤ s.c) (h : HG B (kpsR G.toBtT ⟨s.a, m, s.c⟩ (kp.take m) :: Δ) k) [p : OwnS s Γ (kpsR G.toBtT s kp) Δ] : HG B Γ k := by
  refine s_shrink (s := s) (m := m) (c' := s.c) hm (Nat.le_trans hm hc) (Nat.le_refl _) ?_
  rw [show (kp.map Value.pointer).take (m * 1) = (kp.take m).map Value.pointer by simp]
  exact h
theorem s_turnL (ok : BtDOk G c) {d n : Nat} {s kd sp kp sq kq : Sl} {A C : List (Kid G.toBtT)} {p q : Kid G.toBtT} {IA IC ip iq : List G.It} {x y : G.It} {cp cq : List (Kid G.toBtT)} {i : Int} {Q : K}
    (hi : i = ((A.length + 1 : Nat) : Int)) (hA : IA.length = A.length) (hl : IA.length + IC.length ≤ 5) (hC : C.length = IC.length) (hp : 2 ≤ ip.length ∧ ip.length ≤ 5) (hq : iq.length ≤ 1) (hfp : Fit d (ip ++ [y]) cp) (hfq : Fit d iq cq)
    (h : ∀ P' Q', P' ++ y :: Q' = wv (ip ++ [y]) cp ++ x :: wv iq cq → ∀ s' kd', HG B (nodeB G.toBtT n s' kd' :: itsR G.toBtT s' (IA ++ y :: IC) :: kpsR G.toBtT kd' ((A ++ p :: q :: C).map ptr) :: NodeR G.toBtT d 2 p.1 P' :: NodeR G.toBtT d 2 q.1 Q' :: Γ) Q) :
    HG B (nodeB G.toBtT n s kd :: itsR G.toBtT s (IA ++ x :: IC) :: kpsR G.toBtT kd ((A ++ p :: q :: C).map ptr) :: rawL G.toBtT d p.1 sp kp (ip ++ [y]) cp (rawL G.toBtT d q.1 sq kq iq cq Γ)) (nmend_s1 G Q ⟨n, 0, none⟩ i ⟨q.1, 0, none⟩ true) := by
  subst hi
  have okT := ok.toBtOk
  obtain ⟨cp', kz, rfl, hf1, hfz⟩ := fit_split (i1 := ip) (i2 := []) hfp
  refine s_cap s fun a1 a2 a3 a4 => ?_
  refine s_cap kd fun b1 b2 b3 b4 => ?_
  refine s_cap sp fun c1 c2 c3 c4 => ?_
  refine s_cap kp fun d1 d2 d3 d4 => ?_
  refine s_cap sq fun e1 e2 e3 e4 => ?_
  refine s_cap kq fun f1 f2 f3 f4 => ?_
  have hsn := its_n a1
  have hkn := kps_n b1
  have hspn := its_n c1
  have hkpn := kps_n d1
  have hsqn := its_n e1
  have hkqn := kps_n f1
  simp only [List.length_append, List.length_cons, List.length_nil, List.length_map] at hsn hkn hspn hkpn hsqn hkqn
  unfold nmend_s1
  refine s_t ?_
  refine s_ld (b := n) (x := kd) ?_
  refine s_ai ?_
  refine s_idx (s := kd) (i := A.length) ?_
  refine s_ldE0 (s := kd) (x := ptr p) (by simp) ?_
  refine s_nn ?_
  refine s_ld (b := p.1) (x := sp) ?_
  refine s_ai ?_
  refine s_dr ?_
  refine s_ws ?_
  refine s_ai ?_
  refine s_ldS (b := q.1) (x := sq) ?_
  refine s_ldS (b := n) (x := s) ?_
  refine s_idx (s := s) (i := A.length) ?_
  refine s_ldElS (s := s) (x := x) G.f_len (by rw [← hA]; simp) ?_
  refine s_bld1 ?_ (by simp [okT.vz.1]) (G.f_len _)
  refine s_new fun t => ?_
  refine s_sv ?_
  obtain ⟨R, rot, hins⟩ := okT.insI
  refine fun w hw => hins _ _ _ _ _ ?_
  refine hg hw ?_
  clear hw w
  refine s_ins (s := sq) (i := 0) (t := t) (by omega) (by omega) (G.f_len _) (by omega) (fl_flat okT _) (f_flat okT _) (fun sq' hsq' => ?_) okT.TI okT.ZI
  rw [ins_first]
  refine s_st (b := q.1) ?_
  refine s_dr ?_
  refine s_ai ?_
  refine s_ld (b := n) (x := s) ?_
  refine s_ld (b := p.1) (x := sp) ?_
  refine s_idx (s := sp) (i := ip.length) ?_
  refine s_ldEl (s := sp) (x := y) G.f_len (by simp) ?_
  refine s_idx (s := s) (i := IA.length) ?_
  refine s_stEl (s := s) (A := IA) (x := x) (y := y) G.f_len (flat_f okT y) ?_
  refine s_ld (b := p.1) (x := sp) ?_
  refine s_slc (lo := 0) (hi := ip.length) (mx := sp.c) ?_
  rw [cut0 c3]
  refine s_st (b := p.1) ?_
  refine s_shrinkI (s := sp) (m := ip.length) (by omega) c2 ?_
  rw [List.take_left]
  refine s_ld (b := p.1) (x := kp) ?_
  have fin : ∀ sp2 kp2 sq2 kq2, HG B (rawL G.toBtT d p.1 sp2 kp2 ip cp' (rawL G.toBtT d q.1 sq2 kq2 (x :: iq) (kz ++ cq) (nodeB G.toBtT n s kd :: itsR G.toBtT s (IA ++ y :: IC) :: kpsR G.toBtT kd ((A ++ p :: q :: C).map ptr) :: Γ))) Q := fun sp2 kp2 sq2 kq2 => by
    refine s_unraw (m := 2) hf1 hp.2 (fun _ => .inr fun h => by rw [h] at hp; simp at hp) ?_
    refine s_end (Δ := rawL G.toBtT d q.1 sq2 kq2 (x :: iq) (kz ++ cq) (NodeR G.toBtT d 2 p.1 (wv ip cp') :: nodeB G.toBtT n s kd :: itsR G.toBtT s (IA ++ y :: IC) :: kpsR G.toBtT kd ((A ++ p :: q :: C).map ptr) :: Γ)) ?_
    refine s_unraw (m := 2) (fit_app (i1 := []) hfz hfq) (by simp; omega) (fun _ => .inr (by simp)) ?_
    refine s_end (h (wv ip cp') (wv (x :: iq) (kz ++ cq)) ?_ s kd)
    rw [wv_app hf1 hfz, show x :: iq = [] ++ x :: iq from rfl, wv_app hfz hfq]
    simp
  cases d with
  | zero =>
    have e1 : cp' = [] := hf1
    have e2 : kz = [] := hfz
    have e3 : cq = [] := hfq
    subst e1; subst e2; subst e3
    refine s_f ?_ (by simp at hkpn; simp [hkpn])
    simp only [List.append_nil] at fin ⊢
    exact s_end (fin ⟨sp.a, ip.length, sp.c⟩ kp sq' kq)
  | succ d =>
    obtain ⟨z, rfl⟩ : ∃ z, kz = [z] := List.length_eq_one_iff.1 hfz
    have hcl : cp'.length = ip.length + 1 := hf1
    have hcql : cq.length = iq.length + 1 := hfq
    simp only [List.length_cons, List.length_nil] at hkpn
    refine s_t ?_ (by simp; omega)
    refine s_dr ?_
    refine s_ws ?_
    refine s_ai ?_
    refine s_ldS (b := q.1) (x := kq) ?_
    refine s_ldS (b := p.1) (x := kp) ?_
    refine s_idx (s := kp) (i := ip.length + 1) ?_
    refine s_ldES1 (s := kp) (c := Value.pointer) (L := (cp' ++ [z]).map ptr) (x := ptr z) (by rw [← hcl]; simp) ?_
    refine s_new fun t2 => ?_
    refine s_sv ?_
    obtain ⟨R2, rot2, hins2⟩ := okT.insK
    refine fun w hw => hins2 _ _ _ _ _ ?_
    refine hg hw ?_
    clear hw w
    refine s_ins (s := kq) (i := 0) (t := t2) (us := [Value.pointer (ptr z)]) (by omega) (by omega) rfl (by omega) (kp_flat _) (by simp [flatV]) (fun kq' hkq' => ?_) okT.TK okT.ZK
    rw [ins_firstK, show ptr z :: cq.map ptr = ([z] ++ cq).map ptr from rfl]
    refine s_st (b := q.1) ?_
    refine s_ld (b := p.1) (x := kp) ?_
    refine s_ai ?_
    refine s_slc (lo := 0) (hi := ip.length + 1) (mx := kp.c) ?_
    rw [cut0 d3]
    refine s_st (b := p.1) ?_
    refine s_shrinkK (s := kp) (m := ip.length + 1) (by omega) d2 ?_
    rw [show ((cp' ++ [z]).map ptr).take (ip.length + 1) = cp'.map ptr by rw [List.map_append]; exact List.take_left' (by simp [hcl])]
    refine s_pick (kidsD G.toBtT (d + 1) (cp' ++ [z])) ?_
    refine s_part ?_
    refine s_end (Δ := kidsD G.toBtT (d + 1) [z] :: kidsD G.toBtT (d + 1) cq :: kidsD G.toBtT (d + 1) cp' :: nodeB G.toBtT p.1 ⟨sp.a, ip.length, sp.c⟩ ⟨kp.a, ip.length + 1, kp.c⟩ :: itsR G.toBtT ⟨sp.a, ip.length, sp.c⟩ ip :: kpsR G.toBtT ⟨kp.a, ip.length + 1, kp.c⟩ (cp'.map ptr) :: nodeB G.toBtT q.1 sq' kq' :: itsR G.toBtT sq' (x :: iq) :: kpsR G.toBtT kq' (([z] ++ cq).map ptr) :: nodeB G.toBtT n s kd :: itsR G.toBtT s (IA ++ y :: IC) :: kpsR G.toBtT kd ((A ++ p :: q :: C).map ptr) :: Γ) ?_
    refine s_join ?_
    exact s_end (fin ⟨sp.a, ip.length, sp.c⟩ ⟨kp.a, ip.length + 1, kp.c⟩ sq' kq')
end
end Bt
end Go.Sep
/- A B-tree: a kid is filled up from its right, or joined. Holds for every program. -/
namespace Go.Sep
open Go Go.RowKit
set_option linter.unusedSimpArgs false
set_option linter.unusedVariables false
namespace Bt
section
variable {κ : Type} {G : BtD κ} {c : κ → κ → Int} {B : World} {Γ Δ : List HProp}
theorem kp_at {L : List (Kid G.toBtT)} {i : Nat} {q : Kid G.toBtT} (h : L[i]? = some q) : ((L.map ptr).map Value.pointer)[i * 1]? = some (Value.pointer (ptr q)) := by simp [h]
theorem at_mid2 {α : Type} {A C : List α} {x y : α} : (A ++ x :: y :: C)[A.length + 1]? = some y := by
  rw [List.getElem?_append_right (by omega), show A.length + 1 - A.length = 1 by omega]; rfl
theorem del_first {x : G.It} {its : List G.It} : ((x :: its).flatMap G.f).take (0 * (G.nv + 1)) ++ ((x :: its).flatMap G.f).drop (1 * (G.nv + 1)) = its.flatMap G.f := by
  rw [flatMap_drop G.f_len]; simp
theorem del_firstK {p : Kid G.toBtT} {kp : List (Kid G.toBtT)} : (((p :: kp).map ptr).map Value.pointer).take (0 * 1) ++ (((p :: kp).map ptr).map Value.pointer).drop (1 * 1) = (kp.map ptr).map Value.pointer := by simp
theorem del_mid {A C : List G.It} {x : G.It} : ((A ++ x :: C).flatMap G.f).take (A.length * (G.nv + 1)) ++ ((A ++ x :: C).flatMap G.f).drop ((A.length + 1) * (G.nv + 1)) = (A ++ C).flatMap G.f := by
  rw [flatMap_take G.f_len, flatMap_drop G.f_len, List.take_left, show A ++ x :: C = (A ++ [x]) ++ C by simp, List.drop_left' (by simp)]; simp
theorem del_midK {A C : List (Kid G.toBtT)} {p q : Kid G.toBtT} : (((A ++ p :: q :: C).map ptr).map Value.pointer).take ((A.length + 1) * 1) ++ (((A ++ p :: q :: C).map ptr).map Value.pointer).drop ((A.length + 2) * 1) = ((A ++ p :: C).map ptr).map Value.pointer := by
  rw [Nat.mul_one, Nat.mul_one, ← List.map_take, ← List.map_take, ← List.map_drop, ← List.map_drop]
  rw [show A ++ p :: q :: C = (A ++ [p]) ++ q :: C by simp, List.take_left' (by simp), show (A ++ [p]) ++ q :: C = (A ++ [p, q]) ++ C by simp, List.drop_left' (by simp)]
  simp

theorem s_turnR (ok : BtDOk G c) {d n : Nat} {s kd sr kr sq kq : Sl} {A C : List (Kid G.toBtT)} {q r : Kid G.toBtT} {IA IC ir iq : List G.It} {x y : G.It} {cr cq : List (Kid G.toBtT)} {i : Int} {Q : K}
    (hi : i = (A.length : Int)) (hA : IA.length = A.length) (hl : IA.length + IC.length ≤ 5) (hC : C.length = IC.length) (hr : 1 ≤ ir.length ∧ ir.length ≤ 5) (hq : iq.length ≤ 1) (hfr : Fit d (y :: ir) cr) (hfq : Fit d iq cq)
    (h : ∀ Q' R', Q' ++ y :: R' = wv iq cq ++ x :: wv (y :: ir) cr → ∀ s' kd', HG B (nodeB G.toBtT n s' kd' :: itsR G.toBtT s' (IA ++ y :: IC) :: kpsR G.toBtT kd' ((A ++ q :: r :: C).map ptr) :: NodeR G.toBtT d 2 q.1 Q' :: NodeR G.toBtT d 2 r.1 R' :: Γ) Q) :
    HG B (nodeB G.toBtT n s kd :: itsR G.toBtT s (IA ++ x :: IC) :: kpsR G.toBtT kd ((A ++ q :: r :: C).map ptr) :: rawL G.toBtT d q.1 sq kq iq cq (rawL G.toBtT d r.1 sr kr (y :: ir) cr Γ)) (nmend_s2 G Q ⟨n, 0, none⟩ i ⟨q.1, 0, none⟩ true) := by
  subst hi
  have okT := ok.toBtOk
  obtain ⟨cz, cr', rfl, hfz, hf2⟩ := fit_split (i1 := []) (x := y) (i2 := ir) hfr
  refine s_cap s fun a1 a2 a3 a4 => ?_
  refine s_cap kd fun b1 b2 b3 b4 => ?_
  refine s_cap sr fun c1 c2 c3 c4 => ?_
  refine s_cap kr fun d1 d2 d3 d4 => ?_
  refine s_cap sq fun e1 e2 e3 e4 => ?_
  refine s_cap kq fun f1 f2 f3 f4 => ?_
  have hsn := its_n a1
  have hkn := kps_n b1
  have hsrn := its_n c1
  have hkrn := kps_n d1
  have hsqn := its_n e1
  have hkqn := kps_n f1
  simp only [List.length_append, List.length_cons, List.length_nil, List.length_map] at hsn hkn hsrn hkrn hsqn hkqn
  unfold nmend_s2
  repeat first | refine s_nx ?_ | refine s_ai ?_
  refine s_idx (s := kd) (i := A.length + 1) ?_
  refine s_ldE0 (s := kd) (x := ptr r) (kp_at at_mid2) ?_
  repeat first | refine s_nx ?_ | refine s_ai ?_
  refine s_idx (s := s) (i := A.length) ?_
  refine s_ldElS (s := s) (x := x) G.f_len (by rw [← hA]; simp) ?_
  refine s_bld1 ?_ (by simp [okT.vz.1]) (G.f_len _)
  refine s_new fun t => ?_
  repeat refine s_nx ?_
  refine s_append (s := sq) (us := G.f x) (blk_rd (G.f_len x)) (f_flat okT x) (by simp only; omega) (hT := okT.TI) fun sq' hsq' => ?_
  rw [show iq.flatMap G.f ++ G.f x = (iq ++ [x]).flatMap G.f by simp]
  repeat refine s_nx ?_
  refine s_nn ?_
  repeat refine s_nx ?_
  refine s_idx (s := sr) (i := 0) ?_
  refine s_ldEl (s := sr) (x := y) G.f_len rfl ?_
  refine s_idx (s := s) (i := IA.length) ?_
  refine s_stEl (s := s) (A := IA) (x := x) (y := y) G.f_len (flat_f okT y) ?_
  repeat refine s_nx ?_
  obtain ⟨Z, hdel⟩ := ok.delI
  refine fun w hw => hdel _ _ _ _ _ ?_
  refine hg hw ?_
  clear hw w
  refine s_del (s := sr) (i := 0) (j := 1) (by omega) (by omega) (by omega) (fl_flat okT _) (fun sr' hsr' => ?_) okT.TI
  rw [del_first]
  repeat refine s_nx ?_
  have fin : ∀ sr2 kr2 sq2 kq2, HG B (rawL G.toBtT d q.1 sq2 kq2 (iq ++ [x]) (cq ++ cz) (rawL G.toBtT d r.1 sr2 kr2 ir cr' (nodeB G.toBtT n s kd :: itsR G.toBtT s (IA ++ y :: IC) :: kpsR G.toBtT kd ((A ++ q :: r :: C).map ptr) :: Γ))) Q := fun sr2 kr2 sq2 kq2 => by
    refine s_unraw (m := 2) (fit_app (i2 := []) hfq hfz) (by simp; omega) (fun _ => .inr (by simp)) ?_
    refine s_pick (kidsD G.toBtT d cr') ?_
    refine s_ownS kr2 ?_
    refine s_ownS sr2 ?_
    refine s_own r.1 ?_
    refine s_unraw (m := 2) hf2 hr.2 (fun _ => .inr fun h => by rw [h] at hr; simp at hr) ?_
    refine s_end (h (wv (iq ++ [x]) (cq ++ cz)) (wv ir cr') ?_ s kd)
    rw [wv_app (i2 := []) hfq hfz, show y :: ir = [] ++ y :: ir from rfl, wv_app hfz hf2]
    simp
  cases d with
  | zero =>
    have e1 : cr' = [] := hf2
    have e2 : cz = [] := hfz
    have e3 : cq = [] := hfq
    subst e1; subst e2; subst e3
    refine s_f ?_ (by simp at hkrn; simp [hkrn])
    simp only [List.append_nil] at fin ⊢
    exact s_end (fin sr' kr sq' kq)
  | succ d =>
    obtain ⟨z, rfl⟩ : ∃ z, cz = [z] := List.length_eq_one_iff.1 hfz
    have hcl : cr'.length = ir.length + 1 := hf2
    have hcql : cq.length = iq.length + 1 := hfq
    simp only [List.length_cons, List.length_nil] at hkrn
    refine s_t ?_ (by simp; omega)
    repeat refine s_nx ?_
    refine s_idx (s := kr) (i := 0) ?_
    refine s_ldES1 (s := kr) (c := Value.pointer) (L := ([z] ++ cr').map ptr) (x := ptr z) (by simp) ?_
    refine s_new fun t2 => ?_
    repeat refine s_nx ?_
    refine s_append (s := kq) (us := [Value.pointer (ptr z)]) (blk_rd rfl) (by simp [flatV]) (by simp only; omega) (hT := okT.TK) fun kq' hkq' => ?_
    rw [show (cq.map ptr).map Value.pointer ++ [Value.pointer (ptr z)] = ((cq ++ [z]).map ptr).map Value.pointer by simp]
    repeat refine s_nx ?_
    obtain ⟨Z2, hdel2⟩ := ok.delK
    refine fun w hw => hdel2 _ _ _ _ _ ?_
    refine hg hw ?_
    clear hw w
    refine s_del (s := kr) (i := 0) (j := 1) (by omega) (by omega) (by omega) (kp_flat _) (fun kr' hkr' => ?_) okT.TK
    rw [show (([z] ++ cr').map ptr) = ((z :: cr').map ptr) from rfl, del_firstK]
    repeat refine s_nx ?_
    refine s_pick (kidsD G.toBtT (d + 1) ([z] ++ cr')) ?_
    refine s_part ?_
    refine s_pick (kidsD G.toBtT (d + 1) [z]) ?_
    refine s_pick (kidsD G.toBtT (d + 1) cq) ?_
    refine s_join ?_
    exact s_end (fin sr' kr' sq' kq')

theorem s_merge (ok : BtDOk G c) {d n : Nat} {s kd sp kp sq kq : Sl} {A C : List (Kid G.toBtT)} {p q : Kid G.toBtT} {IA IC ip iq : List G.It} {x : G.It} {cp cq : List (Kid G.toBtT)} {i : Int} {k4 : Addr} {Q : K}
    (hi : (if (1 : Int) > i then 1 else i) = ((A.length + 1 : Nat) : Int)) (hA : IA.length = A.length) (hl : IA.length + IC.length ≤ 5) (hC : C.length = IC.length) (hp : ip.length + iq.length ≤ 4) (hfp : Fit d ip cp) (hfq : Fit d iq cq)
    (h : ∀ s' kd', HG B (nodeB G.toBtT n s' kd' :: itsR G.toBtT s' (IA ++ IC) :: kpsR G.toBtT kd' ((A ++ p :: C).map ptr) :: NodeR G.toBtT d 2 p.1 (wv ip cp ++ x :: wv iq cq) :: Γ) Q) :
    HG B (nodeB G.toBtT n s kd :: itsR G.toBtT s (IA ++ x :: IC) :: kpsR G.toBtT kd ((A ++ p :: q :: C).map ptr) :: rawL G.toBtT d p.1 sp kp ip cp (rawL G.toBtT d q.1 sq kq iq cq Γ)) (nmend_s2 G Q ⟨n, 0, none⟩ i k4 false) := by
  have okT := ok.toBtOk
  refine s_cap s fun a1 a2 a3 a4 => ?_
  refine s_cap kd fun b1 b2 b3 b4 => ?_
  refine s_cap sp fun c1 c2 c3 c4 => ?_
  refine s_cap kp fun d1 d2 d3 d4 => ?_
  refine s_cap sq fun e1 e2 e3 e4 => ?_
  refine s_cap kq fun f1 f2 f3 f4 => ?_
  have hsn := its_n a1
  have hkn := kps_n b1
  have hspn := its_n c1
  have hkpn := kps_n d1
  have hsqn := its_n e1
  have hkqn := kps_n f1
  simp only [List.length_append, List.length_cons, List.length_nil, List.length_map] at hsn hkn hspn hkpn hsqn hkqn
  have hks : cp.length ≤ 6 ∧ cq.length ≤ 6 := by
    cases d with
    | zero =>
      have e1 : cp = [] := hfp
      have e2 : cq = [] := hfq
      subst e1; subst e2; exact ⟨by simp, by simp⟩
    | succ d =>
      have e1 : cp.length = ip.length + 1 := hfp
      have e2 : cq.length = iq.length + 1 := hfq
      omega
  unfold nmend_s2
  repeat refine s_nx ?_
  refine s_ar hi ?_
  repeat first | refine s_nx ?_ | refine s_ai ?_
  refine s_idx (s := kd) (i := A.length) ?_
  refine s_ldE0 (s := kd) (x := ptr p) (kp_at at_mid) ?_
  repeat refine s_nx ?_
  refine s_idx (s := kd) (i := A.length + 1) ?_
  refine s_ldE0 (s := kd) (x := ptr q) (kp_at at_mid2) ?_
  refine s_dr ?_
  refine s_wsD [nodeB G.toBtT n s kd, itsR G.toBtT s (IA ++ x :: IC), nodeB G.toBtT p.1 sp kp, nodeB G.toBtT q.1 sq kq] ?_
  refine s_nn ?_
  refine s_ai ?_
  refine s_nn ?_
  repeat refine s_nx ?_
  refine s_idx (s := s) (i := A.length) ?_
  refine s_ldElS (s := s) (x := x) G.f_len (by rw [← hA]; simp) ?_
  repeat refine s_nx ?_
  refine s_bld1 ?_ (by simp [okT.vz.1]) (G.f_len _)
  refine s_new fun t => ?_
  repeat refine s_nx ?_
  refine s_append (s := sp) (us := G.f x) (blk_rd (G.f_len x)) (f_flat okT x) (by simp only; omega) (hT := okT.TI) fun sp1 hsp1 => ?_
  rw [show ip.flatMap G.f ++ G.f x = (ip ++ [x]).flatMap G.f by simp]
  repeat refine s_nx ?_
  refine s_append (s := sp1) (us := iq.flatMap G.f) (fun w hw => (own_rd (s := sq) hw).1) (fl_flat okT _) (by simp only at hsp1 ⊢; omega) (hT := okT.TI) fun sp2 hsp2 => ?_
  rw [show (ip ++ [x]).flatMap G.f ++ iq.flatMap G.f = (ip ++ x :: iq).flatMap G.f by simp]
  repeat refine s_nx ?_
  refine s_append (s := kp) (us := (cq.map ptr).map Value.pointer) (fun w hw => (own_rd (s := kq) hw).1) (kp_flat _) (by omega) (hT := okT.TK) fun kp' hkp' => ?_
  rw [← List.map_append, ← List.map_append]
  repeat first | refine s_nx ?_ | refine s_ai ?_
  obtain ⟨Z, hdel⟩ := ok.delI
  refine fun w hw => hdel _ _ _ _ _ ?_
  refine hg hw ?_
  clear hw w
  rw [show ((A.length + 1 : Nat) : Int) - 1 = ((A.length : Nat) : Int) by omega]
  refine s_del (s := s) (i := A.length) (j := A.length + 1) (by omega) (by omega) (by omega) (fl_flat okT _) (fun s' hs' => ?_) okT.TI
  rw [← hA, del_mid, hA]
  repeat first | refine s_nx ?_ | refine s_ai ?_
  obtain ⟨Z2, hdel2⟩ := ok.delK
  refine fun w hw => hdel2 _ _ _ _ _ ?_
  refine hg hw ?_
  clear hw w
  rw [show ((A.length + 1 : Nat) : Int) + 1 = ((A.length + 2 : Nat) : Int) by omega]
  refine s_del (s := kd) (i := A.length + 1) (j := A.length + 2) (by omega) (by omega) (by omega) (kp_flat _) (fun kd' hkd' => ?_) okT.TK
  rw [del_midK]
  repeat refine s_nx ?_
  refine s_pick (kidsD G.toBtT d cq) ?_
  refine s_pick (kidsD G.toBtT d cp) ?_
  refine s_join ?_
  refine s_pick (kidsD G.toBtT d (cp ++ cq)) ?_
  refine s_ownS kp' ?_
  refine s_ownS sp2 ?_
  refine s_own p.1 ?_
  refine s_unraw (m := 2) (fit_app hfp hfq) (by simp; omega) (fun _ => .inr (by simp)) ?_
  rw [wv_app hfp hfq]
  exact s_end (h s' kd')
end
end Bt
end Go.Sep
/- A B-tree: mend. Holds for every program. -/
namespace Go.Sep
open Go Go.RowKit
set_option linter.unusedSimpArgs false
set_option linter.unusedVariables false
namespace Bt
section
variable {κ : Type} {G : BtD κ} {c : κ → κ → Int} {B : World} {Γ Δ : List HProp}
theorem wv_two : ∀ {IA IC : List G.It} {A C : List (Kid G.toBtT)}, IA.length = A.length → C.length = IC.length → ∃ U V : List G.It, (∀ p : Kid G.toBtT, wv (IA ++ IC) (A ++ p :: C) = U ++ p.2 ++ V) ∧ ∀ (p : Kid G.toBtT) (x : G.It) (q : Kid G.toBtT), wv (IA ++ x :: IC) (A ++ p :: q :: C) = U ++ p.2 ++ x :: (q.2 ++ V)
  | [], [], [], C, _, hC => ⟨[], [], fun p => by simp [wv], fun p x q => by simp [wv]⟩
  | [], z :: IC, [], C, _, hC => ⟨[], z :: wv IC C, fun p => by simp [wv], fun p x q => by simp [wv]⟩
  | a :: IA, IC, r :: A, C, hA, hC => by
    obtain ⟨U, V, h1, h2⟩ := wv_two (IA := IA) (IC := IC) (A := A) (C := C) (by simpa using hA) hC
    exact ⟨r.2 ++ a :: U, V, fun p => by simp [wv, h1], fun p x q => by simp [wv, h2]⟩
  | [], _, _ :: _, _, hA, _ => by simp at hA
  | _ :: _, _, [], _, hA, _ => by simp at hA
theorem split_at {α : Type} {L : List α} {a c : Nat} (h : L.length = a + 1 + c) : ∃ A x C, L = A ++ x :: C ∧ A.length = a ∧ C.length = c :=
  ⟨L.take a, L[a], L.drop (a + 1), by rw [← List.drop_eq_getElem_cons, List.take_append_drop], by simp; omega, by simp; omega⟩
theorem s_asm1 {d n : Nat} {s kd : Sl} {its : List G.It} {ks : List (Kid G.toBtT)} {k : K} (hf : ks.length = its.length + 1) (hl : its.length ≤ 5) (h : HG B (NodeR G.toBtT (d + 1) 0 n (wv its ks) :: Γ) k) :
    HG B (nodeB G.toBtT n s kd :: itsR G.toBtT s its :: kpsR G.toBtT kd (ks.map ptr) :: kidsR G.toBtT d ks :: Γ) k := s_unraw (d := d + 1) (m := 0) hf hl (fun h => by omega) h
theorem s_asmK {d n : Nat} {s kd : Sl} {its : List G.It} {A C : List (Kid G.toBtT)} {p : Kid G.toBtT} {P' : List G.It} {k : K} (hf : (A ++ p :: C).length = its.length + 1) (hl : its.length ≤ 5) (h : HG B (NodeR G.toBtT (d + 1) 0 n (wv its (A ++ (p.1, P') :: C)) :: Γ) k) :
    HG B (nodeB G.toBtT n s kd :: itsR G.toBtT s its :: kpsR G.toBtT kd ((A ++ p :: C).map ptr) :: NodeR G.toBtT d 2 p.1 P' :: kidsR G.toBtT d (A ++ C) :: Γ) k := by
  rw [show (A ++ p :: C).map ptr = (A ++ (p.1, P') :: C).map ptr by simp [ptr]]
  refine s_pick (kidsR G.toBtT d (A ++ C)) ?_
  refine s_pick (NodeR G.toBtT d 2 p.1 P') ?_
  refine s_unkid (q := (p.1, P')) ?_
  refine s_pick (kidsR G.toBtT d (A ++ (p.1, P') :: C)) ?_
  refine s_ownS kd ?_
  refine s_ownS s ?_
  refine s_own n ?_
  exact s_asm1 (by simpa using hf) hl h
theorem s_asm2 {d n : Nat} {s kd : Sl} {its : List G.It} {A C : List (Kid G.toBtT)} {p q : Kid G.toBtT} {P' Q' : List G.It} {k : K} (hf : (A ++ p :: q :: C).length = its.length + 1) (hl : its.length ≤ 5) (h : HG B (NodeR G.toBtT (d + 1) 0 n (wv its (A ++ (p.1, P') :: (q.1, Q') :: C)) :: Γ) k) :
    HG B (nodeB G.toBtT n s kd :: itsR G.toBtT s its :: kpsR G.toBtT kd ((A ++ p :: q :: C).map ptr) :: NodeR G.toBtT d 2 p.1 P' :: NodeR G.toBtT d 2 q.1 Q' :: kidsR G.toBtT d (A ++ C) :: Γ) k := by
  rw [show (A ++ p :: q :: C).map ptr = (A ++ p :: (q.1, Q') :: C).map ptr by simp [ptr]]
  refine s_pick (kidsR G.toBtT d (A ++ C)) ?_
  refine s_pick (NodeR G.toBtT d 2 q.1 Q') ?_
  refine s_unkid (q := (q.1, Q')) ?_
  refine s_pick (kidsR G.toBtT d (A ++ (q.1, Q') :: C)) ?_
  refine s_pick (NodeR G.toBtT d 2 p.1 P') ?_
  refine s_ownS kd ?_
  refine s_ownS s ?_
  refine s_own n ?_
  exact s_asmK (by simpa using hf) hl h

theorem mend_spec (ok : BtDOk G c) {d n : Nat} {s kd : Sl} {its : List G.It} {A C : List (Kid G.toBtT)} {q : Kid G.toBtT} {Q : K} (hl : its.length ≤ 5) (hne : its ≠ []) (hf : (A ++ q :: C).length = its.length + 1)
    (h : HG B (NodeR G.toBtT (d + 1) 0 n (wv its (A ++ q :: C)) :: Γ) Q) :
    HG B (nodeB G.toBtT n s kd :: itsR G.toBtT s its :: kpsR G.toBtT kd ((A ++ q :: C).map ptr) :: NodeR G.toBtT d 0 q.1 q.2 :: kidsR G.toBtT d (A ++ C) :: Γ) (G.nmendC (some ⟨n, 0, none⟩) (A.length : Int) Q) := by
  refine fun w hw => ok.mend _ _ _ _ ?_
  refine hg hw ?_
  clear hw w
  have okT := ok.toBtOk
  have hnl : 1 ≤ its.length := List.length_pos_iff.2 hne
  refine s_cap s fun a1 a2 a3 a4 => ?_
  refine s_cap kd fun b1 b2 b3 b4 => ?_
  have hsn := its_n a1
  have hkn := kps_n b1
  have hf' : A.length + (C.length + 1) = its.length + 1 := by simpa using hf
  simp only [List.length_append, List.length_cons, List.length_map] at hkn
  unfold nmend
  repeat refine s_nx ?_
  refine s_idx (s := kd) (i := A.length) ?_
  refine s_ldE0 (s := kd) (x := ptr q) (kp_at at_mid) ?_
  refine s_nn ?_
  refine s_own q.1 ?_
  refine s_raw fun sq kq iq cq hfq hlq _ hqL => ?_
  refine s_cap sq fun e1 e2 e3 e4 => ?_
  have hsqn := its_n e1
  repeat refine s_nx ?_
  refine s_ite (fun hb => ?_) fun hb => ?_
  · have hb' : 2 ≤ iq.length := by simp only [decide_eq_true_eq] at hb; omega
    refine s_unraw (m := 2) hfq hlq (fun _ => .inr fun h => by rw [h] at hb'; simp at hb') ?_
    rw [← hqL]
    refine s_pick (kidsR G.toBtT d (A ++ C)) ?_
    refine s_pick (NodeR G.toBtT d 2 q.1 q.2) ?_
    refine s_ownS kd ?_
    refine s_ownS s ?_
    refine s_own n ?_
    exact s_asmK hf hl h
  have hq1 : iq.length ≤ 1 := by simp only [decide_eq_false_iff_not] at hb; omega
  rcases List.eq_nil_or_concat A with rfl | ⟨A, p, rfl⟩
  · -- no kid on the left
    obtain ⟨r, C, rfl⟩ : ∃ r C', C = r :: C' := by
      cases C with
      | nil => simp only [List.length_nil] at hf'; omega
      | cons r C => exact ⟨r, C, rfl⟩
    simp only [List.length_cons, List.length_nil, List.nil_append] at hf' hkn hf h ⊢
    obtain ⟨IA, x, IC, rfl, hIA, hIC⟩ := split_at (L := its) (a := 0) (c := C.length) (by omega)
    obtain rfl : IA = [] := List.length_eq_zero_iff.1 hIA
    obtain ⟨U, V, hU1, hU2⟩ := wv_two (IA := []) (IC := IC) (A := []) (C := C) rfl hIC.symm
    simp only [List.nil_append] at hU1 hU2 hl hf' h ⊢
    rw [hU2] at h
    simp only [List.length_cons] at hl hf'
    refine s_f ?_
    unfold nmend_s1
    repeat first | refine s_nx ?_ | refine s_ai ?_
    refine s_t ?_ (by simp; omega)
    repeat first | refine s_nx ?_ | refine s_ai ?_
    refine s_idx (s := kd) (i := 1) ?_
    refine s_ldE0 (s := kd) (x := ptr r) (kp_at (at_mid2 (A := []))) ?_
    refine s_nn ?_
    refine s_pick (kidsR G.toBtT d (r :: C)) ?_
    refine s_kid (A := []) ?_
    refine s_raw fun sr kr ir cr hfr hlr hrne hrL => ?_
    refine s_cap sr fun c1 c2 c3 c4 => ?_
    have hsrn := its_n c1
    repeat refine s_nx ?_
    by_cases hb3 : 2 < ir.length
    · rw [show decide ((2 : Int) < (sr.n : Int)) = true by simp; omega]
      obtain ⟨y, ir, rfl⟩ : ∃ y ir', ir = y :: ir' := by
        cases ir with
        | nil => simp at hb3
        | cons y ir => exact ⟨y, ir, rfl⟩
      simp only [List.length_cons] at hb3 hlr
      refine s_pick (kidsD G.toBtT d cr) ?_
      refine s_ownS kr ?_
      refine s_ownS sr ?_
      refine s_own r.1 ?_
      refine s_pick (kidsD G.toBtT d cq) ?_
      refine s_ownS kq ?_
      refine s_ownS sq ?_
      refine s_own q.1 ?_
      refine s_ownS kd ?_
      refine s_ownS s ?_
      refine s_own n ?_
      refine s_turnR ok (A := []) (IA := []) rfl rfl (by simp only [List.length_nil]; omega) hIC.symm (by omega) hq1 hfr hfq fun Q' R' e s' kd' => ?_
      refine s_pick (kidsR G.toBtT d ([] ++ C)) ?_
      refine s_pick (NodeR G.toBtT d 2 r.1 R') ?_
      refine s_pick (NodeR G.toBtT d 2 q.1 Q') ?_
      refine s_ownS kd' ?_
      refine s_ownS s' ?_
      refine s_own n ?_
      refine s_asm2 (A := []) (by simp; omega) (by simp; omega) ?_
      simp only [List.nil_append]
      rw [hU2, show U ++ (q.1, Q').2 ++ y :: ((r.1, R').2 ++ V) = U ++ (Q' ++ y :: R') ++ V by simp, e, ← hqL, ← hrL]
      simpa using h
    · rw [show decide ((2 : Int) < (sr.n : Int)) = false by simp; omega]
      refine s_pick (kidsD G.toBtT d cr) ?_
      refine s_ownS kr ?_
      refine s_ownS sr ?_
      refine s_own r.1 ?_
      refine s_pick (kidsD G.toBtT d cq) ?_
      refine s_ownS kq ?_
      refine s_ownS sq ?_
      refine s_own q.1 ?_
      refine s_ownS kd ?_
      refine s_ownS s ?_
      refine s_own n ?_
      refine s_merge ok (A := []) (IA := []) (by simp) rfl (by simp only [List.length_nil]; omega) hIC.symm (by omega) hfq hfr fun s' kd' => ?_
      refine s_pick (kidsR G.toBtT d ([] ++ C)) ?_
      refine s_pick (NodeR G.toBtT d 2 q.1 (wv iq cq ++ x :: wv ir cr)) ?_
      refine s_ownS kd' ?_
      refine s_ownS s' ?_
      refine s_own n ?_
      refine s_asmK (A := []) (by simp; omega) (by simp; omega) ?_
      simp only [List.nil_append]
      have h2 := hU1 (q.1, wv iq cq ++ x :: wv ir cr)
      rw [h2, ← hqL, ← hrL]
      simpa using h
  · -- a kid on the left
    simp only [List.concat_eq_append, List.append_assoc, List.singleton_append] at hf' hkn hf h ⊢
    have hAl : (A ++ [p]).length = A.length + 1 := by simp
    rw [hAl] at hf' hkn ⊢
    obtain ⟨IA, x, IC, rfl, hIA, hIC⟩ := split_at (L := its) (a := A.length) (c := C.length) (by omega)
    obtain ⟨U, V, hU1, hU2⟩ := wv_two (IA := IA) (IC := IC) (A := A) (C := C) hIA hIC.symm
    have hil : (IA ++ x :: IC).length = IA.length + (IC.length + 1) := by simp
    rw [hU2] at h
    rw [hil] at hl
    refine s_t ?_
    repeat first | refine s_nx ?_ | refine s_ai ?_
    refine s_idx (s := kd) (i := A.length) ?_
    refine s_ldE0 (s := kd) (x := ptr p) (kp_at at_mid) ?_
    refine s_nn ?_
    refine s_pick (kidsR G.toBtT d (A ++ p :: C)) ?_
    refine s_kid ?_
    refine s_raw fun sp kp ip cp hfp hlp hpne hpL => ?_
    refine s_cap sp fun c1 c2 c3 c4 => ?_
    have hspn := its_n c1
    repeat refine s_nx ?_
    by_cases hb3 : 2 < ip.length
    · rw [show decide ((2 : Int) < (sp.n : Int)) = true by simp; omega]
      rcases List.eq_nil_or_concat ip with rfl | ⟨ip, y, rfl⟩
      · simp at hb3
      simp only [List.concat_eq_append] at hb3 hlp hfp hpL ⊢
      have hipl : (ip ++ [y]).length = ip.length + 1 := by simp
      rw [hipl] at hb3 hlp
      refine s_pick (kidsD G.toBtT d cq) ?_
      refine s_ownS kq ?_
      refine s_ownS sq ?_
      refine s_own q.1 ?_
      refine s_pick (kidsD G.toBtT d cp) ?_
      refine s_ownS kp ?_
      refine s_ownS sp ?_
      refine s_own p.1 ?_
      refine s_ownS kd ?_
      refine s_ownS s ?_
      refine s_own n ?_
      refine s_turnL ok (A := A) (by omega) hIA (by omega) hIC.symm (by omega) hq1 hfp hfq fun P' Q' e s' kd' => ?_
      refine s_pick (kidsR G.toBtT d (A ++ C)) ?_
      refine s_pick (NodeR G.toBtT d 2 q.1 Q') ?_
      refine s_pick (NodeR G.toBtT d 2 p.1 P') ?_
      refine s_ownS kd' ?_
      refine s_ownS s' ?_
      refine s_own n ?_
      refine s_asm2 (by simp; omega) (by simp; omega) ?_
      rw [hU2, show U ++ (p.1, P').2 ++ y :: ((q.1, Q').2 ++ V) = U ++ (P' ++ y :: Q') ++ V by simp, e, ← hqL, ← hpL]
      simpa using h
    rw [show decide ((2 : Int) < (sp.n : Int)) = false by simp; omega]
    unfold nmend_s1
    repeat first | refine s_nx ?_ | refine s_ai ?_
    cases C with
    | nil =>
      refine s_f ?_ (by simp only [List.length_nil] at hkn; simp; omega)
      refine s_pick (kidsD G.toBtT d cq) ?_
      refine s_ownS kq ?_
      refine s_ownS sq ?_
      refine s_own q.1 ?_
      refine s_pick (kidsD G.toBtT d cp) ?_
      refine s_ownS kp ?_
      refine s_ownS sp ?_
      refine s_own p.1 ?_
      refine s_ownS kd ?_
      refine s_ownS s ?_
      refine s_own n ?_
      refine s_merge ok (by simp only [gt_iff_lt]; split <;> omega) hIA (by omega) hIC.symm (by omega) hfp hfq fun s' kd' => ?_
      refine s_pick (kidsR G.toBtT d (A ++ [])) ?_
      refine s_pick (NodeR G.toBtT d 2 p.1 (wv ip cp ++ x :: wv iq cq)) ?_
      refine s_ownS kd' ?_
      refine s_ownS s' ?_
      refine s_own n ?_
      refine s_asmK (by simp only [List.length_append, List.length_cons]; omega) (by simp only [List.length_append]; omega) ?_
      rw [hU1, ← hqL, ← hpL]
      simpa using h
    | cons r C =>
      simp only [List.length_cons] at hf' hkn hIC
      obtain ⟨x2, IC, rfl⟩ : ∃ x2 IC', IC = x2 :: IC' := by
        cases IC with
        | nil => simp at hIC
        | cons x2 IC => exact ⟨x2, IC, rfl⟩
      simp only [List.length_cons] at hIC hl
      refine s_t ?_ (by simp; omega)
      repeat first | refine s_nx ?_ | refine s_ai ?_
      refine s_idx (s := kd) (i := A.length + 2) ?_
      refine s_ldE0 (s := kd) (x := ptr r) (kp_at (by rw [show A ++ p :: q :: r :: C = (A ++ [p]) ++ q :: r :: C by simp, show A.length + 2 = (A ++ [p]).length + 1 by simp]; exact at_mid2)) ?_
      refine s_nn ?_
      refine s_pick (kidsR G.toBtT d (A ++ r :: C)) ?_
      refine s_kid ?_
      refine s_raw fun sr kr ir cr hfr hlr hrne hrL => ?_
      refine s_cap sr fun g1 g2 g3 g4 => ?_
      have hsrn := its_n g1
      repeat refine s_nx ?_
      by_cases hb4 : 2 < ir.length
      · rw [show decide ((2 : Int) < (sr.n : Int)) = true by simp; omega]
        obtain ⟨y, ir, rfl⟩ : ∃ y ir', ir = y :: ir' := by
          cases ir with
          | nil => simp at hb4
          | cons y ir => exact ⟨y, ir, rfl⟩
        simp only [List.length_cons] at hb4 hlr
        refine s_pick (kidsD G.toBtT d cp) ?_
        refine s_ownS kp ?_
        refine s_ownS sp ?_
        refine s_own p.1 ?_
        refine s_unraw (m := 2) hfp hlp (fun _ => .inr (hpne rfl)) ?_
        rw [← hpL]
        rw [show A ++ p :: q :: r :: C = (A ++ [p]) ++ q :: r :: C by simp, show IA ++ x :: x2 :: IC = (IA ++ [x]) ++ x2 :: IC by simp]
        refine s_pick (kidsD G.toBtT d cr) ?_
        refine s_ownS kr ?_
        refine s_ownS sr ?_
        refine s_own r.1 ?_
        refine s_pick (kidsD G.toBtT d cq) ?_
        refine s_ownS kq ?_
        refine s_ownS sq ?_
        refine s_own q.1 ?_
        refine s_ownS kd ?_
        refine s_ownS s ?_
        refine s_own n ?_
        refine s_turnR ok (A := A ++ [p]) (IA := IA ++ [x]) (by rw [hAl]) (by simp [hIA]) (by simp; omega) (by omega) (by omega) hq1 hfr hfq fun Q' R' e s' kd' => ?_
        refine s_pick (kidsR G.toBtT d (A ++ C)) ?_
        refine s_pick (NodeR G.toBtT d 2 p.1 p.2) ?_
        refine s_unkid ?_
        rw [show A ++ p :: C = (A ++ [p]) ++ C by simp]
        refine s_pick (kidsR G.toBtT d ((A ++ [p]) ++ C)) ?_
        refine s_pick (NodeR G.toBtT d 2 r.1 R') ?_
        refine s_pick (NodeR G.toBtT d 2 q.1 Q') ?_
        refine s_ownS kd' ?_
        refine s_ownS s' ?_
        refine s_own n ?_
        refine s_asm2 (by simp; omega) (by simp; omega) ?_
        obtain ⟨U', V', hV1, hV2⟩ := wv_two (IA := IA ++ [x]) (IC := IC) (A := A ++ [p]) (C := C) (by simp [hIA]) (by omega)
        have h3 := hV2 q x2 r
        have h4 := hU2 p x q
        rw [show (IA ++ [x]) ++ x2 :: IC = IA ++ x :: x2 :: IC by simp, show (A ++ [p]) ++ q :: r :: C = A ++ p :: q :: r :: C by simp, h4] at h3
        rw [hV2, show U' ++ (q.1, Q').2 ++ y :: ((r.1, R').2 ++ V') = U' ++ (Q' ++ y :: R') ++ V' by simp, e, ← hqL, ← hrL]
        rw [h3] at h
        simpa using h
      · rw [show decide ((2 : Int) < (sr.n : Int)) = false by simp; omega]
        refine s_pick (kidsD G.toBtT d cr) ?_
        refine s_ownS kr ?_
        refine s_ownS sr ?_
        refine s_own r.1 ?_
        refine s_unraw (m := 2) hfr hlr (fun _ => .inr (hrne rfl)) ?_
        rw [← hrL]
        refine s_pick (kidsR G.toBtT d (A ++ C)) ?_
        refine s_pick (NodeR G.toBtT d 2 r.1 r.2) ?_
        refine s_unkid ?_
        refine s_pick (kidsD G.toBtT d cq) ?_
        refine s_ownS kq ?_
        refine s_ownS sq ?_
        refine s_own q.1 ?_
        refine s_pick (kidsD G.toBtT d cp) ?_
        refine s_ownS kp ?_
        refine s_ownS sp ?_
        refine s_own p.1 ?_
        refine s_ownS kd ?_
        refine s_ownS s ?_
        refine s_own n ?_
        refine s_merge ok (by simp only [gt_iff_lt]; split <;> omega) hIA (by simp; omega) (by simp; omega) (by omega) hfp hfq fun s' kd' => ?_
        refine s_pick (kidsR G.toBtT d (A ++ r :: C)) ?_
        refine s_pick (NodeR G.toBtT d 2 p.1 (wv ip cp ++ x :: wv iq cq)) ?_
        refine s_ownS kd' ?_
        refine s_ownS s' ?_
        refine s_own n ?_
        refine s_asmK (by simp only [List.length_append, List.length_cons]; omega) (by simp only [List.length_append, List.length_cons]; omega) ?_
        rw [hU1, ← hqL, ← hpL]
        simpa using h
end
end Bt
end Go.Sep
/- A B-tree: last, take and Delete. Holds for every program. -/
namespace Go.Sep
open Go Go.RowKit
set_option linter.unusedSimpArgs false
set_option linter.unusedVariables false
namespace Bt
section
variable {κ : Type} {G : BtD κ} {c : κ → κ → Int} {B : World} {Γ Δ : List HProp}
theorem wv_end : ∀ {its : List G.It} {A : List (Kid G.toBtT)}, its.length = A.length → ∃ U : List G.It, ∀ p : Kid G.toBtT, wv its (A ++ [p]) = U ++ p.2
  | [], [], _ => ⟨[], fun p => by simp [wv]⟩
  | a :: its, r :: A, h => by
    obtain ⟨U, h1⟩ := wv_end (its := its) (A := A) (by simpa using h)
    exact ⟨r.2 ++ a :: U, fun p => by simp [wv, h1]⟩
  | [], _ :: _, h => by simp at h
  | _ :: _, [], h => by simp at h
theorem nlast_spec (ok : BtDOk G c) : ∀ (d : Nat) {b : Nat} {L : List G.It} {Γ : List HProp} {Q : Array Value → K},
    (∀ L0 x, L = L0 ++ [x] → HG B (NodeR G.toBtT d 0 b L0 :: Γ) (Q (G.f x).toArray)) → HG B (NodeR G.toBtT d 2 b L :: Γ) (G.nlastC (some ⟨b, 0, none⟩) Q) := by
  have okT := ok.toBtOk
  intro d
  induction d with
  | zero =>
    intro b L Γ Q h
    refine fun w hw => ok.last _ _ _ ?_
    refine hg hw ?_
    clear hw w
    refine s_node0 fun s kd hne hl => ?_
    rcases List.eq_nil_or_concat L with rfl | ⟨L0, x, rfl⟩
    · exact absurd rfl (hne rfl)
    simp only [List.concat_eq_append] at h hl ⊢
    have hll : (L0 ++ [x]).length = L0.length + 1 := by simp
    rw [hll] at hl
    refine s_cap s fun a1 a2 a3 a4 => ?_
    refine s_cap kd fun b1 b2 b3 b4 => ?_
    have hsn := its_n a1
    have hkn := kps_n b1
    rw [hll] at hsn
    simp only [List.length_nil] at hkn
    unfold nlast
    refine s_new fun t2 => ?_
    repeat first | refine s_nx ?_ | refine s_ai ?_
    refine s_f ?_ (by simp; omega)
    repeat first | refine s_nx ?_ | refine s_ai ?_
    refine s_idx (s := s) (i := L0.length) ?_
    refine s_ldElS (s := s) (x := x) G.f_len (by simp) ?_
    refine s_new fun x5 => ?_
    repeat refine s_nx ?_
    refine s_stN (b := x5) ?_ (by simp [okT.vz.1]) (G.f_len x) (flat_f okT x)
    repeat first | refine s_nx ?_ | refine s_ai ?_
    refine s_slc (lo := 0) (hi := L0.length) (mx := s.c) ?_
    rw [cut0 a3]
    repeat refine s_nx ?_
    refine s_shrinkI (s := s) (m := L0.length) (by omega) a2 ?_
    rw [List.take_left]
    refine s_ldN (b := x5) (l' := G.f x) ?_ (List.take_of_length_le (by simp [G.f_len])) (G.f_len _)
    refine s_stN (b := t2) ?_ (by simp [okT.vz.1]) (G.f_len x) (flat_f okT x)
    refine s_ldN (b := t2) (l' := G.f x) ?_ (List.take_of_length_le (by simp [G.f_len])) (G.f_len _)
    refine s_ownS kd ?_
    refine s_ownS ⟨s.a, L0.length, s.c⟩ ?_
    refine s_own b ?_
    refine s_mk0 (m := 0) (by simp) (by omega) ?_
    exact s_end (h L0 x rfl)
  | succ d ih =>
    intro b L Γ Q h
    refine fun w hw => ok.last _ _ _ ?_
    refine hg hw ?_
    clear hw w
    refine s_raw fun s kd its ks hf hl hne hL => ?_
    subst hL
    have hf' : ks.length = its.length + 1 := hf
    rcases List.eq_nil_or_concat ks with rfl | ⟨A, q, rfl⟩
    · simp at hf'
    simp only [List.concat_eq_append] at h hf hf' ⊢
    have hkl : (A ++ [q]).length = A.length + 1 := by simp
    rw [hkl] at hf'
    refine s_pick (kidsD G.toBtT (d + 1) (A ++ [q])) ?_
    refine s_conv (A' := kidsR G.toBtT d (A ++ [q])) (fun _ h => h) ?_
    refine s_kid (A := A) (C := []) ?_
    refine s_cap s fun a1 a2 a3 a4 => ?_
    refine s_cap kd fun b1 b2 b3 b4 => ?_
    have hsn := its_n a1
    have hkn := kps_n b1
    rw [List.length_map, hkl] at hkn
    unfold nlast
    refine s_new fun t2 => ?_
    repeat first | refine s_nx ?_ | refine s_ai ?_
    rw [show ((kd.n : Nat) : Int) - 1 = ((A.length : Nat) : Int) by omega]
    refine s_t ?_ (by simp)
    repeat refine s_nx ?_
    refine s_idx (s := kd) (i := A.length) ?_
    refine s_ldE0 (s := kd) (x := ptr q) (kp_at at_mid) ?_
    refine s_pick (NodeR G.toBtT d 2 q.1 q.2) ?_
    refine ih (b := q.1) (L := q.2) fun L0 x e => ?_
    refine s_new fun x4 => ?_
    refine s_stN (b := x4) ?_ (by simp [okT.vz.1]) (G.f_len x) (flat_f okT x)
    rw [show (A ++ [q]).map ptr = (A ++ [(q.1, L0)]).map ptr by simp [ptr]]
    refine s_pick (kidsR G.toBtT d (A ++ [])) ?_
    refine s_pick (NodeR G.toBtT d 0 q.1 L0) ?_
    refine s_ownS kd ?_
    refine s_ownS s ?_
    refine s_own b ?_
    refine mend_spec ok (q := (q.1, L0)) (C := []) hl (hne rfl) (by simp; omega) ?_
    refine s_ldN (b := x4) (l' := G.f x) ?_ (List.take_of_length_le (by simp [G.f_len])) (G.f_len _)
    refine s_stN (b := t2) ?_ (by simp [okT.vz.1]) (G.f_len x) (flat_f okT x)
    refine s_ldN (b := t2) (l' := G.f x) ?_ (List.take_of_length_le (by simp [G.f_len])) (G.f_len _)
    refine s_end (h (wv its (A ++ [(q.1, L0)])) x ?_)
    obtain ⟨U, hU⟩ := wv_end (its := its) (A := A) (by omega)
    rw [hU, hU, e, List.append_assoc]

/-! ### take -/
def DelR (c : κ → κ → Int) {ν : Type} (z : ν) (L : List (κ × ν)) (k : κ) (L' : List (κ × ν)) (old : ν) (had : Bool) : Prop :=
  (∃ A C, L = A ++ (k, old) :: C ∧ L' = A ++ C ∧ had = true) ∨ ((∃ A C, L = A ++ C ∧ (∀ x ∈ A, c x.1 k < 0) ∧ (∀ x ∈ C, c k x.1 < 0)) ∧ L' = L ∧ old = z ∧ had = false)
theorem DelR.mid {ν : Type} {z old : ν} {A C L L' : List (κ × ν)} {k : κ} {had : Bool} (hA : ∀ x ∈ A, c x.1 k < 0) (hC : ∀ x ∈ C, c k x.1 < 0) (h : DelR c z L k L' old had) : DelR c z (A ++ L ++ C) k (A ++ L' ++ C) old had := by
  rcases h with ⟨A', C', rfl, rfl, rfl⟩ | ⟨⟨A', C', rfl, h1, h2⟩, rfl, rfl, rfl⟩
  · exact .inl ⟨A ++ A', C' ++ C, by simp, by simp, rfl⟩
  · refine .inr ⟨⟨A ++ A', C' ++ C, by simp, fun x hx => ?_, fun x hx => ?_⟩, rfl, rfl, rfl⟩
    · rcases List.mem_append.1 hx with hx | hx
      · exact hA x hx
      · exact h1 x hx
    · rcases List.mem_append.1 hx with hx | hx
      · exact h2 x hx
      · exact hC x hx
theorem DelR.srt {ν : Type} {z old : ν} {L L' : List (κ × ν)} {k : κ} {had : Bool} (h : DelR c z L k L' old had) (hs : Srt c L) : Srt c L' := by
  rcases h with ⟨A', C', rfl, rfl, rfl⟩ | ⟨_, rfl, rfl, rfl⟩
  · exact hs.sub ((List.Sublist.refl A').append (List.sublist_cons_self _ _))
  · exact hs
theorem DelR.len {ν : Type} {z old : ν} {L L' : List (κ × ν)} {k : κ} {had : Bool} (h : DelR c z L k L' old had) : L.length = L'.length + (if had then 1 else 0) := by
  rcases h with ⟨A', C', rfl, rfl, rfl⟩ | ⟨_, rfl, rfl, rfl⟩
  · simp; omega
  · simp
theorem ntake_spec (ok : BtDOk G c) : ∀ (d : Nat) {m b : Nat} {M : List G.It} {k : κ} {Γ : List HProp} {Q : Array Value → Bool → K}, 1 ≤ m → Srt c M →
    (∀ M' old had, DelR c (G.z0 ok.vz) M k M' old had → HG B (NodeR G.toBtT d 0 b M' :: Γ) (Q old.1.toArray had)) →
    HG B (NodeR G.toBtT d m b M :: Γ) (G.ntakeC (some ⟨b, 0, none⟩) k Q) := by
  have okT := ok.toBtOk
  intro d
  induction d with
  | zero =>
    intro m b M k Γ Q hm hs h
    refine fun w hw => ok.take _ _ _ _ ?_
    refine hg hw ?_
    clear hw w
    refine s_node0 fun s kd _ hl => ?_
    refine s_cap s fun a1 a2 a3 a4 => ?_
    refine s_cap kd fun b1 b2 b3 b4 => ?_
    have hsn := its_n a1
    have hkn := kps_n b1
    simp only [List.length_nil] at hkn
    unfold ntake
    refine s_new fun v4 => ?_
    refine s_search okT (s := s) (kd := kd) hs (by omega) (fun A v0 C e => ?_) fun A C e hA hC => ?_
    · subst e
      have hlen : (A ++ (k, v0) :: C).length = A.length + (C.length + 1) := List.length_append
      repeat refine s_nx ?_
      rw [show decide ((kd.n : Int) = 0) = true by simp; omega]
      unfold ntake_s2
      repeat refine s_nx ?_
      refine s_idx (s := s) (i := A.length) ?_
      refine s_ldEN (s := s) (l' := v0.1) drop_val v0.2.1 ?_
      refine s_stN (b := v4) ?_ okT.vz.1 v0.2.1 v0.2.2
      repeat first | refine s_nx ?_ | refine s_ai ?_
      obtain ⟨Z, hdel⟩ := ok.delI
      refine fun w hw => hdel _ _ _ _ _ ?_
      refine hg hw ?_
      clear hw w
      rw [show ((A.length : Nat) : Int) + 1 = ((A.length + 1 : Nat) : Int) by omega]
      refine s_del (s := s) (i := A.length) (j := A.length + 1) (by omega) (by omega) (by omega) (fl_flat okT _) (fun s' hs' => ?_) okT.TI
      rw [del_mid]
      repeat refine s_nx ?_
      refine s_ret3 (v := v0) ?_
      refine s_ownS kd ?_
      refine s_ownS s' ?_
      refine s_own b ?_
      refine s_mk0 (m := 0) (by simp) (by simp; omega) ?_
      exact s_end (h _ _ _ (.inl ⟨A, C, rfl, rfl, rfl⟩))
    · subst e
      repeat refine s_nx ?_
      unfold ntake_s2
      repeat refine s_nx ?_
      refine s_f ?_ (by simp; omega)
      unfold ntake_s1
      refine s_ret3 (v := G.z0 okT.vz) ?_
      refine s_ownS kd ?_
      refine s_ownS s ?_
      refine s_own b ?_
      refine s_mk0 (m := 0) (by simp) hl ?_
      exact s_end (h _ _ _ (.inr ⟨⟨A, C, rfl, hA, hC⟩, rfl, rfl, rfl⟩))
  | succ d ih =>
    intro m b M k Γ Q hm hs h
    refine fun w hw => ok.take _ _ _ _ ?_
    refine hg hw ?_
    clear hw w
    refine s_nodeS fun s kd q0 ps hne hl hM => ?_
    subst hM
    have hne := hne hm
    refine s_cap s fun a1 a2 a3 a4 => ?_
    refine s_cap kd fun b1 b2 b3 b4 => ?_
    have hsn := its_n a1
    have hkn := kps_n b1
    simp only [List.length_map, List.length_cons] at hsn hkn
    unfold ntake
    refine s_new fun v4 => ?_
    refine s_search okT (s := s) (kd := kd) (hs.sub (its_sub q0 ps)) (by simp; omega) (fun A v0 C e => ?_) fun A C e hA hC => ?_
    · obtain ⟨l, q, r, hA, hC, hK, hL, hlen⟩ := zip_of (q0 := q0) e
      rw [e, hK]
      rw [hL] at hs h
      obtain ⟨⟨xx, q1⟩, r, rfl, hxx, hC'⟩ := List.map_eq_cons_iff.1 hC.symm
      simp only at hxx
      subst hxx
      subst hA
      subst hC'
      simp only [List.length_cons] at hlen
      have hll : (l.map Prod.snd).length = l.length := by simp
      have hlf : (l.map Prod.fst).length = l.length := by simp
      repeat refine s_nx ?_
      rw [show decide ((kd.n : Int) = 0) = false by simp; omega]
      unfold ntake_s2
      repeat refine s_nx ?_
      refine s_idx (s := s) (i := (l.map Prod.snd).length) ?_
      refine s_ldEN (s := s) (l' := v0.1) drop_val v0.2.1 ?_
      refine s_stN (b := v4) ?_ okT.vz.1 v0.2.1 v0.2.2
      refine s_dr ?_
      refine s_wsD [nodeB G.toBtT b s kd, itsR G.toBtT s (l.map Prod.snd ++ (k, v0) :: r.map Prod.fst), kpsR G.toBtT kd ((l.map Prod.fst ++ q :: (((k, v0), q1) :: r).map Prod.snd).map ptr)] ?_
      repeat refine s_nx ?_
      refine s_idx (s := kd) (i := (l.map Prod.fst).length) ?_ (by omega)
      refine s_ldES1 (s := kd) (c := Value.pointer) (L := (l.map Prod.fst ++ q :: (((k, v0), q1) :: r).map Prod.snd).map ptr) (x := ptr q) (by simp) ?_
      refine s_pick (kidsR G.toBtT d (l.map Prod.fst ++ q :: (((k, v0), q1) :: r).map Prod.snd)) ?_
      refine s_kid ?_
      refine nlast_spec ok d (b := q.1) (L := q.2) fun L0 x e2 => ?_
      repeat refine s_nx ?_
      refine s_idx (s := s) (i := (l.map Prod.snd).length) ?_
      refine s_stEl (s := s) (A := l.map Prod.snd) (x := (k, v0)) (y := x) G.f_len (flat_f okT x) ?_
      rw [show (l.map Prod.fst ++ q :: (((k, v0), q1) :: r).map Prod.snd).map ptr = (l.map Prod.fst ++ (q.1, L0) :: (((k, v0), q1) :: r).map Prod.snd).map ptr by simp [ptr]]
      rw [show ((l.map Prod.snd).length : Int) = ((l.map Prod.fst).length : Int) by rw [hll, hlf]]
      refine s_pick (kidsR G.toBtT d (l.map Prod.fst ++ (((k, v0), q1) :: r).map Prod.snd)) ?_
      refine s_pick (NodeR G.toBtT d 0 q.1 L0) ?_
      refine s_ownS kd ?_
      refine s_ownS s ?_
      refine s_own b ?_
      refine mend_spec ok (q := (q.1, L0)) (by simp; omega) (by simp) (by simp; omega) ?_
      refine s_ret3 (v := v0) ?_
      refine s_end (h (wv (l.map Prod.snd ++ x :: r.map Prod.fst) (l.map Prod.fst ++ (q.1, L0) :: (((k, v0), q1) :: r).map Prod.snd)) v0 true (.inl ⟨preL l ++ q.2, q1.2 ++ postL r, ?_, ?_, rfl⟩))
      · simp [postL]
      · obtain ⟨q0', ps', e3, e4, e5, e6⟩ := zback l (q.1, L0) ((x, q1) :: r)
        rw [show l.map Prod.snd ++ x :: r.map Prod.fst = ps'.map Prod.fst from e4.symm, show l.map Prod.fst ++ (q.1, L0) :: (((k, v0), q1) :: r).map Prod.snd = q0' :: ps'.map Prod.snd from e5.symm, wv_ps, e6, e2]
        simp [postL]
    · obtain ⟨l, q, r, rfl, rfl, hK, hL, hlen⟩ := zip_of (q0 := q0) e
      rw [e, hK]
      rw [hL] at hs h
      have hll : (l.map Prod.snd).length = l.length := by simp
      have hlf : (l.map Prod.fst).length = l.length := by simp
      have hs1 := List.pairwise_append.1 hs
      have hs2 := List.pairwise_append.1 hs1.1
      have hpre := pre_lt okT l hs2.1 hA
      have hpost := post_gt okT r hs1.2.1 hC
      repeat refine s_nx ?_
      unfold ntake_s2
      repeat refine s_nx ?_
      refine s_t ?_ (by simp; omega)
      repeat refine s_nx ?_
      refine s_idx (s := kd) (i := (l.map Prod.fst).length) ?_ (by omega)
      refine s_ldE0 (s := kd) (x := ptr q) (kp_at at_mid) ?_
      refine s_pick (kidsR G.toBtT d (l.map Prod.fst ++ q :: r.map Prod.snd)) ?_
      refine s_kid ?_
      refine ih (m := 2) (b := q.1) (M := q.2) (by omega) hs2.2.1 fun M' old had hp => ?_
      refine s_stN (b := v4) ?_ okT.vz.1 old.2.1 old.2.2
      rw [show (l.map Prod.fst ++ q :: r.map Prod.snd).map ptr = (l.map Prod.fst ++ (q.1, M') :: r.map Prod.snd).map ptr by simp [ptr]]
      rw [show ((l.map Prod.snd).length : Int) = ((l.map Prod.fst).length : Int) by rw [hll, hlf]]
      refine s_pick (kidsR G.toBtT d (l.map Prod.fst ++ r.map Prod.snd)) ?_
      refine s_pick (NodeR G.toBtT d 0 q.1 M') ?_
      refine s_ownS kd ?_
      refine s_ownS s ?_
      refine s_own b ?_
      refine mend_spec ok (q := (q.1, M')) (by simp; omega) (fun h0 => hne ?_) (by simp; omega) ?_
      · have := congrArg List.length h0
        simp only [List.length_append, List.length_map, List.length_nil] at this
        exact List.length_eq_zero_iff.1 (by omega)
      unfold ntake_s1
      refine s_ret3 (v := old) ?_
      obtain ⟨q0', ps', e3, e4, e5, e6⟩ := zback l (q.1, M') r
      rw [← e4, ← e5, wv_ps, e6]
      exact s_end (h _ _ _ (hp.mid hpre hpost))

theorem s_tdel1 (ok : BtDOk G c) {t v4 d b : Nat} {L L' : List G.It} {k : κ} {old : Cel G.nv} {had : Bool} {Q : Array Value → Bool → K} (hs : Srt c L) (hL : L.length < 1000000000) (hp : DelR c (G.z0 ok.vz) L k L' old had) (h : HG B (TreeR G.toBtT c t L' :: Γ) (Q old.1.toArray had)) :
    HG B (valB G.toBtT v4 old :: blk t (.cells [.pointer (some ⟨b, 0, none⟩), .int .i64 L.length].toArray G.tT (0, 0)) :: NodeR G.toBtT d 1 b L' :: Γ) (tdel_s1 G Q ⟨t, 0, none⟩ ⟨v4, 0, none⟩ had) := by
  have hlen := hp.len
  unfold tdel_s1
  refine s_ite (fun hb => ?_) fun hb => ?_
  · rw [hb, if_pos rfl] at hlen
    repeat first | refine s_nx ?_ | refine s_ai ?_
    unfold tdel_s2
    rw [show ((L.length : Nat) : Int) - 1 = ((L'.length : Nat) : Int) by omega]
    refine s_ret3 (v := old) ?_
    refine s_own b ?_
    refine s_own t ?_
    exact s_mkTree (hp.srt hs) (s_end h)
  · rw [hb, if_neg (by simp)] at hlen
    unfold tdel_s2
    rw [show ((L.length : Nat) : Int) = ((L'.length : Nat) : Int) by omega]
    refine s_ret3 (v := old) ?_
    refine s_own b ?_
    refine s_own t ?_
    exact s_mkTree (hp.srt hs) (s_end h)
/-- Delete. -/
theorem tdel_spec (ok : BtDOk G c) {t : Nat} {L : List G.It} {k : κ} {Q : Array Value → Bool → K} (hL : L.length < 1000000000) (h : ∀ L' old had, DelR c (G.z0 ok.vz) L k L' old had → HG B (TreeR G.toBtT c t L' :: Γ) (Q old.1.toArray had)) :
    HG B (TreeR G.toBtT c t L :: Γ) (tdel G (some ⟨t, 0, none⟩) k Q) := by
  have okT := ok.toBtOk
  refine s_tree fun d b hs => ?_
  unfold tdel
  refine s_new fun v4 => ?_
  repeat refine s_nx ?_
  refine s_pick (NodeR G.toBtT d 1 b L) ?_
  refine ntake_spec ok d (m := 1) (Nat.le_refl _) hs fun M' old had hp => ?_
  have h := h M' old had hp
  refine s_stN (b := v4) ?_ okT.vz.1 old.2.1 old.2.2
  repeat refine s_nx ?_
  refine s_own b ?_
  refine s_raw fun s kd its ks hf hl _ hM => ?_
  refine s_cap s fun a1 a2 a3 a4 => ?_
  refine s_cap kd fun b1 b2 b3 b4 => ?_
  have hsn := its_n a1
  have hkn := kps_n b1
  rw [List.length_map] at hkn
  repeat refine s_nx ?_
  have back : ((d = 0 ∧ 1 = 1) ∨ its ≠ []) → HG B (rawL G.toBtT d b s kd its ks (valB G.toBtT v4 old :: blk t (.cells [.pointer (some ⟨b, 0, none⟩), .int .i64 L.length].toArray G.tT (0, 0)) :: Γ)) (tdel_s3 G Q ⟨t, 0, none⟩ ⟨v4, 0, none⟩ had false) := fun hb => by
    refine s_unraw (m := 1) hf hl (fun _ => hb) ?_
    rw [← hM]
    unfold tdel_s3
    repeat refine s_nx ?_
    refine s_own b ?_
    refine s_own t ?_
    refine s_pick (valB G.toBtT v4 old) ?_
    exact s_tdel1 ok hs hL hp h
  refine s_ite (fun hb => ?_) fun hb => ?_
  · have hn : its = [] := List.length_eq_zero_iff.1 (by simp only [decide_eq_true_eq] at hb; omega)
    subst hn
    repeat refine s_nx ?_
    cases d with
    | zero =>
      have hk : ks = [] := hf
      subst hk
      rw [show decide ((kd.n : Int) = 1) = false by simp only [List.length_nil] at hkn; simp; omega]
      exact s_end (back (.inl ⟨rfl, rfl⟩))
    | succ d =>
      obtain ⟨q, rfl⟩ : ∃ q, ks = [q] := List.length_eq_one_iff.1 hf
      simp only [List.length_cons, List.length_nil] at hkn
      rw [show decide ((kd.n : Int) = 1) = true by simp; omega]
      unfold tdel_s3
      repeat refine s_nx ?_
      refine s_idx (s := kd) (i := 0) ?_
      refine s_ldE0 (s := kd) (x := ptr q) (by simp) ?_
      refine s_st (b := t) (v := .pointer (some ⟨q.1, 0, none⟩)) ?_
      refine s_pick (kidsD G.toBtT (d + 1) [q]) ?_
      refine s_conv (A' := kidsR G.toBtT d [q]) (fun _ h => h) ?_
      refine s_kid (A := []) (C := []) (q := q) ?_
      refine s_conv (NodeR.weak (m' := 1) (by simp) (by simp)) ?_
      have e : q.2 = M' := hM.symm
      rw [e]
      refine s_pick (NodeR G.toBtT d 1 q.1 M') ?_
      refine s_own t ?_
      refine s_pick (valB G.toBtT v4 old) ?_
      refine s_tdel1 ok hs hL hp ?_
      exact s_end h
  · have hn : its ≠ [] := fun h0 => by
      rw [h0, List.length_nil] at hsn
      simp only [decide_eq_false_iff_not] at hb; omega
    exact s_end (back (.inr hn))
end
end Bt
end Go.Sep
/- The store: values that come and go. -/
namespace Go.Proofs.YtfjjocopmknhgaaGreat
open Go Go.Sep Go.Sep.Bt
set_option linter.unusedSimpArgs false
set_option linter.unusedVariables false
set_option maxRecDepth 100000

noncomputable def btSD : BtD ByteArray where
  toBtT := btS
  delIC := slices_Delete_s_btree_item_string_api_Record_btree_item_string_api_Record.call
  delKC := slices_Delete_s_btree_node_string_api_Record_btree_node_string_api_Record.call
  ntakeC := btree_node_string_api_Record_take.call
  nlastC := btree_node_string_api_Record_last.call
  nmendC := btree_node_string_api_Record_mend.call
theorem btSD_ok : BtDOk btSD cmpS where
  toBtOk := btS_ok
  delI := ⟨_, fun s i j Q w h => slices_Delete_s_btree_item_string_api_Record_btree_item_string_api_Record_ok _ _ _ _ _ h⟩
  delK := ⟨_, fun s i j Q w h => slices_Delete_s_btree_node_string_api_Record_btree_node_string_api_Record_ok _ _ _ _ _ h⟩
  take := fun n k Q w h => btree_node_string_api_Record_take_ok _ _ _ _ h
  last := fun n Q w h => btree_node_string_api_Record_last_ok _ _ _ h
  mend := fun n i Q w h => btree_node_string_api_Record_mend_ok _ _ _ _ h

def delM (M : Recs) (k : ByteArray) : Recs := M.filter fun x => !decide (x.1 = k)
def setM (M : Recs) (k : ByteArray) (r : Rec) : Recs := if r.has = false ∧ r.cnt = 0 then delM M k else putM M k r
theorem getM_del (M : Recs) (k k' : ByteArray) : getM (delM M k) k' = if k' = k then none else getM M k' := by
  unfold getM delM
  rw [List.find?_filter]
  split
  · rename_i h
    subst h
    rw [List.find?_eq_none.2 (fun x _ => by simp)]; rfl
  · rename_i h
    congr 2
    funext x
    by_cases h2 : x.1 = k
    · simp [h2, Ne.symm h]
    · by_cases h3 : x.1 = k' <;> simp [h2, h3, h]
theorem sGet_set (n : Nat) (M : Recs) (k k' : ByteArray) (r : Rec) : sGet n (setM M k r) k' = if k' = k then (if r.has = false ∧ r.cnt = 0 then ⟨false, [], homeOf k.toList n, 0⟩ else r) else sGet n M k' := by
  unfold setM
  split
  · unfold sGet
    rw [getM_del]
    split
    · rename_i h; rw [h]; rfl
    · rfl
  · rw [sGet_put]
theorem delM_none {M : Recs} {k : ByteArray} (h : ∀ x ∈ M, x.1 ≠ k) : delM M k = M := List.filter_eq_self.2 fun x hx => by simpa using h x hx
theorem delM_mid {A C : Recs} {k : ByteArray} {r : Rec} (hA : ∀ x ∈ A, x.1 ≠ k) (hC : ∀ x ∈ C, x.1 ≠ k) : delM (A ++ (k, r) :: C) k = A ++ C := by
  unfold delM
  rw [List.filter_append, List.filter_cons_of_neg (by simp)]
  exact congr (congrArg _ (delM_none hA)) (delM_none hC)
theorem setM_len (M : Recs) (k : ByteArray) (r : Rec) : (setM M k r).length ≤ M.length + 1 := by
  unfold setM
  split
  · have := List.length_filter_le (fun x => !decide (x.1 = k)) M
    unfold delM; omega
  · exact putM_len _ _ _
section
variable {B : World} {Γ Δ : List HProp}
theorem btDel_spec {t : Nat} {L : List btS.It} {k : ByteArray} {Q : Array Value → Bool → K} (hL : L.length < 1000000000) (h : ∀ L' old had, DelR cmpS (btS.z0 btS_ok.vz) L k L' old had → HG B (TreeR btS cmpS t L' :: Γ) (Q old.1.toArray had)) :
    HG B (TreeR btS cmpS t L :: Γ) (btree_Tree_string_api_Record_Delete.call (some ⟨t, 0, none⟩) k Q) := fun w hw =>
  btree_Tree_string_api_Record_Delete_ok _ _ _ _ (show tdel btSD (some ⟨t, 0, none⟩) k Q w from hg hw (tdel_spec btSD_ok hL h))
theorem gt_of_srt {X Y : List RecX} {k : ByteArray} {r : Rec × Sl} (h : Srt cmpS ((X ++ (k, r) :: Y).map recI)) : ∀ x ∈ Y, cmpS k x.1 < 0 := fun x hx => by
  rw [List.map_append, List.map_cons] at h
  exact (List.pairwise_cons.1 (List.pairwise_append.1 h).2.1).1 (recI x) (List.mem_map.2 ⟨x, hx, rfl⟩)
/-- A key goes. -/
theorem storeDel_hg {st t n : Nat} {X : List RecX} {k : ByteArray} {q : Array Value → Bool → K} (hok : ∀ x ∈ X.map recM, x.2.ok) (h1 : 1 ≤ n) (h3 : n ≤ 3) (hL : X.length < 1000000000)
    (h : ∀ a b, HG B (StoreR st n (delM (X.map recM) k) :: Γ) (q a b)) :
    HG B (blk st (.cells [.int .i64 n, .pointer (some ⟨t, 0, none⟩)].toArray ty_store_Store (0, 0)) :: TreeR btS cmpS t (X.map recI) :: Sep.stars (X.map recB) :: Γ) (btree_Tree_string_api_Record_Delete.call (some ⟨t, 0, none⟩) k q) := by
  refine s_own t ?_
  refine tree_srt fun hs => ?_
  refine btDel_spec (by simpa using hL) fun L' old had hp => ?_
  rcases hp with ⟨A, C, e, rfl, rfl⟩ | ⟨⟨A, C, e, hA, hC⟩, rfl, rfl, rfl⟩
  · obtain ⟨XA, r0, XC, rfl, rfl, rfl, rfl⟩ := split_rec e
    have e2 : delM ((XA ++ (k, r0) :: XC).map recM) k = (XA ++ XC).map recM := by
      rw [List.map_append, List.map_cons, List.map_append]
      refine delM_mid (fun x hx => ?_) fun x hx => ?_
      · obtain ⟨y, hy, rfl⟩ := List.mem_map.1 hx
        exact ne_of_lt (lt_of_srt hs y hy)
      · obtain ⟨y, hy, rfl⟩ := List.mem_map.1 hx
        exact Ne.symm (ne_of_lt (gt_of_srt hs y hy))
    rw [e2] at h
    refine s_pick (Sep.stars ((XA ++ (k, r0) :: XC).map recB)) ?_
    refine s_mid ?_
    rw [show XA.map recI ++ XC.map recI = (XA ++ XC).map recI by simp]
    refine s_pick (Sep.stars ((XA ++ XC).map recB)) ?_
    refine s_own t ?_
    refine s_own st ?_
    refine s_mkStore (fun x hx => hok x ?_) h1 h3 (s_end (h _ _))
    rw [List.map_append] at hx ⊢
    rcases List.mem_append.1 hx with hx | hx
    · exact List.mem_append_left _ hx
    · exact List.mem_append_right _ (List.mem_cons_of_mem _ hx)
  · have e2 : delM (X.map recM) k = X.map recM := delM_none fun x hx => by
      obtain ⟨y, hy, rfl⟩ := List.mem_map.1 hx
      have hy2 : recI y ∈ A ++ C := by rw [← e]; exact List.mem_map.2 ⟨y, hy, rfl⟩
      rcases List.mem_append.1 hy2 with h4 | h4
      · exact ne_of_lt (hA _ h4)
      · exact Ne.symm (ne_of_lt (hC _ h4))
    rw [e2] at h
    refine s_pick (Sep.stars (X.map recB)) ?_
    refine s_own t ?_
    refine s_own st ?_
    exact s_mkStore hok h1 h3 (s_end (h _ _))
theorem storeSetM_spec {st n : Nat} {M : Recs} {k : ByteArray} {r : Rec} {s : Sl} {q : K} (hr : r.ok) (hL : M.length < 1000000000) (h : HG B (StoreR st n (setM M k r) :: Γ) q) : HG B (StoreR st n M :: Bytes ty_uint8 s r.val :: Γ) (store_Store_set.call (some ⟨st, 0, none⟩) k (recA r s) q) := by
  unfold setM at h
  split at h
  · rename_i h0
    refine fun w hw => store_Store_set_ok _ _ _ _ _ ?_
    refine hg hw ?_
    clear hw w
    refine s_store fun t X hM hok h1 h3 => ?_
    subst hM
    unfold store_Store_set
    refine s_new fun r5 => ?_
    repeat refine s_nx ?_
    refine s_t ?_ (by simp [h0.1])
    repeat refine s_nx ?_
    rw [show decide (r.cnt = 0) = true by simpa using h0.2]
    unfold store_Store_set.s1
    repeat refine s_nx ?_
    refine s_pick (Sep.stars (X.map recB)) ?_
    refine s_own t ?_
    refine s_own st ?_
    exact storeDel_hg hok h1 h3 (by simpa using hL) fun _ _ => s_end h
  · rename_i h0
    refine storeSet_spec hr ?_ hL h
    by_cases h1 : r.has = true
    · exact .inl h1
    · exact .inr fun h2 => h0 ⟨by simpa using h1, h2⟩
/-- A key gets a value. -/
theorem storePutV_spec {st n : Nat} {M : Recs} {k : ByteArray} {v : Sl} {xs : List UInt8} {q : K} (hk : k.size < 1000000000000) (hL : M.length < 1000000000) (hr : ∀ w, Holds B Γ w → RdB w v xs) (hx : xs.length ≤ 1000000000)
    (h : HG B (StoreR st n (setM M k { sGet n M k with has := true, val := xs }) :: Γ) q) : HG B (StoreR st n M :: Γ) (store_Store_Put.call (some ⟨st, 0, none⟩) k v q) := by
  refine fun w hw => store_Store_Put_ok _ _ _ _ _ ?_
  refine hg hw ?_
  clear hw w
  unfold store_Store_Put
  refine storeGet_spec hk fun s hok => ?_
  generalize sGet n M k = r at *
  refine s_new fun r6 => ?_
  refine s_stN (b := r6) (l' := recL r s) ?_
  refine bytesClone_hg (fun w hw => hr w hw.drops) hx fun s' _ => ?_
  repeat refine s_nx ?_
  refine s_ownS s' ?_
  refine s_own st ?_
  obtain ⟨o1, o2, o3⟩ := hok
  refine storeSetM_spec (r := { r with has := true, val := xs }) ⟨o1, o2, hx⟩ hL ?_
  exact s_end h
/-- A key's value goes. -/
theorem storeDelete_spec {st n : Nat} {M : Recs} {k : ByteArray} {q : K} (hk : k.size < 1000000000000) (hL : M.length < 1000000000)
    (h : HG B (StoreR st n (setM M k { sGet n M k with has := false, val := [] }) :: Γ) q) : HG B (StoreR st n M :: Γ) (store_Store_Delete.call (some ⟨st, 0, none⟩) k q) := by
  refine fun w hw => store_Store_Delete_ok _ _ _ _ ?_
  refine hg hw ?_
  clear hw w
  unfold store_Store_Delete
  refine storeGet_spec hk fun s hok => ?_
  generalize sGet n M k = r at *
  refine s_new fun r6 => ?_
  refine s_stN (b := r6) (l' := recL r s) ?_
  repeat refine s_nx ?_
  refine fun w hw => ?_
  refine hg (show Holds B (Bytes ty_uint8 ⟨none, 0, 0⟩ [] :: _) w from hw.nilSl ty_uint8 1) ?_
  clear hw w
  refine s_ownS ⟨none, 0, 0⟩ ?_
  refine s_own st ?_
  obtain ⟨o1, o2, o3⟩ := hok
  refine storeSetM_spec (r := { r with has := false, val := [] }) ⟨o1, o2, by simp⟩ hL ?_
  exact s_end h
end
end Go.Proofs.YtfjjocopmknhgaaGreat
/- Plain forms of functions, and that their code comes to them (package ref06). -/
namespace Go.Proofs.YtfjjocopmknhgaaGreat
open Go Go.Sep
set_option linter.unusedVariables false
set_option linter.unusedSimpArgs false
set_option maxRecDepth 100000
set_option maxHeartbeats 4000000
attribute [local irreducible] G Gp Cx Tx Ex Sx Dx Ox Ax Lx Rx Fx Bx Bj Al Do Ld LdN St StN New CallF Ar DoU Rd Rd2 Pu Cd Ite Fv CallV CallY Ans0 Ans1 Ans2 Ans3 Ans4 Ans5 Ext Dead Dr WithS Sv LdS LdNS RdS Rd2S Nn Idx IdxA IdxS Fld Bld Slc SlcS Cat All LoopK RangeF RangeJ TakeD
namespace F_IRRef06
instance at_47 : AT Tryz.prog 47 4 := ⟨by kernel_rfl⟩
instance at_75 : AT Tryz.prog 75 5 := ⟨by kernel_rfl⟩
instance cb_103 : CB Tryz.prog 103 := ⟨by kernel_rfl⟩
instance cb_62 : CB Tryz.prog 62 := ⟨by kernel_rfl⟩
instance cb_66 : CB Tryz.prog 66 := ⟨by kernel_rfl⟩
instance cb_69 : CB Tryz.prog 69 := ⟨by kernel_rfl⟩
instance ct_3 : CT Tryz.prog 3 := ⟨by kernel_rfl⟩
instance ct_35 : CT Tryz.prog 35 := ⟨by kernel_rfl⟩
instance ct_4 : CT Tryz.prog 4 := ⟨by kernel_rfl⟩
instance ct_45 : CT Tryz.prog 45 := ⟨by kernel_rfl⟩
instance ct_60 : CT Tryz.prog 60 := ⟨by kernel_rfl⟩
instance ct_9 : CT Tryz.prog 9 := ⟨by kernel_rfl⟩
instance ft_47_0 : FT Tryz.prog 47 0 0 1 := ⟨by kernel_rfl⟩
instance ft_47_1 : FT Tryz.prog 47 1 1 1 := ⟨by kernel_rfl⟩
instance ft_47_2 : FT Tryz.prog 47 2 2 1 := ⟨by kernel_rfl⟩
instance ft_47_3 : FT Tryz.prog 47 3 3 1 := ⟨by kernel_rfl⟩
instance ft_66_0 : FT Tryz.prog 66 0 0 1 := ⟨by kernel_rfl⟩
instance ft_66_1 : FT Tryz.prog 66 1 1 1 := ⟨by kernel_rfl⟩
instance ft_75_0 : FT Tryz.prog 75 0 0 1 := ⟨by kernel_rfl⟩
instance ft_75_1 : FT Tryz.prog 75 1 1 4 := ⟨by kernel_rfl⟩
instance in_3 : INT Tryz.prog 3 .i64 := ⟨by kernel_rfl⟩
instance in_35 : INT Tryz.prog 35 .u64 := ⟨by kernel_rfl⟩
instance in_5 : INT Tryz.prog 5 .u8 := ⟨by kernel_rfl⟩
instance mx : MX Tryz.prog := ⟨mixed⟩
instance pl_47 : PLT Tryz.prog 47 [(0, 1), (1, 1), (2, 1), (3, 1)] := ⟨_, Tryz.underlying47, by kernel_rfl⟩
instance pl_66 : PLT Tryz.prog 66 [(0, 1), (1, 1)] := ⟨_, Tryz.underlying66, by kernel_rfl⟩
instance pl_75 : PLT Tryz.prog 75 [(0, 1), (1, 4)] := ⟨_, Tryz.underlying75, by kernel_rfl⟩
instance sl_45 : SLT Tryz.prog 45 5 1 := ⟨by kernel_rfl⟩
instance sl_60 : SLT Tryz.prog 60 75 5 := ⟨by kernel_rfl⟩
instance st_9 : STT Tryz.prog 9 := ⟨by kernel_rfl⟩
instance sz_3 : SZ Tryz.prog 3 1 := ⟨by kernel_rfl⟩
instance sz_35 : SZ Tryz.prog 35 1 := ⟨by kernel_rfl⟩
instance sz_47 : SZ Tryz.prog 47 4 := ⟨by kernel_rfl⟩
instance sz_60 : SZ Tryz.prog 60 1 := ⟨by kernel_rfl⟩
instance un_4 : UN Tryz.prog 4 .bool := ⟨Tryz.underlying4⟩
instance zt_47 : ZT Tryz.prog 47 (.agg #[(.bool false), (Sl.val ⟨none, 0, 0⟩), (.int .i64 0), (.int .u64 0)]) := ⟨Tryz.t47, by kernel_rfl, by kernel_rfl⟩
instance zt_5 : ZT Tryz.prog 5 (.int .u8 0) := ⟨Tryz.t5, by kernel_rfl, by kernel_rfl⟩
instance zt_66 : ZT Tryz.prog 66 (.agg #[(.int .i64 0), (Sl.val ⟨none, 0, 0⟩)]) := ⟨Tryz.t66, by kernel_rfl, by kernel_rfl⟩
instance zt_75 : ZT Tryz.prog 75 (.agg #[(.string ⟨#[]⟩), (.bool false), (Sl.val ⟨none, 0, 0⟩), (.int .i64 0), (.int .u64 0)]) := ⟨Tryz.t75, by kernel_rfl, by kernel_rfl⟩
end F_IRRef06
def ref06_Same.s2 (Q : Bool → K) (X1 : Int → K) (a0_2 : Sl) (b1_2 : Sl) (i5_2 : Int) (t41_2 : Bool) : K :=
  Ite t41_2
    (Q false)
    (Ar (IntKind.wrap .i64 (i5_2 + 1)) fun t16 =>
    X1 t16)
def ref06_Same.b1 (Q : Bool → K)  (X1 : Int → K) (a0_1 : Sl) (b1_1 : Sl) (i5_1 : Int) : K :=
  Ite (decide (i5_1 < (a0_1.n : Int)))
    (Dr <|
    Idx a0_1 i5_1 5 fun t19 =>
    Idx b1_1 i5_1 5 fun t24 =>
    Ld t19 Value.string fun t21 =>
    Ld t24 Value.string fun t26 =>
    Ite (!(t21.toList == t26.toList))
      (ref06_Same.s2 Q X1 a0_1 b1_1 i5_1 true)
      (Idx a0_1 i5_1 5 fun t31 =>
      Idx b1_1 i5_1 5 fun t36 =>
      LdN (t31.add 1) 4 fun t33 =>
      LdN (t36.add 1) 4 fun t38 =>
      ref06_SameRecord.call t33 t38 fun t39 =>
      ref06_Same.s2 Q X1 a0_1 b1_1 i5_1 (!t39)))
    (Q true)
def ref06_Same (a0 : Sl) (b1 : Sl) (Q : Bool → K) : K :=
  Ite (decide ((a0.n : Int) ≠ (b1.n : Int)))
    (Q false)
    (LoopK (α := Int) (fun X x => ref06_Same.b1 Q X a0 b1 x) 0)
theorem ref06_Same_ok (a0 : Sl) (b1 : Sl) (Q : Bool → K) (w : World) (h : ref06_Same a0 b1 Q w) : ref06_Same.call a0 b1 Q w := by
  have hJ7 : ∀ (X1 : Int → K), XH 4 X1 → JH 7 fun D => ∃ (a0_2 : Sl) (b1_2 : Sl) (i5_2 : Int), D [(0, (Sl.val a0_2)), (1, (Sl.val b1_2)), (5, (.int .i64 i5_2))] (fun C => ∀ (t41_2 : Bool), C [(0, (Sl.val a0_2)), (1, (Sl.val b1_2)), (5, (.int .i64 i5_2)), (41, (.bool t41_2))] (ref06_Same.s2 Q X1 a0_2 b1_2 i5_2 t41_2)) := by intros; exact ⟨fun _ ⟨_, _, _, h⟩ => ⟨_, _, h⟩⟩
  have hD6 : DH 6 1 [22] (.s [0, 1, 2, 3, 5, 6, 7, 8, 4, 9, 10, 11] (.i (.s [12, 13, 14, 15, 16, 17, 18, 19, 20, 21, 22, 23, 24] .e) (.s [12, 13, 14, 15, 17, 18, 19, 20, 16, 21] (.a [(22, 0, .s [23, 24] .e)])))) := by intros; exact ⟨⟩
  have hL4 : ∀ (a0_1 : Sl) (b1_1 : Sl), LH 4 (fun x : Int => [(0, (Sl.val a0_1)), (1, (Sl.val b1_1)), (5, (.int .i64 x))]) (fun X x => ref06_Same.b1 Q X a0_1 b1_1 x) := by intros; exact ⟨⟩
  exact g_walk 42 h Tryz.func22
def ref06_New (regions0 : Int) (Q : (Option Addr) → K) : K :=
  New 66 #[(.int .i64 regions0), (Sl.val ⟨none, 0, 0⟩)] fun t5 =>
  Q (some t5)
theorem ref06_New_ok (regions0 : Int) (Q : (Option Addr) → K) (w : World) (h : ref06_New regions0 Q w) : ref06_New.call regions0 Q w := by
  exact g_walk 6 h Tryz.func33
def ref06_Store_Move.s1 (Q : Int → K)  (s0_1 : (Option Addr)) (key1_1 : ByteArray) (home2_1 : Int) (t17_1 : Bool) : K :=
  Ite t17_1
    (Q 1)
    (ref06_Store_Get.call s0_1 key1_1 fun t20 =>
    New 47 #[(.bool false), (Sl.val ⟨none, 0, 0⟩), (.int .i64 0), (.int .u64 0)] fun r7 =>
    StN r7 4 t20 <|
    Ld (r7.add 3) (Value.int .u64) fun t22 =>
    Ite (decide (t22 = 18446744073709551615))
      (Q 111)
      (St (r7.add 2) (.int .i64 home2_1) <|
      Ld (r7.add 3) (Value.int .u64) fun t27 =>
      Ar (IntKind.wrap .u64 (t27 + 1)) fun t28 =>
      St (r7.add 3) (.int .u64 t28) <|
      LdN r7 4 fun t32 =>
      ref06_Store_Set.call s0_1 key1_1 t32 <|
      Q 0))
def ref06_Store_Move (s0 : (Option Addr)) (key1 : ByteArray) (home2 : Int) (Q : Int → K) : K :=
  Ite (decide (home2 < 0))
    (ref06_Store_Move.s1 Q s0 key1 home2 true)
    (Nn s0 fun t13 =>
    Ld t13 (Value.int .i64) fun t15 =>
    ref06_Store_Move.s1 Q (some t13) key1 home2 (decide (t15 ≤ home2)))
theorem ref06_Store_Move_ok (s0 : (Option Addr)) (key1 : ByteArray) (home2 : Int) (Q : Int → K) (w : World) (h : ref06_Store_Move s0 key1 home2 Q w) : ref06_Store_Move.call s0 key1 home2 Q w := by
  have hJ2 : JH 2 fun D => ∃ (s0_1 : (Option Addr)) (key1_1 : ByteArray) (home2_1 : Int), D [(0, (.pointer s0_1)), (1, (.string key1_1)), (2, (.int .i64 home2_1))] (fun C => ∀ (t17_1 : Bool), C [(0, (.pointer s0_1)), (1, (.string key1_1)), (2, (.int .i64 home2_1)), (17, (.bool t17_1))] (ref06_Store_Move.s1 Q s0_1 key1_1 home2_1 t17_1)) := by intros; exact ⟨fun _ ⟨_, _, _, h⟩ => ⟨_, _, h⟩⟩
  exact g_walk 34 h Tryz.func49
def ref06_Store_Put (s0 : (Option Addr)) (key1 : ByteArray) (value2 : Sl) (Q : K) : K :=
  ref06_Store_Get.call s0 key1 fun t9 =>
  New 47 #[(.bool false), (Sl.val ⟨none, 0, 0⟩), (.int .i64 0), (.int .u64 0)] fun r6 =>
  StN r6 4 t9 <|
  Dr <| WithS fun S =>
  LdS S (r6.add 2) (Value.int .i64) fun t16 =>
  LdS S (r6.add 3) (Value.int .u64) fun t18 =>
  New 5 #[] fun t12 =>
  Sv S <|
  Do Tryz.prog (Builtin.append_ #[45, 45] 45 #[(Sl.val (Sl.mk (some t12) 0 0)), (Sl.val value2)]) Sl.val fun t14 =>
  Sv S <|
  ref06_Store_Set.call s0 key1 #[(.bool true), (Sl.val t14), (.int .i64 t16), (.int .u64 t18)] <|
  Q
theorem ref06_Store_Put_ok (s0 : (Option Addr)) (key1 : ByteArray) (value2 : Sl) (Q : K) (w : World) (h : ref06_Store_Put s0 key1 value2 Q w) : ref06_Store_Put.call s0 key1 value2 Q w := by
  have hD1 : DH 1 2 [10] (.s [0, 1, 3, 5, 7, 6, 8] (.a [(2, 1, .a [(4, 1, .s [9] (.a [(10, 0, .e)]))])])) := by intros; exact ⟨⟩
  exact g_walk 21 h Tryz.func57
def ref06_SameRecord.s1 (Q : Bool → K)  (t4_1 : Bool) : K :=
  Q t4_1
def ref06_SameRecord (a0 : (Array Value)) (b1 : (Array Value)) (Q : Bool → K) : K :=
  New 47 a0 fun a2 =>
  New 47 b1 fun b3 =>
  Ld a2 Value.bool fun t6 =>
  Ld b3 Value.bool fun t8 =>
  Ite (t6 == t8)
    (Ld (a2.add 1) Sl.val fun t12 =>
    Rd Tryz.prog (convert 45 9 (Sl.val t12)) Value.string fun t13 =>
    Ld (b3.add 1) Sl.val fun t15 =>
    Rd Tryz.prog (convert 45 9 (Sl.val t15)) Value.string fun t16 =>
    Ite (t13.toList == t16.toList)
      (Ld (a2.add 2) (Value.int .i64) fun t21 =>
      Ld (b3.add 2) (Value.int .i64) fun t23 =>
      Ite (decide (t21 = t23))
        (Ld (a2.add 3) (Value.int .u64) fun t28 =>
        Ld (b3.add 3) (Value.int .u64) fun t30 =>
        ref06_SameRecord.s1 Q (decide (t28 = t30)))
        (ref06_SameRecord.s1 Q false))
      (ref06_SameRecord.s1 Q false))
    (ref06_SameRecord.s1 Q false)
theorem ref06_SameRecord_ok (a0 : (Array Value)) (b1 : (Array Value)) (Q : Bool → K) (w : World) (h : ref06_SameRecord a0 b1 Q w) : ref06_SameRecord.call a0 b1 Q w := by
  have hJ1000001 : JH 1000001 fun D => D [] (fun C => ∀ (t4_1 : Bool), C [(4, (.bool t4_1))] (ref06_SameRecord.s1 Q t4_1)) := by intros; exact ⟨fun _ h => ⟨_, _, h⟩⟩
  exact g_walk 33 h Tryz.func62
def ref06_Store_Copy (s0 : (Option Addr)) (Q : (Option Addr) → K) : K :=
  Dr <| WithS fun S =>
  Nn s0 fun t4 =>
  LdS S t4 (Value.int .i64) fun t6 =>
  LdS S (t4.add 1) Sl.val fun t11 =>
  New 75 #[] fun t7 =>
  Sv S <|
  Do Tryz.prog (Builtin.append_ #[60, 60] 60 #[(Sl.val (Sl.mk (some t7) 0 0)), (Sl.val t11)]) Sl.val fun t12 =>
  Sv S <|
  New 66 #[(.int .i64 t6), (Sl.val t12)] fun t14 =>
  Q (some t14)
theorem ref06_Store_Copy_ok (s0 : (Option Addr)) (Q : (Option Addr) → K) (w : World) (h : ref06_Store_Copy s0 Q w) : ref06_Store_Copy.call s0 Q w := by
  have hD1 : DH 1 2 [11] (.s [0, 1, 2, 5, 6, 7, 3, 8] (.a [(4, 1, .a [(9, 1, .s [10] (.a [(11, 0, .s [12] .e)]))])])) := by intros; exact ⟨⟩
  exact g_walk 15 h Tryz.func65
def ref06_Store_Get.b1 (Q : (Array Value) → K)  (X1 : Int → K) (s0_1 : (Option Addr)) (key1_1 : ByteArray) (t4_1 : Addr) (i5_1 : Int) : K :=
  Nn s0_1 fun t8 =>
  Ld (t8.add 1) Sl.val fun t10 =>
  Ite (decide (i5_1 < (t10.n : Int)))
    (Ld (t8.add 1) Sl.val fun t18 =>
    Idx t18 i5_1 5 fun t20 =>
    Ld t20 Value.string fun t22 =>
    Ite (t22.toList == key1_1.toList)
      (Ld (t8.add 1) Sl.val fun t28 =>
      Idx t28 i5_1 5 fun t30 =>
      LdN (t30.add 1) 4 fun t32 =>
      StN t4_1 4 t32 <|
      LdN t4_1 4 fun r0 =>
      Q r0)
      (Ar (IntKind.wrap .i64 (i5_1 + 1)) fun t14 =>
      X1 t14))
    (Ld t8 (Value.int .i64) fun t37 =>
    ref06_Default.call key1_1 t37 fun t38 =>
    StN t4_1 4 #[(.bool false), (Sl.val ⟨none, 0, 0⟩), (.int .i64 t38), (.int .u64 0)] <|
    LdN t4_1 4 fun r0 =>
    Q r0)
def ref06_Store_Get (s0 : (Option Addr)) (key1 : ByteArray) (Q : (Array Value) → K) : K :=
  New 47 #[(.bool false), (Sl.val ⟨none, 0, 0⟩), (.int .i64 0), (.int .u64 0)] fun t4 =>
  LoopK (α := Int) (fun X x => ref06_Store_Get.b1 Q X s0 key1 t4 x) 0
theorem ref06_Store_Get_ok (s0 : (Option Addr)) (key1 : ByteArray) (Q : (Array Value) → K) (w : World) (h : ref06_Store_Get s0 key1 Q w) : ref06_Store_Get.call s0 key1 Q w := by
  have hL2 : ∀ (s0_1 : (Option Addr)) (key1_1 : ByteArray) (t4_1 : Addr), LH 2 (fun x : Int => [(0, (.pointer s0_1)), (1, (.string key1_1)), (4, (.pointer (some t4_1))), (5, (.int .i64 x))]) (fun X x => ref06_Store_Get.b1 Q X s0_1 key1_1 t4_1 x) := by intros; exact ⟨⟩
  exact g_walk 40 h Tryz.func66
def ref06_Store_Set.s3 (Q : K) (X2 : Sl → Bool → Int → K) (s0_3 : Addr) (key1_3 : ByteArray) (r5_3 : Addr) (out6_3 : Sl) (keep7_3 : Bool) (i8_3 : Int) : K :=
  Ar (IntKind.wrap .i64 (i8_3 + 1)) fun t25 =>
  X2 out6_3 keep7_3 t25
def ref06_Store_Set.s4 (Q : K) (X2 : Sl → Bool → Int → K) (s0_4 : Addr) (key1_4 : ByteArray) (r5_4 : Addr) (out6_4 : Sl) (keep7_4 : Bool) (i8_4 : Int) : K :=
  Ld (s0_4.add 1) Sl.val fun t48 =>
  Idx t48 i8_4 5 fun t50 =>
  Ld t50 Value.string fun t52 =>
  Ite (!(t52.toList == key1_4.toList))
    (Ld (s0_4.add 1) Sl.val fun t59 =>
    Idx t59 i8_4 5 fun t61 =>
    LdN t61 5 fun t62 =>
    Bld #[(.string ⟨#[]⟩), (.bool false), (Sl.val ⟨none, 0, 0⟩), (.int .i64 0), (.int .u64 0)] (fun i => some (i * 5, 5)) [(0, (.agg t62))] fun ct63 =>
    New 75 ct63 fun t63 =>
    Do Tryz.prog (Builtin.append_ #[60, 60] 60 #[(Sl.val out6_4), (Sl.val (Sl.mk (some t63) 1 1))]) Sl.val fun t64 =>
    ref06_Store_Set.s3 Q X2 s0_4 key1_4 r5_4 t64 keep7_4 i8_4)
    (ref06_Store_Set.s3 Q X2 s0_4 key1_4 r5_4 out6_4 keep7_4 i8_4)
def ref06_Store_Set.s5 (Q : K) (X2 : Sl → Bool → Int → K) (s0_5 : Addr) (key1_5 : ByteArray) (r5_5 : Addr) (out6_5 : Sl) (keep7_5 : Bool) (i8_5 : Int) (t38_5 : Bool) : K :=
  Ite t38_5
    (LdN r5_5 4 fun t41 =>
    Bld #[(.string ⟨#[]⟩), (.bool false), (Sl.val ⟨none, 0, 0⟩), (.int .i64 0), (.int .u64 0)] ([(0, 1), (1, 4)][·]?) [(0, (.string key1_5)), (1, (.agg t41))] fun t42 =>
    Bld #[(.string ⟨#[]⟩), (.bool false), (Sl.val ⟨none, 0, 0⟩), (.int .i64 0), (.int .u64 0)] (fun i => some (i * 5, 5)) [(0, (.agg t42))] fun ct43 =>
    New 75 ct43 fun t43 =>
    Do Tryz.prog (Builtin.append_ #[60, 60] 60 #[(Sl.val out6_5), (Sl.val (Sl.mk (some t43) 1 1))]) Sl.val fun t44 =>
    ref06_Store_Set.s4 Q X2 s0_5 key1_5 r5_5 t44 false i8_5)
    (ref06_Store_Set.s4 Q X2 s0_5 key1_5 r5_5 out6_5 keep7_5 i8_5)
def ref06_Store_Set.s6 (Q : K) (X2 : Sl → Bool → Int → K) (s0_6 : Addr) (out6_6 : Sl) : K :=
  St (s0_6.add 1) (Sl.val out6_6) <|
  Q
def ref06_Store_Set.b2 (Q : K)  (X2 : Sl → Bool → Int → K) (s0_2 : (Option Addr)) (key1_2 : ByteArray) (r5_2 : Addr) (out6_2 : Sl) (keep7_2 : Bool) (i8_2 : Int) : K :=
  Nn s0_2 fun t19 =>
  Ld (t19.add 1) Sl.val fun t21 =>
  Ite (decide (i8_2 < (t21.n : Int)))
    (Ite keep7_2
      (Ld (t19.add 1) Sl.val fun t31 =>
      Idx t31 i8_2 5 fun t33 =>
      Ld t33 Value.string fun t35 =>
      ref06_Store_Set.s5 Q X2 t19 key1_2 r5_2 out6_2 true i8_2 (!(Op.bytesLess t35.toList key1_2.toList || t35.toList == key1_2.toList)))
      (ref06_Store_Set.s5 Q X2 t19 key1_2 r5_2 out6_2 false i8_2 false))
    (Ite keep7_2
      (LdN r5_2 4 fun t68 =>
      Bld #[(.string ⟨#[]⟩), (.bool false), (Sl.val ⟨none, 0, 0⟩), (.int .i64 0), (.int .u64 0)] ([(0, 1), (1, 4)][·]?) [(0, (.string key1_2)), (1, (.agg t68))] fun t69 =>
      Bld #[(.string ⟨#[]⟩), (.bool false), (Sl.val ⟨none, 0, 0⟩), (.int .i64 0), (.int .u64 0)] (fun i => some (i * 5, 5)) [(0, (.agg t69))] fun ct70 =>
      New 75 ct70 fun t70 =>
      Do Tryz.prog (Builtin.append_ #[60, 60] 60 #[(Sl.val out6_2), (Sl.val (Sl.mk (some t70) 1 1))]) Sl.val fun t71 =>
      ref06_Store_Set.s6 Q X2 t19 t71)
      (ref06_Store_Set.s6 Q X2 t19 out6_2))
def ref06_Store_Set.s1 (Q : K)  (s0_1 : (Option Addr)) (key1_1 : ByteArray) (r5_1 : Addr) (out6_1 : Sl) (keep7_1 : Bool) : K :=
  LoopK (α := Sl × Bool × Int) (fun X x => ref06_Store_Set.b2 Q (fun out6_2 keep7_2 i8_2 => X (out6_2, keep7_2, i8_2)) s0_1 key1_1 r5_1 x.1 x.2.1 x.2.2) (out6_1, keep7_1, 0)
def ref06_Store_Set (s0 : (Option Addr)) (key1 : ByteArray) (r2 : (Array Value)) (Q : K) : K :=
  New 47 r2 fun r5 =>
  Dr <| WithS fun S =>
  LdS S r5 Value.bool fun t11 =>
  Ite t11
    (New 75 #[] fun t9 =>
    Sv S <|
    ref06_Store_Set.s1 Q s0 key1 r5 (Sl.mk (some t9) 0 0) true)
    (LdS S (r5.add 3) (Value.int .u64) fun t14 =>
    New 75 #[] fun t9 =>
    Sv S <|
    ref06_Store_Set.s1 Q s0 key1 r5 (Sl.mk (some t9) 0 0) (decide ((0 : Int) < t14)))
theorem ref06_Store_Set_ok (s0 : (Option Addr)) (key1 : ByteArray) (r2 : (Array Value)) (Q : K) (w : World) (h : ref06_Store_Set s0 key1 r2 Q w) : ref06_Store_Set.call s0 key1 r2 Q w := by
  have hJ4 : ∀ (X2 : (Sl × Bool × Int) → K), XH 3 X2 → JH 4 fun D => ∃ (s0_3 : Addr) (key1_3 : ByteArray) (r5_3 : Addr) (i8_3 : Int), D [(0, (.pointer (some s0_3))), (1, (.string key1_3)), (5, (.pointer (some r5_3))), (8, (.int .i64 i8_3))] (fun C => ∀ (out6_3 : Sl) (keep7_3 : Bool), C [(0, (.pointer (some s0_3))), (1, (.string key1_3)), (5, (.pointer (some r5_3))), (6, (Sl.val out6_3)), (7, (.bool keep7_3)), (8, (.int .i64 i8_3))] (ref06_Store_Set.s3 Q (fun out6_2 keep7_2 i8_2 => X2 (out6_2, keep7_2, i8_2)) s0_3 key1_3 r5_3 out6_3 keep7_3 i8_3)) := by intros; exact ⟨fun _ ⟨_, _, _, _, h⟩ => ⟨_, _, h⟩⟩
  have hJ8 : ∀ (X2 : (Sl × Bool × Int) → K), XH 3 X2 → JH 8 fun D => ∃ (s0_4 : Addr) (key1_4 : ByteArray) (r5_4 : Addr) (i8_4 : Int), D [(0, (.pointer (some s0_4))), (1, (.string key1_4)), (5, (.pointer (some r5_4))), (8, (.int .i64 i8_4))] (fun C => ∀ (out6_4 : Sl) (keep7_4 : Bool), C [(0, (.pointer (some s0_4))), (1, (.string key1_4)), (5, (.pointer (some r5_4))), (6, (Sl.val out6_4)), (7, (.bool keep7_4)), (8, (.int .i64 i8_4))] (ref06_Store_Set.s4 Q (fun out6_2 keep7_2 i8_2 => X2 (out6_2, keep7_2, i8_2)) s0_4 key1_4 r5_4 out6_4 keep7_4 i8_4)) := by intros; exact ⟨fun _ ⟨_, _, _, _, h⟩ => ⟨_, _, h⟩⟩
  have hJ6 : ∀ (X2 : (Sl × Bool × Int) → K), XH 3 X2 → JH 6 fun D => ∃ (s0_5 : Addr) (key1_5 : ByteArray) (r5_5 : Addr) (out6_5 : Sl) (i8_5 : Int), D [(0, (.pointer (some s0_5))), (1, (.string key1_5)), (5, (.pointer (some r5_5))), (6, (Sl.val out6_5)), (8, (.int .i64 i8_5))] (fun C => ∀ (keep7_5 : Bool) (t38_5 : Bool), C [(0, (.pointer (some s0_5))), (1, (.string key1_5)), (5, (.pointer (some r5_5))), (6, (Sl.val out6_5)), (7, (.bool keep7_5)), (8, (.int .i64 i8_5)), (38, (.bool t38_5))] (ref06_Store_Set.s5 Q (fun out6_2 keep7_2 i8_2 => X2 (out6_2, keep7_2, i8_2)) s0_5 key1_5 r5_5 out6_5 keep7_5 i8_5 t38_5)) := by intros; exact ⟨fun _ ⟨_, _, _, _, _, h⟩ => ⟨_, _, h⟩⟩
  have hJ12 : ∀ (X2 : (Sl × Bool × Int) → K), XH 3 X2 → JH 12 fun D => ∃ (s0_6 : Addr), D [(0, (.pointer (some s0_6)))] (fun C => ∀ (out6_6 : Sl), C [(0, (.pointer (some s0_6))), (6, (Sl.val out6_6))] (ref06_Store_Set.s6 Q (fun out6_2 keep7_2 i8_2 => X2 (out6_2, keep7_2, i8_2)) s0_6 out6_6)) := by intros; exact ⟨fun _ ⟨_, h⟩ => ⟨_, _, h⟩⟩
  have hL3 : ∀ (s0_2 : (Option Addr)) (key1_2 : ByteArray) (r5_2 : Addr), LH 3 (fun x : Sl × Bool × Int => [(0, (.pointer s0_2)), (1, (.string key1_2)), (5, (.pointer (some r5_2))), (6, (Sl.val x.1)), (7, (.bool x.2.1)), (8, (.int .i64 x.2.2))]) (fun X x => ref06_Store_Set.b2 Q (fun out6_2 keep7_2 i8_2 => X (out6_2, keep7_2, i8_2)) s0_2 key1_2 r5_2 x.1 x.2.1 x.2.2) := by intros; exact ⟨⟩
  have hJ2 : JH 2 fun D => ∃ (s0_1 : (Option Addr)) (key1_1 : ByteArray) (r5_1 : Addr), D [(0, (.pointer s0_1)), (1, (.string key1_1)), (5, (.pointer (some r5_1)))] (fun C => ∀ (out6_1 : Sl) (keep7_1 : Bool), C [(0, (.pointer s0_1)), (1, (.string key1_1)), (5, (.pointer (some r5_1))), (6, (Sl.val out6_1)), (7, (.bool keep7_1))] (ref06_Store_Set.s1 Q s0_1 key1_1 r5_1 out6_1 keep7_1)) := by intros; exact ⟨fun _ ⟨_, _, _, h⟩ => ⟨_, _, h⟩⟩
  have hD1 : DH 1 2 [] (.s [1, 2, 3] (.i (.s [4, 5, 6, 7] (.a [(0, 1, .s [8, 9] .e)])) (.s [4, 5, 6, 7] (.a [(0, 1, .s [8, 9] .e)])))) := by intros; exact ⟨⟩
  exact g_walk 76 h Tryz.func69
def ref06_Default.b1 (Q : Int → K)  (X1 : Int → Int → K) (key0_1 : ByteArray) (regions1_1 : Int) (sum5_1 : Int) (i6_1 : Int) : K :=
  Ite (decide (i6_1 < (key0_1.size : Int)))
    (IdxS key0_1 i6_1 fun t18 =>
    Ar (IntKind.wrap .u64 t18) fun t19 =>
    Ar (IntKind.wrap .u64 (sum5_1 + t19)) fun t20 =>
    Ar (IntKind.wrap .i64 (i6_1 + 1)) fun t14 =>
    X1 t20 t14)
    (Ar (IntKind.wrap .u64 regions1_1) fun t23 =>
    Cd (t23 ≠ 0) <|
    Ar (Int.tmod sum5_1 t23) fun t24 =>
    Ar (IntKind.wrap .i64 t24) fun t25 =>
    Q t25)
def ref06_Default (key0 : ByteArray) (regions1 : Int) (Q : Int → K) : K :=
  Ite (decide (regions1 < 1))
    (Q 0)
    (LoopK (α := Int × Int) (fun X x => ref06_Default.b1 Q (fun sum5_1 i6_1 => X (sum5_1, i6_1)) key0 regions1 x.1 x.2) (0, 0))
theorem ref06_Default_ok (key0 : ByteArray) (regions1 : Int) (Q : Int → K) (w : World) (h : ref06_Default key0 regions1 Q w) : ref06_Default.call key0 regions1 Q w := by
  have hL5 : ∀ (key0_1 : ByteArray) (regions1_1 : Int), LH 5 (fun x : Int × Int => [(0, (.string key0_1)), (1, (.int .i64 regions1_1)), (5, (.int .u64 x.1)), (6, (.int .i64 x.2))]) (fun X x => ref06_Default.b1 Q (fun sum5_1 i6_1 => X (sum5_1, i6_1)) key0_1 regions1_1 x.1 x.2) := by intros; exact ⟨⟩
  exact g_walk 26 h Tryz.func103
def ref06_Store_Delete (s0 : (Option Addr)) (key1 : ByteArray) (Q : K) : K :=
  ref06_Store_Get.call s0 key1 fun t7 =>
  New 47 #[(.bool false), (Sl.val ⟨none, 0, 0⟩), (.int .i64 0), (.int .u64 0)] fun r4 =>
  StN r4 4 t7 <|
  Ld (r4.add 2) (Value.int .i64) fun t11 =>
  Ld (r4.add 3) (Value.int .u64) fun t13 =>
  ref06_Store_Set.call s0 key1 #[(.bool false), (Sl.val ⟨none, 0, 0⟩), (.int .i64 t11), (.int .u64 t13)] <|
  Q
theorem ref06_Store_Delete_ok (s0 : (Option Addr)) (key1 : ByteArray) (Q : K) (w : World) (h : ref06_Store_Delete s0 key1 Q w) : ref06_Store_Delete.call s0 key1 Q w := by
  exact g_walk 16 h Tryz.func104
end Go.Proofs.YtfjjocopmknhgaaGreat
/- The document's store. -/
namespace Go.Proofs.YtfjjocopmknhgaaGreat
open Go Go.Sep Go.Sep.Bt
set_option linter.unusedSimpArgs false
set_option linter.unusedVariables false
set_option maxRecDepth 100000

abbrev rowF6 (x : RecX) : List Value := [.string x.1, .bool x.2.1.has, x.2.2.val, .int .i64 x.2.1.home, .int .u64 x.2.1.cnt]
theorem rowF6_len (x : RecX) : (rowF6 x).length = 5 := rfl
theorem rowF6_fl (L : List RecX) : ∀ v ∈ L.flatMap rowF6, flatV v = true := fun v hv => by
  obtain ⟨x, _, hx⟩ := List.mem_flatMap.1 hv
  simp only [rowF6, List.mem_cons, List.not_mem_nil, or_false] at hx
  rcases hx with rfl | rfl | rfl | rfl | rfl <;> rfl
/-- Values that are never written. -/
abbrev Pool := List (Sl × List UInt8)
abbrev poolR (P : Pool) : HProp := Sep.stars (P.map fun p => Bytes ty_uint8 p.1 p.2)
def inP (P : Pool) (s : Sl) (xs : List UInt8) : Prop := (xs = [] ∧ s.n = 0) ∨ (s, xs) ∈ P
theorem inP.mono {P P' : Pool} {s : Sl} {xs : List UInt8} (h : inP P s xs) (hP : ∀ x ∈ P, x ∈ P') : inP P' s xs := h.imp id (hP _)
theorem rd_empty {w : World} {s : Sl} (h : s.n = 0) : RdB w s [] := ⟨by simp [h], fun _ => h, fun a _ i hi => by simp at hi⟩
theorem stars_mem' {B w : World} {Γ : List HProp} {α : Type} {F : α → HProp} {l : List α} {x : α} (hx : x ∈ l) (h : Holds B (Sep.stars (l.map F) :: Γ) w) : ∃ Δ, Holds B (F x :: Δ) w := by
  obtain ⟨A, C, rfl⟩ := List.append_of_mem hx
  exact ⟨_, ((Holds.flat.1 h).perm mid_perm).perm List.perm_middle⟩
theorem inP.rd {B w : World} {Γ : List HProp} {P : Pool} {s : Sl} {xs : List UInt8} (h : inP P s xs) (hw : Holds B (poolR P :: Γ) w) : RdB w s xs := by
  rcases h with ⟨rfl, h⟩ | h
  · exact rd_empty h
  · obtain ⟨Δ, h2⟩ := stars_mem' h hw
    exact h2.rdC List.mem_cons_self
theorem homeOf_sum (l : List UInt8) {n : Nat} (hn : 1 ≤ n) : homeOf l n = l.foldl (fun s b => s + b.toNat) 0 % n := by
  unfold homeOf
  have key : ∀ (l : List UInt8) (a b : Nat), a = b % n → l.foldl (fun s b => (s + b.toNat) % n) a = l.foldl (fun s b => s + b.toNat) b % n := by
    intro l
    induction l with
    | nil => intro a b h; exact h
    | cons x l ih => intro a b h; exact ih _ _ (by show (a + x.toNat) % n = (b + x.toNat) % n; rw [h, Nat.mod_add_mod])
  exact key l 0 0 (by simp)
theorem sum_le (l : List UInt8) (a : Nat) : l.foldl (fun s b => s + b.toNat) a ≤ a + 255 * l.length := by
  induction l generalizing a with
  | nil => simp
  | cons x l ih =>
    have h1 := ih (a + x.toNat)
    have h2 : x.toNat < 256 := x.toNat_lt
    simp only [List.foldl_cons, List.length_cons]; omega
/-! ### rows, a key set -/
def set6 {ν : Type} (k : ByteArray) (r : ν) : Bool → List (ByteArray × ν) → List (ByteArray × ν)
  | keep, [] => if keep then [(k, r)] else []
  | keep, x :: M => (if keep && decide (0 < cmpS x.1 k) then [(k, r)] else []) ++ (if x.1 = k then [] else [x]) ++ set6 k r (keep && !decide (0 < cmpS x.1 k)) M
theorem set6_map {k : ByteArray} {r : Rec} {s : Sl} : ∀ (keep : Bool) (X : List RecX), (set6 k (r, s) keep X).map recM = set6 k r keep (X.map recM)
  | keep, [] => by cases keep <;> rfl
  | keep, x :: X => by
    rw [set6, List.map_cons, set6, List.map_append, List.map_append, set6_map]
    congr 1
    congr 1
    · split <;> rfl
    · by_cases h : x.1 = k <;> simp [h]
theorem set6_none {k : ByteArray} {r : Rec} : ∀ {M : Recs}, set6 k r false M = delM M k
  | [] => rfl
  | x :: M => by
    rw [set6, Bool.false_and, Bool.false_and, set6_none]
    unfold delM
    by_cases h : x.1 = k
    · simp [h]
    · simp [h]
theorem set6_some {k : ByteArray} {r : Rec} : ∀ {M : Recs}, Srt cmpS M → set6 k r true M = putM M k r
  | [], _ => rfl
  | x :: M, hs => by
    have hs2 := List.pairwise_cons.1 hs
    rw [set6, putM]
    simp only [Bool.true_and]
    by_cases h1 : cmpS x.1 k < 0
    · have h2 : ¬ 0 < cmpS x.1 k := by omega
      have h3 : x.1 ≠ k := ne_of_lt h1
      rw [if_pos h1]
      simp only [h2, decide_false, Bool.false_eq_true, if_false, h3, List.nil_append, Bool.not_false]
      rw [set6_some hs2.2]; rfl
    · rw [if_neg h1]
      by_cases h3 : x.1 = k
      · have h2 : ¬ 0 < cmpS x.1 k := by rw [cmpS_zero.2 h3]; omega
        have h2' : ¬ 0 < cmpS k k := by rw [cmpS_zero.2 rfl]; omega
        rw [if_pos h3]
        simp only [h2, h2', decide_false, Bool.false_eq_true, if_false, h3, if_true, List.nil_append, Bool.not_false]
        cases M with
        | nil => rfl
        | cons y M =>
          have hy : 0 < cmpS y.1 k := by rw [← btS_ok.sw, ← h3]; exact hs2.1 y List.mem_cons_self
          have hyk : y.1 ≠ k := fun e => by rw [cmpS_zero.2 e] at hy; omega
          rw [set6]
          simp only [hy, decide_true, Bool.and_true, if_true, hyk, if_false, Bool.not_true, Bool.and_false]
          rw [set6_none, delM_none fun z hz => by
            have h5 : cmpS x.1 z.1 < 0 := hs2.1 z (List.mem_cons_of_mem _ hz)
            rw [h3] at h5; exact Ne.symm (ne_of_lt h5)]
          rfl
      · have h2 : 0 < cmpS x.1 k := by
          rcases Int.lt_trichotomy (cmpS x.1 k) 0 with h | h | h
          · exact absurd h h1
          · exact absurd (cmpS_zero.1 h) h3
          · exact h
        rw [if_neg h3]
        simp only [h2, decide_true, if_true, h3, if_false, Bool.not_true]
        rw [set6_none, delM_none fun z hz => by
          have h5 : cmpS x.1 z.1 < 0 := hs2.1 z hz
          have h6 : cmpS k x.1 < 0 := btS_ok.sw.2 h2
          exact Ne.symm (ne_of_lt (btS_ok.tr h6 h5))]
        rfl
theorem putM_srt {M : Recs} {k : ByteArray} {r : Rec} (hs : Srt cmpS M) : Srt cmpS (putM M k r) := by
  induction M with
  | nil => exact List.pairwise_singleton _ _
  | cons x M ih =>
    have hs2 := List.pairwise_cons.1 hs
    unfold putM
    split
    · rename_i h1
      refine List.pairwise_cons.2 ⟨fun y hy => ?_, ih hs2.2⟩
      rcases putM_mem hy with rfl | hy
      · exact h1
      · exact hs2.1 y hy
    · split
      · rename_i h1 h3
        exact List.pairwise_cons.2 ⟨fun y hy => by rw [← h3]; exact hs2.1 y hy, hs2.2⟩
      · rename_i h1 h3
        have h2 : cmpS k x.1 < 0 := by
          rw [btS_ok.sw]
          rcases Int.lt_trichotomy (cmpS x.1 k) 0 with h | h | h
          · exact absurd h h1
          · exact absurd (cmpS_zero.1 h) h3
          · exact h
        refine List.pairwise_cons.2 ⟨fun y hy => ?_, hs⟩
        rcases List.mem_cons.1 hy with rfl | hy
        · exact h2
        · exact btS_ok.tr h2 (hs2.1 y hy)
theorem setM_srt {M : Recs} {k : ByteArray} {r : Rec} (hs : Srt cmpS M) : Srt cmpS (setM M k r) := by
  unfold setM
  split
  · exact List.Pairwise.sublist List.filter_sublist hs
  · exact putM_srt hs

/-- The document's store. -/
structure R6 (n : Nat) (M : Recs) (P : Pool) (X : List RecX) : Prop where
  mod : M = X.map recM
  ok : ∀ x ∈ X, x.2.1.ok ∧ inP P x.2.2 x.2.1.val
  n1 : 1 ≤ n
  n3 : n ≤ 3
  srt : Srt cmpS M
abbrev ref6L (st n : Nat) (rs : Sl) (X : List RecX) (Γ : List HProp) : List HProp := blk st (.cells [.int .i64 n, rs.val].toArray ty_argosyref06_Store (0, 0)) :: SlC ty_api_Row 5 rs (X.flatMap rowF6) :: Γ
def Ref6 (st n : Nat) (M : Recs) (P : Pool) : HProp := ex fun rs => ex fun X : List RecX => Sep.stars (pur (R6 n M P X) :: ref6L st n rs X [])
section
variable {B : World} {Γ Δ : List HProp} {k : K} {st n : Nat} {M : Recs} {P : Pool}
instance (priority := high) own_ref6 : Sep.Own st (Ref6 st n M P :: Γ) (Ref6 st n M P) Γ := ⟨.refl _⟩
theorem s_ref6 (h : ∀ rs X, R6 n M P X → HG B (ref6L st n rs X Γ) k) : HG B (Ref6 st n M P :: Γ) k :=
  s_ex fun rs => s_ex fun X => s_flat <| s_pur fun h1 => h rs X h1
theorem s_mkRef6 {rs : Sl} {X : List RecX} (h1 : R6 n M P X) (h : HG B (Ref6 st n M P :: Γ) k) : HG B (ref6L st n rs X Γ) k := fun w hw => by
  refine h w ?_
  have h3 : Holds B (Sep.stars (pur (R6 n M P X) :: ref6L st n rs X []) :: Γ) w := Holds.flat.2 (Holds.pur.2 ⟨h1, hw⟩)
  exact h3.imp fun g hg => ⟨rs, X, hg⟩
theorem s_ref6P {P' : Pool} (hP : ∀ x ∈ P, x ∈ P') (h : HG B (Ref6 st n M P' :: Γ) k) : HG B (Ref6 st n M P :: Γ) k :=
  s_ref6 fun rs X h1 => s_mkRef6 ⟨h1.mod, fun x hx => ⟨(h1.ok x hx).1, (h1.ok x hx).2.mono hP⟩, h1.n1, h1.n3, h1.srt⟩ h
theorem new6_hg {Q : Option Addr → K} (h1 : 1 ≤ n) (h3 : n ≤ 3) (h : ∀ st, HG B (Ref6 st n [] P :: Γ) (Q (some ⟨st, 0, none⟩))) : HG B Γ (ref06_New.call (n : Int) Q) := by
  refine fun w hw => ref06_New_ok _ _ _ ?_
  refine hg hw ?_
  clear hw w
  unfold ref06_New
  refine s_new fun st => ?_
  refine fun w hw => ?_
  refine Sep.hg (show Holds B (SlC ty_api_Row 5 ⟨none, 0, 0⟩ (([] : List RecX).flatMap rowF6) :: _) w from hw.nilSl _ _) ?_
  clear hw w
  refine s_swap ?_
  exact s_mkRef6 ⟨rfl, by simp, h1, h3, List.Pairwise.nil⟩ (h st)
theorem default6_hg {k : ByteArray} {Q : Int → K} (h1 : 1 ≤ n) (hn : n ≤ 1000) (hk : k.size < 1000000000000) (h : HG B Γ (Q (homeOf k.toList n : Nat))) : HG B Γ (ref06_Default.call k (n : Int) Q) := by
  refine fun w hw => ref06_Default_ok _ _ _ _ ?_
  refine hg hw ?_
  clear hw w
  unfold ref06_Default
  refine s_f ?_
  obtain ⟨l, rfl⟩ := bs_of k
  rw [bs_list] at h
  have hsz : (bs l).size = l.length := rfl
  refine s_loopC (fun x : Int × Int => ∃ i s : Nat, x = ((s : Int), (i : Int)) ∧ i ≤ l.length ∧ s = (l.take i).foldl (fun s b => s + b.toNat) 0) (fun x => l.length - x.2.toNat) ⟨0, 0, rfl, Nat.zero_le _, rfl⟩ fun k' x hx hk' => ?_
  obtain ⟨i, s, rfl, hi, hs⟩ := hx
  have hsl := sum_le (l.take i) 0
  rw [← hs, List.length_take] at hsl
  unfold ref06_Default.b1
  dsimp only
  refine s_ite (fun hb => ?_) fun hb => ?_
  · have hil : i < l.length := by simp only [decide_eq_true_eq] at hb; omega
    have hb8 : l[i].toNat < 256 := l[i].toNat_lt
    refine fun w hw => ⟨(l[i].toNat : Int), l[i], by omega, ?_, rfl, Sep.hg hw ?_⟩
    · show (bs l)[((i : Nat) : Int).toNat]? = _
      rw [Int.toNat_natCast]
      exact Array.getElem?_eq_getElem (xs := l.toArray) (by simpa using hil)
    refine s_ar (e' := (l[i].toNat : Int)) (by rw [wrapU64 (by omega) (by omega)]) ?_
    refine s_ar (e' := ((s + l[i].toNat : Nat) : Int)) (by rw [wrapU64 (by omega) (by omega)]; omega) ?_
    refine s_ai ?_
    refine hk' _ ⟨i + 1, s + l[i].toNat, by simp, hil, ?_⟩ (by simp only; omega)
    rw [hs, List.take_succ_eq_append_getElem hil, List.foldl_append]; rfl
  · have hil : i = l.length := by simp only [decide_eq_false_iff_not] at hb; omega
    rw [hil, List.take_length] at hs
    refine s_ar (e' := (n : Int)) (by rw [wrapU64 (by omega) (by omega)]) ?_
    refine s_cd (by omega) ?_
    have hm : s % n < n := Nat.mod_lt _ (by omega)
    refine s_ar (e' := ((s % n : Nat) : Int)) (by rw [Int.tmod_eq_emod_of_nonneg (by omega)]; simp) ?_
    refine s_ai ?_
    rw [homeOf_sum l h1, ← hs] at h
    exact h
theorem get6_hg {k : ByteArray} {Q : Array Value → K} (hk : k.size < 1000000000000) (hL : M.length < 100000000) (h : ∀ s, (sGet n M k).ok → inP P s (sGet n M k).val → HG B (Ref6 st n M P :: Γ) (Q (recA (sGet n M k) s))) : HG B (Ref6 st n M P :: Γ) (ref06_Store_Get.call (some ⟨st, 0, none⟩) k Q) := by
  refine fun w hw => ref06_Store_Get_ok _ _ _ _ ?_
  refine hg hw ?_
  clear hw w
  refine s_ref6 fun rs X hf => ?_
  have hXl : X.length = M.length := by rw [hf.mod]; simp
  unfold ref06_Store_Get
  refine s_new fun t4 => ?_
  refine s_cap rs fun a1 a2 a3 a4 => ?_
  rw [flatMap_len _ 5 rowF6_len] at a1
  refine s_loopC (α := Int) (fun x => ∃ i : Nat, x = (i : Int) ∧ i ≤ X.length ∧ ∀ y ∈ X.take i, y.1 ≠ k) (fun x => X.length - x.toNat) ⟨0, rfl, Nat.zero_le _, by simp⟩ fun k' x hx hk' => ?_
  obtain ⟨i, rfl, hi, hno⟩ := hx
  unfold ref06_Store_Get.b1
  repeat refine s_nx ?_
  refine s_ite (fun hb => ?_) fun hb => ?_
  · have hil : i < X.length := by simp only [decide_eq_true_eq] at hb; omega
    have hge : X[i]? = some X[i] := List.getElem?_eq_getElem hil
    have hmem : X[i] ∈ X := List.getElem_mem hil
    have htk : X.take (i + 1) = X.take i ++ [X[i]] := List.take_succ_eq_append_getElem hil
    have hdr := List.drop_eq_getElem_cons hil
    generalize X[i] = x at hge hmem htk hdr
    repeat refine s_nx ?_
    refine s_idxF0 rowF6 (c := Value.string) (v := x.1) rowF6_len (fun w hw => (own_rd (s := rs) hw).1) hge rfl ?_
    refine s_ite (fun hc => ?_) fun hc => ?_
    · have hxk : x.1 = k := by rwa [str_inj] at hc
      have hr : sGet n M k = x.2.1 := by
        unfold sGet
        have : getM M k = some x.2.1 := by
          rw [hf.mod, ← List.take_append_drop i X, hdr, List.map_append, List.map_cons]
          rw [show recM x = (k, x.2.1) by rw [← hxk]]
          exact getM_mid fun y hy => by
            obtain ⟨z, hz, rfl⟩ := List.mem_map.1 hy
            exact hno z hz
        rw [this]; rfl
      rw [hr] at h
      repeat refine s_nx ?_
      refine s_idx (s := rs) (i := i) ?_
      refine s_ldEN (s := rs) (off := 1) (l' := recL x.2.1 x.2.2) ?_ rfl ?_
      · have := flatMap_el rowF6_len hge
        have e : ((X.flatMap rowF6).drop (i * 5 + 1)).take 4 = (((X.flatMap rowF6).drop (i * 5)).take 5).drop 1 := by rw [← List.drop_drop, List.drop_take]
        rw [e, this]; rfl
      repeat refine s_nx ?_
      refine s_ownS rs ?_
      refine s_own st ?_
      exact s_mkRef6 hf (s_end (h _ (hf.ok x hmem).1 (hf.ok x hmem).2))
    · have hxk : x.1 ≠ k := fun e => by rw [e, str_inj.2 rfl] at hc; cases hc
      refine s_ai ?_
      refine hk' _ ⟨i + 1, by simp, hil, fun y hy => ?_⟩ (by omega)
      rw [htk] at hy
      rcases List.mem_append.1 hy with hy | hy
      · exact hno y hy
      · rw [List.mem_singleton.1 hy]; exact hxk
  · have hil : i = X.length := by simp only [decide_eq_false_iff_not] at hb; omega
    rw [hil, List.take_length] at hno
    have hr : sGet n M k = ⟨false, [], homeOf k.toList n, 0⟩ := by
      unfold sGet
      rw [hf.mod, getM_none fun y hy => by
        obtain ⟨z, hz, rfl⟩ := List.mem_map.1 hy
        exact hno z hz]
      rfl
    rw [hr] at h
    repeat refine s_nx ?_
    refine default6_hg hf.n1 (by have := hf.n3; omega) hk ?_
    refine s_stN (b := t4) (l' := recL ⟨false, [], homeOf k.toList n, 0⟩ ⟨none, 0, 0⟩) ?_
    repeat refine s_nx ?_
    refine s_ownS rs ?_
    refine s_own st ?_
    exact s_mkRef6 hf (s_end (h ⟨none, 0, 0⟩ ⟨by simp, by simp, by simp⟩ (.inl ⟨rfl, rfl⟩)))
theorem set6_hg {k : ByteArray} {r : Rec} {s : Sl} {Q : K} (hr : r.ok) (hv : inP P s r.val) (hL : M.length < 10000000) (h : HG B (Ref6 st n (setM M k r) P :: Γ) Q) : HG B (Ref6 st n M P :: Γ) (ref06_Store_Set.call (some ⟨st, 0, none⟩) k (recA r s) Q) := by
  refine fun w hw => ref06_Store_Set_ok _ _ _ _ _ ?_
  refine hg hw ?_
  clear hw w
  refine s_ref6 fun rs X hf => ?_
  have hXl : X.length = M.length := by rw [hf.mod]; simp
  refine s_cap rs fun a1 a2 a3 a4 => ?_
  rw [flatMap_len _ 5 rowF6_len] at a1
  unfold ref06_Store_Set
  refine s_new fun r5 => ?_
  -- the rows, anew
  have rows : ∀ (t9 : Nat) (keep : Bool), (keep = true ↔ ¬ (r.has = false ∧ r.cnt = 0)) → HG B (blk t9 (.cells ([] : List Value).toArray ty_api_Row (0, 0)) :: blk r5 (.cells (recL r s).toArray ty_api_Record (0, 0)) :: ref6L st n rs X Γ) (ref06_Store_Set.s1 Q (some ⟨st, 0, none⟩) k ⟨r5, 0, none⟩ (Sl.mk (some ⟨t9, 0, none⟩) 0 0) keep) := fun t9 keep hkp => by
    have hset : set6 k r keep M = setM M k r := by
      unfold setM
      by_cases hk : r.has = false ∧ r.cnt = 0
      · have : keep = false := by cases hc : keep with
          | false => rfl
          | true => exact absurd hk (hkp.1 hc)
        rw [if_pos hk, this, set6_none]
      · rw [if_neg hk, hkp.2 hk, set6_some hf.srt]
    unfold ref06_Store_Set.s1
    refine s_conv (A' := SlC ty_api_Row 5 ⟨some ⟨t9, 0, none⟩, 0, 0⟩ (([] : List RecX).flatMap rowF6)) (blk_SlC (vs := []) rfl (by simp)) ?_
    refine s_loop (α := Sl × Bool × Int) (ι := Nat × List RecX) (fun x i => x.2.2 = (i.1 : Int) ∧ i.1 ≤ X.length ∧ i.2.length ≤ 2 * i.1 ∧ i.2 ++ set6 k (r, s) x.2.1 (X.drop i.1) = set6 k (r, s) keep X ∧ ∀ y ∈ i.2, y.2.1.ok ∧ inP P y.2.2 y.2.1.val)
      (fun x i => SlC ty_api_Row 5 x.1 (i.2.flatMap rowF6) :: blk r5 (.cells (recL r s).toArray ty_api_Record (0, 0)) :: ref6L st n rs X Γ) (fun x i => X.length - i.1) (0, []) ⟨rfl, Nat.zero_le _, by simp, by simp, by simp⟩ ?_
    rintro k' ⟨o, kp, _⟩ ⟨i, Y⟩ ⟨rfl, hi, hYl, he, hok⟩ hk'
    simp only at hi hYl he hok hk' ⊢
    unfold ref06_Store_Set.b2
    refine s_cap o fun b1 b2 b3 b4 => ?_
    rw [flatMap_len _ 5 rowF6_len] at b1
    have add : ∀ (x : RecX) (ct : Nat) (o : Sl) (Y : List RecX), rowF6 x = rowF6 x → True := fun _ _ _ _ _ => trivial
    repeat refine s_nx ?_
    refine s_ite (fun hb => ?_) fun hb => ?_
    · have hil : i < X.length := by simp only [decide_eq_true_eq] at hb; omega
      have hge : X[i]? = some X[i] := List.getElem?_eq_getElem hil
      have hmem : X[i] ∈ X := List.getElem_mem hil
      rw [List.drop_eq_getElem_cons hil] at he
      generalize X[i] = x at hge hmem he
      rw [set6] at he
      -- the row that was there
      have old : ∀ (o : Sl) (Y : List RecX) (kp' : Bool), o.n = Y.length → Y.length ≤ 2 * i + 1 → Y ++ ((if x.1 = k then [] else [x]) ++ set6 k (r, s) kp' (X.drop (i + 1))) = set6 k (r, s) keep X → (∀ y ∈ Y, y.2.1.ok ∧ inP P y.2.2 y.2.1.val) →
          HG B (SlC ty_api_Row 5 o (Y.flatMap rowF6) :: blk r5 (.cells (recL r s).toArray ty_api_Record (0, 0)) :: ref6L st n rs X Γ) (ref06_Store_Set.s4 Q (fun out6_2 keep7_2 i8_2 => k' (out6_2, keep7_2, i8_2)) ⟨st, 0, none⟩ k ⟨r5, 0, none⟩ o kp' (i : Int)) := fun o Y kp' hon hYl he hok => by
        unfold ref06_Store_Set.s4
        repeat refine s_nx ?_
        refine s_idxF0 rowF6 (c := Value.string) (v := x.1) rowF6_len (fun w hw => (own_rd (s := rs) hw).1) hge rfl ?_
        unfold ref06_Store_Set.s3
        refine s_ite (fun hc => ?_) fun hc => ?_
        · have hxk : x.1 ≠ k := fun e => by rw [e, str_inj.2 rfl] at hc; cases hc
          rw [if_neg hxk] at he
          repeat refine s_nx ?_
          refine s_idxN rowF6 rowF6_len (fun w hw => (own_rd (s := rs) hw).1) hge ?_
          repeat refine s_nx ?_
          refine s_new fun t63 => ?_
          refine s_append (s := o) (esz := 5) (us := rowF6 x) (blk_rd rfl) (by intro v hv; exact rowF6_fl [x] v (by simpa using hv)) (by simp only; omega) fun o2 _ => ?_
          rw [show Y.flatMap rowF6 ++ rowF6 x = (Y ++ [x]).flatMap rowF6 by simp only [List.flatMap_append, List.flatMap_cons, List.flatMap_nil, List.append_nil]]
          refine s_ai ?_
          refine s_end (hk' (o2, kp', (i : Int) + 1) (i + 1, Y ++ [x]) ⟨by simp, hil, by simp; omega, by simp only; rw [← he]; simp, fun y hy => ?_⟩ (by simp only; omega))
          rcases List.mem_append.1 hy with hy | hy
          · exact hok y hy
          · rw [List.mem_singleton.1 hy]; exact hf.ok x hmem
        · have hxk : x.1 = k := by
            have : (x.1.toList == k.toList) = true := by simpa using hc
            rwa [str_inj] at this
          rw [if_pos hxk] at he
          refine s_ai ?_
          exact s_end (hk' (o, kp', (i : Int) + 1) (i + 1, Y) ⟨by simp, hil, by simp only; omega, by simpa using he, hok⟩ (by simp only; omega))
      have noIns : (kp && decide (0 < cmpS x.1 k)) = false → HG B (SlC ty_api_Row 5 o (Y.flatMap rowF6) :: blk r5 (.cells (recL r s).toArray ty_api_Record (0, 0)) :: ref6L st n rs X Γ) (ref06_Store_Set.s5 Q (fun out6_2 keep7_2 i8_2 => k' (out6_2, keep7_2, i8_2)) ⟨st, 0, none⟩ k ⟨r5, 0, none⟩ o kp (i : Int) false) := fun hni => by
        unfold ref06_Store_Set.s5
        refine s_f ?_
        refine old o Y kp (by omega) (by omega) ?_ hok
        rw [hni] at he
        have e2 : (kp && !decide (0 < cmpS x.1 k)) = kp := by cases kp <;> simp_all
        rw [e2] at he
        simpa using he
      refine s_ite (fun hkp1 => ?_) fun hkp1 => ?_
      · subst hkp1
        repeat refine s_nx ?_
        refine s_idxF0 rowF6 (c := Value.string) (v := x.1) rowF6_len (fun w hw => (own_rd (s := rs) hw).1) hge rfl ?_
        rw [gt_dec]
        by_cases hgt : k.toList < x.1.toList
        · have hpos : 0 < cmpS x.1 k := cmpS_pos.2 hgt
          rw [show decide (k.toList < x.1.toList) = true by simpa using hgt]
          unfold ref06_Store_Set.s5
          repeat refine s_nx ?_
          refine s_new fun t43 => ?_
          refine s_append (s := o) (esz := 5) (us := rowF6 (k, (r, s))) (blk_rd rfl) (by intro v hv; exact rowF6_fl [(k, (r, s))] v (by simpa using hv)) (by simp only; omega) fun o2 ho2 => ?_
          rw [show Y.flatMap rowF6 ++ rowF6 (k, (r, s)) = (Y ++ [(k, (r, s))]).flatMap rowF6 by simp only [List.flatMap_append, List.flatMap_cons, List.flatMap_nil, List.append_nil]]
          refine s_end (old o2 (Y ++ [(k, (r, s))]) false (by simp only at ho2; simp; omega) (by simp; omega) ?_ fun y hy => ?_)
          · simp only [hpos, decide_true, Bool.and_true, if_true, Bool.not_true, Bool.and_false] at he
            rw [← he]; simp
          · rcases List.mem_append.1 hy with hy | hy
            · exact hok y hy
            · rw [List.mem_singleton.1 hy]; exact ⟨hr, hv⟩
        · rw [show decide (k.toList < x.1.toList) = false by simpa using hgt]
          exact noIns (by simp only [Bool.true_and, decide_eq_false_iff_not]; exact fun h => hgt (cmpS_pos.1 h))
      · subst hkp1
        exact noIns rfl
    · have hil : i = X.length := by simp only [decide_eq_false_iff_not] at hb; omega
      rw [hil, List.drop_length, set6] at he
      have fin : ∀ (o : Sl) (Y : List RecX), Y = set6 k (r, s) keep X → (∀ y ∈ Y, y.2.1.ok ∧ inP P y.2.2 y.2.1.val) → HG B (SlC ty_api_Row 5 o (Y.flatMap rowF6) :: blk r5 (.cells (recL r s).toArray ty_api_Record (0, 0)) :: ref6L st n rs X Γ) (ref06_Store_Set.s6 Q (fun out6_2 keep7_2 i8_2 => k' (out6_2, keep7_2, i8_2)) ⟨st, 0, none⟩ o) := fun o Y hY hok => by
        unfold ref06_Store_Set.s6
        repeat refine s_nx ?_
        refine s_ownS o ?_
        refine s_own st ?_
        refine s_mkRef6 (M := setM M k r) ⟨?_, hok, hf.n1, hf.n3, setM_srt hf.srt⟩ (s_end h)
        rw [hY, set6_map, ← hf.mod, hset]
      refine s_ite (fun hkp1 => ?_) fun hkp1 => ?_
      · subst hkp1
        repeat refine s_nx ?_
        refine s_new fun t70 => ?_
        refine s_append (s := o) (esz := 5) (us := rowF6 (k, (r, s))) (blk_rd rfl) (by intro v hv; exact rowF6_fl [(k, (r, s))] v (by simpa using hv)) (by simp only; omega) fun o2 ho2 => ?_
        rw [show Y.flatMap rowF6 ++ rowF6 (k, (r, s)) = (Y ++ [(k, (r, s))]).flatMap rowF6 by simp only [List.flatMap_append, List.flatMap_cons, List.flatMap_nil, List.append_nil]]
        refine s_end (fin o2 (Y ++ [(k, (r, s))]) (by simpa using he) fun y hy => ?_)
        rcases List.mem_append.1 hy with hy | hy
        · exact hok y hy
        · rw [List.mem_singleton.1 hy]; exact ⟨hr, hv⟩
      · subst hkp1
        exact fin o Y (by simpa using he) hok
  refine s_dr ?_
  refine s_wsD [blk r5 (.cells (recL r s).toArray ty_api_Record (0, 0))] ?_
  repeat refine s_nx ?_
  refine s_ite (fun hb => ?_) fun hb => ?_
  · refine s_new fun t9 => ?_
    repeat refine s_nx ?_
    exact rows t9 true (by simp [hb])
  · repeat refine s_nx ?_
    refine s_new fun t9 => ?_
    repeat refine s_nx ?_
    refine rows t9 _ ?_
    have := hr.1
    simp only [hb, decide_eq_true_eq, true_and]
    omega
theorem move6_hg {k : ByteArray} {to : Int} {Q : Int → K} (hk : k.size < 1000000000000) (hL : M.length < 10000000) (h : HG B (Ref6 st n (sMove n M k to).1 P :: Γ) (Q (sMove n M k to).2)) : HG B (Ref6 st n M P :: Γ) (ref06_Store_Move.call (some ⟨st, 0, none⟩) k to Q) := by
  refine fun w hw => ref06_Store_Move_ok _ _ _ _ _ ?_
  refine hg hw ?_
  clear hw w
  unfold ref06_Store_Move
  have bad : to < 0 ∨ (n : Int) ≤ to → ∀ s0, HG B (Ref6 st n M P :: Γ) (ref06_Store_Move.s1 Q s0 k to true) := fun hb s0 => by
    unfold ref06_Store_Move.s1
    refine s_t ?_
    rw [show sMove n M k to = (M, 1) by unfold sMove; rw [if_pos hb]] at h
    exact h
  refine s_ite (fun hb => bad (.inl (by simpa using hb)) _) fun hb => ?_
  refine s_nn ?_
  refine s_ref6 fun rs X hf => ?_
  repeat refine s_nx ?_
  refine s_mkRef6 hf ?_
  by_cases hb2 : (n : Int) ≤ to
  · rw [show decide ((n : Int) ≤ to) = true by simpa using hb2]
    exact bad (.inr hb2) _
  rw [show decide ((n : Int) ≤ to) = false by simpa using hb2]
  have hnb : ¬ (to < 0 ∨ (n : Int) ≤ to) := by
    simp only [decide_eq_false_iff_not] at hb
    omega
  unfold ref06_Store_Move.s1
  refine s_f ?_
  refine get6_hg hk (by omega) fun s hok hv => ?_
  generalize hR : sGet n M k = r at *
  refine s_new fun r7 => ?_
  refine s_stN (b := r7) (l' := recL r s) ?_
  repeat refine s_nx ?_
  refine s_ite (fun hc => ?_) fun hc => ?_
  · rw [show sMove n M k to = (M, 111) by unfold sMove; rw [if_neg hnb, hR, if_pos (by simpa using hc)]] at h
    exact s_end h
  have hc' : r.cnt ≠ 18446744073709551615 := by simpa using hc
  obtain ⟨o1, o2, o3⟩ := hok
  repeat refine s_nx ?_
  refine s_ar (wrapU64 (by omega) (by omega)) ?_
  repeat refine s_nx ?_
  refine s_own st ?_
  refine set6_hg (r := { r with home := to, cnt := r.cnt + 1 }) ⟨by simp only; omega, by simp only; omega, o3⟩ hv hL ?_
  have e : sMove n M k to = (setM M k { r with home := to, cnt := r.cnt + 1 }, 0) := by
    unfold sMove setM
    rw [if_neg hnb, hR, if_neg hc', if_neg fun hh => by simp only at hh; omega]
  rw [e] at h
  exact s_end h
end
end Go.Proofs.YtfjjocopmknhgaaGreat
/- How the arguments of laws read. -/
namespace Go.Proofs.YtfjjocopmknhgaaGreat
open Go Go.Sep
def Sh_ty_s_argosylaw10_Move : Sh := (.sl (.fld 0 1 .str (.fld 1 1 (.int .i64) .nil)) 2)
theorem sh_22 : mkSh Tryz.prog 9 22 = Sh_ty_s_argosylaw10_Move := by kernel_rfl
def Sh_ty_api_Txn : Sh := (.fld 0 1 (.int .i64) (.fld 1 1 (.sl .str 1) (.fld 2 1 (.sl .str 1) (.fld 3 1 (.sl (.fld 0 1 (.int .i64) (.fld 1 1 .str (.fld 2 1 (.sl (.int .u8) 1) (.fld 3 1 (.int .i64) .nil)))) 4) (.fld 4 1 (.int .i64) .nil)))))
theorem sh_26 : mkSh Tryz.prog 9 26 = Sh_ty_api_Txn := by kernel_rfl
def Sh_ty_api_Tag : Sh := (.fld 0 3 (.fld 0 1 (.int .i64) (.fld 1 1 (.int .u64) (.fld 2 1 (.int .u64) .nil))) (.fld 3 1 (.int .i64) .nil))
theorem sh_39 : mkSh Tryz.prog 9 39 = Sh_ty_api_Tag := by kernel_rfl
def Sh_ty_s_argosylaw07_Cell : Sh := (.sl (.fld 0 1 .str (.fld 1 1 (.sl (.int .u8) 1) (.fld 2 1 .bool (.fld 3 1 (.int .i64) .nil)))) 4)
theorem sh_52 : mkSh Tryz.prog 9 52 = Sh_ty_s_argosylaw07_Cell := by kernel_rfl
def Sh_ty_s_api_Txn : Sh := (.sl (.fld 0 1 (.int .i64) (.fld 1 1 (.sl .str 1) (.fld 2 1 (.sl .str 1) (.fld 3 1 (.sl (.fld 0 1 (.int .i64) (.fld 1 1 .str (.fld 2 1 (.sl (.int .u8) 1) (.fld 3 1 (.int .i64) .nil)))) 4) (.fld 4 1 (.int .i64) .nil))))) 5)
theorem sh_77 : mkSh Tryz.prog 9 77 = Sh_ty_s_api_Txn := by kernel_rfl
def Sh_ty_s_argosylaw16_Op : Sh := (.sl (.fld 0 1 (.int .i64) (.fld 1 1 (.int .i64) (.fld 2 4 (.fld 0 3 (.fld 0 1 (.int .i64) (.fld 1 1 (.int .u64) (.fld 2 1 (.int .u64) .nil))) (.fld 3 1 (.int .i64) .nil)) (.fld 6 1 .str (.fld 7 1 (.sl (.fld 0 1 .str (.fld 1 1 (.int .i64) (.fld 2 1 (.int .u64) .nil))) 3) .nil))))) 8)
theorem sh_79 : mkSh Tryz.prog 9 79 = Sh_ty_s_argosylaw16_Op := by kernel_rfl
end Go.Proofs.YtfjjocopmknhgaaGreat
/- Plain forms of functions, and that their code comes to them (package route). -/
namespace Go.Proofs.YtfjjocopmknhgaaGreat
open Go Go.Sep
set_option linter.unusedVariables false
set_option linter.unusedSimpArgs false
set_option maxRecDepth 100000
set_option maxHeartbeats 4000000
attribute [local irreducible] G Gp Cx Tx Ex Sx Dx Ox Ax Lx Rx Fx Bx Bj Al Do Ld LdN St StN New CallF Ar DoU Rd Rd2 Pu Cd Ite Fv CallV CallY Ans0 Ans1 Ans2 Ans3 Ans4 Ans5 Ext Dead Dr WithS Sv LdS LdNS RdS Rd2S Nn Idx IdxA IdxS Fld Bld Slc SlcS Cat All LoopK RangeF RangeJ TakeD
namespace F_IRRoute
instance at_26 : AT Tryz.prog 26 5 := ⟨by kernel_rfl⟩
instance at_39 : AT Tryz.prog 39 4 := ⟨by kernel_rfl⟩
instance at_42 : AT Tryz.prog 42 10 := ⟨by kernel_rfl⟩
instance cb_14 : CB Tryz.prog 14 := ⟨by kernel_rfl⟩
instance cb_50 : CB Tryz.prog 50 := ⟨by kernel_rfl⟩
instance cb_51 : CB Tryz.prog 51 := ⟨by kernel_rfl⟩
instance cb_90 : CB Tryz.prog 90 := ⟨by kernel_rfl⟩
instance ct_3 : CT Tryz.prog 3 := ⟨by kernel_rfl⟩
instance ct_35 : CT Tryz.prog 35 := ⟨by kernel_rfl⟩
instance ct_9 : CT Tryz.prog 9 := ⟨by kernel_rfl⟩
instance ft_105_1 : FT Tryz.prog 105 1 1 1 := ⟨by kernel_rfl⟩
instance ft_105_2 : FT Tryz.prog 105 2 2 1 := ⟨by kernel_rfl⟩
instance ft_47_2 : FT Tryz.prog 47 2 2 1 := ⟨by kernel_rfl⟩
instance ft_47_3 : FT Tryz.prog 47 3 3 1 := ⟨by kernel_rfl⟩
instance mx : MX Tryz.prog := ⟨mixed⟩
instance pl_105 : PLT Tryz.prog 105 [(0, 1), (1, 1), (2, 1)] := ⟨_, Tryz.underlying105, by kernel_rfl⟩
instance pl_42 : PLT Tryz.prog 42 [(0, 4), (4, 5), (9, 1)] := ⟨_, Tryz.underlying42, by kernel_rfl⟩
instance sl_23 : SLT Tryz.prog 23 9 1 := ⟨by kernel_rfl⟩
instance sl_40 : SLT Tryz.prog 40 105 3 := ⟨by kernel_rfl⟩
instance sz_42 : SZ Tryz.prog 42 10 := ⟨by kernel_rfl⟩
instance sz_47 : SZ Tryz.prog 47 4 := ⟨by kernel_rfl⟩
instance zt_105 : ZT Tryz.prog 105 (.agg #[(.string ⟨#[]⟩), (.int .i64 0), (.int .u64 0)]) := ⟨Tryz.t105, by kernel_rfl, by kernel_rfl⟩
instance zt_42 : ZT Tryz.prog 42 (.agg #[(.int .i64 0), (.int .u64 0), (.int .u64 0), (.int .i64 0), (.int .i64 0), (Sl.val ⟨none, 0, 0⟩), (Sl.val ⟨none, 0, 0⟩), (Sl.val ⟨none, 0, 0⟩), (.int .i64 0), (Sl.val ⟨none, 0, 0⟩)]) := ⟨Tryz.t42, by kernel_rfl, by kernel_rfl⟩
instance zt_47 : ZT Tryz.prog 47 (.agg #[(.bool false), (Sl.val ⟨none, 0, 0⟩), (.int .i64 0), (.int .u64 0)]) := ⟨Tryz.t47, by kernel_rfl, by kernel_rfl⟩
end F_IRRoute
def route_Make (s0 : (Option Addr)) (tag1 : (Array Value)) (t2 : (Array Value)) (Q : (Array Value) → K) : K :=
  New 39 tag1 fun tag4 =>
  New 26 t2 fun t5 =>
  New 42 #[(.int .i64 0), (.int .u64 0), (.int .u64 0), (.int .i64 0), (.int .i64 0), (Sl.val ⟨none, 0, 0⟩), (Sl.val ⟨none, 0, 0⟩), (Sl.val ⟨none, 0, 0⟩), (.int .i64 0), (Sl.val ⟨none, 0, 0⟩)] fun t6 =>
  Dr <| WithS fun S =>
  LdNS S tag4 4 fun t7 =>
  LdNS S t5 5 fun t8 =>
  LdNS S t5 5 fun t11 =>
  prog_Copy.call t8 fun t9 =>
  Sv S <|
  route_Marks.call s0 t11 fun t12 =>
  Sv S <|
  Bld #[(.int .i64 0), (.int .u64 0), (.int .u64 0), (.int .i64 0), (.int .i64 0), (Sl.val ⟨none, 0, 0⟩), (Sl.val ⟨none, 0, 0⟩), (Sl.val ⟨none, 0, 0⟩), (.int .i64 0), (Sl.val ⟨none, 0, 0⟩)] ([(0, 4), (4, 5), (9, 1)][·]?) [(0, (.agg t7)), (1, (.agg t9)), (2, (Sl.val t12))] fun t13 =>
  StN t6 10 t13 <|
  LdN t6 10 fun r0 =>
  Q r0
theorem route_Make_ok (s0 : (Option Addr)) (tag1 : (Array Value)) (t2 : (Array Value)) (Q : (Array Value) → K) (w : World) (h : route_Make s0 tag1 t2 Q w) : route_Make.call s0 tag1 t2 Q w := by
  have hD1 : DH 1 2 [7] (.s [3, 0, 1, 4] (.a [(2, 1, .a [(5, 1, .s [6] (.a [(7, 0, .e)]))])])) := by intros; exact ⟨⟩
  exact g_walk 14 h Tryz.func12
def route_Look.s1 (Q : Int → K)  (t11_1 : Bool) : K :=
  Ite t11_1
    (Q 0)
    (Q 2)
def route_Look (r0 : (Array Value)) (m1 : (Array Value)) (Q : Int → K) : K :=
  New 47 r0 fun r2 =>
  New 105 m1 fun m3 =>
  Ld (m3.add 2) (Value.int .u64) fun t7 =>
  Ld (r2.add 3) (Value.int .u64) fun t9 =>
  Ite (decide (t9 < t7))
    (Q 1)
    (Ld (m3.add 2) (Value.int .u64) fun t13 =>
    Ld (r2.add 3) (Value.int .u64) fun t15 =>
    Ite (decide (t13 = t15))
      (Ld (m3.add 1) (Value.int .i64) fun t19 =>
      Ld (r2.add 2) (Value.int .i64) fun t21 =>
      route_Look.s1 Q (decide (t19 = t21)))
      (route_Look.s1 Q false))
theorem route_Look_ok (r0 : (Array Value)) (m1 : (Array Value)) (Q : Int → K) (w : World) (h : route_Look r0 m1 Q w) : route_Look.call r0 m1 Q w := by
  have hJ4 : JH 4 fun D => D [] (fun C => ∀ (t11_1 : Bool), C [(11, (.bool t11_1))] (route_Look.s1 Q t11_1)) := by intros; exact ⟨fun _ h => ⟨_, _, h⟩⟩
  exact g_walk 24 h Tryz.func44
def route_Marks.b1 (Q : Sl → K)  (X1 : Sl → Int → K) (s0_1 : (Option Addr)) (t9_1 : Sl) (t10_1 : Int) (out4_1 : Sl) (t11_1 : Int) : K :=
  Ite (decide (t11_1 < t10_1))
    (Idx t9_1 t11_1 1 fun t13 =>
    Ld t13 Value.string fun t14 =>
    store_Store_Get.call s0_1 t14 fun t17 =>
    New 47 #[(.bool false), (Sl.val ⟨none, 0, 0⟩), (.int .i64 0), (.int .u64 0)] fun r7 =>
    StN r7 4 t17 <|
    Ld (r7.add 2) (Value.int .i64) fun t21 =>
    Ld (r7.add 3) (Value.int .u64) fun t23 =>
    Bld #[(.string ⟨#[]⟩), (.int .i64 0), (.int .u64 0)] (fun i => some (i * 3, 3)) [(0, (.agg #[(.string t14), (.int .i64 t21), (.int .u64 t23)]))] fun ct25 =>
    New 105 ct25 fun t25 =>
    Do Tryz.prog (Builtin.append_ #[40, 40] 40 #[(Sl.val out4_1), (Sl.val (Sl.mk (some t25) 1 1))]) Sl.val fun t26 =>
    Ar (IntKind.wrap .i64 (t11_1 + 1)) fun t27 =>
    X1 t26 t27)
    (Q out4_1)
def route_Marks (s0 : (Option Addr)) (t1 : (Array Value)) (Q : Sl → K) : K :=
  New 26 t1 fun t3 =>
  LdN t3 5 fun t8 =>
  prog_Keys.call t8 fun t9 =>
  LoopK (α := Sl × Int) (fun X x => route_Marks.b1 Q (fun out4_1 t11_1 => X (out4_1, t11_1)) s0 t9 (t9.n : Int) x.1 x.2) ((Sl.mk none 0 0), 0)
theorem route_Marks_ok (s0 : (Option Addr)) (t1 : (Array Value)) (Q : Sl → K) (w : World) (h : route_Marks s0 t1 Q w) : route_Marks.call s0 t1 Q w := by
  have hL2 : ∀ (s0_1 : (Option Addr)) (t9_1 : Sl) (t10_1 : Int), LH 2 (fun x : Sl × Int => [(0, (.pointer s0_1)), (4, (Sl.val x.1)), (9, (Sl.val t9_1)), (10, (.int .i64 t10_1)), (11, (.int .i64 x.2))]) (fun X x => route_Marks.b1 Q (fun out4_1 t11_1 => X (out4_1, t11_1)) s0_1 t9_1 t10_1 x.1 x.2) := by intros; exact ⟨⟩
  exact g_walk 29 h Tryz.func51
end Go.Proofs.YtfjjocopmknhgaaGreat
/- Plain forms of functions, and that their code comes to them (package law10). -/
namespace Go.Proofs.YtfjjocopmknhgaaGreat
open Go Go.Sep
set_option linter.unusedVariables false
set_option linter.unusedSimpArgs false
set_option maxRecDepth 100000
set_option maxHeartbeats 4000000
attribute [local irreducible] G Gp Cx Tx Ex Sx Dx Ox Ax Lx Rx Fx Bx Bj Al Do Ld LdN St StN New CallF Ar DoU Rd Rd2 Pu Cd Ite Fv CallV CallY Ans0 Ans1 Ans2 Ans3 Ans4 Ans5 Ext Dead Dr WithS Sv LdS LdNS RdS Rd2S Nn Idx IdxA IdxS Fld Bld Slc SlcS Cat All LoopK RangeF RangeJ TakeD
namespace F_IRLaw10
instance at_107 : AT Tryz.prog 107 2 := ⟨by kernel_rfl⟩
instance at_47 : AT Tryz.prog 47 4 := ⟨by kernel_rfl⟩
instance cb_31 : CB Tryz.prog 31 := ⟨by kernel_rfl⟩
instance cb_33 : CB Tryz.prog 33 := ⟨by kernel_rfl⟩
instance cb_44 : CB Tryz.prog 44 := ⟨by kernel_rfl⟩
instance cb_48 : CB Tryz.prog 48 := ⟨by kernel_rfl⟩
instance cb_49 : CB Tryz.prog 49 := ⟨by kernel_rfl⟩
instance ct_3 : CT Tryz.prog 3 := ⟨by kernel_rfl⟩
instance ct_9 : CT Tryz.prog 9 := ⟨by kernel_rfl⟩
instance ft_107_0 : FT Tryz.prog 107 0 0 1 := ⟨by kernel_rfl⟩
instance ft_107_1 : FT Tryz.prog 107 1 1 1 := ⟨by kernel_rfl⟩
instance mx : MX Tryz.prog := ⟨mixed⟩
instance pl_105 : PLT Tryz.prog 105 [(0, 1), (1, 1), (2, 1)] := ⟨_, Tryz.underlying105, by kernel_rfl⟩
instance pl_47 : PLT Tryz.prog 47 [(0, 1), (1, 1), (2, 1), (3, 1)] := ⟨_, Tryz.underlying47, by kernel_rfl⟩
instance sl_22 : SLT Tryz.prog 22 107 2 := ⟨by kernel_rfl⟩
instance st_9 : STT Tryz.prog 9 := ⟨by kernel_rfl⟩
instance sz_107 : SZ Tryz.prog 107 2 := ⟨by kernel_rfl⟩
instance sz_47 : SZ Tryz.prog 47 4 := ⟨by kernel_rfl⟩
instance un_31 : UN Tryz.prog 31 (.pointer 119) := ⟨Tryz.underlying31⟩
instance zt_105 : ZT Tryz.prog 105 (.agg #[(.string ⟨#[]⟩), (.int .i64 0), (.int .u64 0)]) := ⟨Tryz.t105, by kernel_rfl, by kernel_rfl⟩
instance zt_107 : ZT Tryz.prog 107 (.agg #[(.string ⟨#[]⟩), (.int .i64 0)]) := ⟨Tryz.t107, by kernel_rfl, by kernel_rfl⟩
instance zt_47 : ZT Tryz.prog 47 (.agg #[(.bool false), (Sl.val ⟨none, 0, 0⟩), (.int .i64 0), (.int .u64 0)]) := ⟨Tryz.t47, by kernel_rfl, by kernel_rfl⟩
end F_IRLaw10
def law10_speaks.s1 (Q : Bool → K)  (t0_1 : Bool) : K :=
  Q t0_1
def law10_speaks  (Q : Bool → K) : K :=
  New 47 #[(.bool false), (Sl.val ⟨none, 0, 0⟩), (.int .i64 0), (.int .u64 0)] fun r1 =>
  StN r1 4 #[(.bool false), (Sl.val ⟨none, 0, 0⟩), (.int .i64 1), (.int .u64 2)] <|
  LdN r1 4 fun t3 =>
  route_Look.call t3 #[(.string ⟨#[]⟩), (.int .i64 1), (.int .u64 2)] fun t5 =>
  Ite (decide (t5 = 0))
    (LdN r1 4 fun t8 =>
    route_Look.call t8 #[(.string ⟨#[]⟩), (.int .i64 0), (.int .u64 3)] fun t10 =>
    Ite (decide (t10 = 1))
      (LdN r1 4 fun t14 =>
      route_Look.call t14 #[(.string ⟨#[]⟩), (.int .i64 0), (.int .u64 2)] fun t16 =>
      Ite (decide (t16 = 2))
        (LdN r1 4 fun t20 =>
        route_Look.call t20 #[(.string ⟨#[]⟩), (.int .i64 1), (.int .u64 1)] fun t22 =>
        law10_speaks.s1 Q (bif (bif (bif (decide (t22 = 2)) then true else false) then true else false) then true else false))
        (law10_speaks.s1 Q false))
      (law10_speaks.s1 Q false))
    (law10_speaks.s1 Q false)
theorem law10_speaks_ok  (Q : Bool → K) (w : World) (h : law10_speaks  Q w) : law10_speaks.call  Q w := by
  have hJ1000002 : JH 1000002 fun D => D [] (fun C => ∀ (t0_1 : Bool), C [(0, (.bool t0_1))] (law10_speaks.s1 Q t0_1)) := by intros; exact ⟨fun _ h => ⟨_, _, h⟩⟩
  exact g_walk 31 h Tryz.func7
def law10_great.b1 (Q : Bool → K)  (X1 : Int → K) (t8_1 : Sl) (t9_1 : Int) (t10_1 : Int) : K :=
  Ite (decide (t10_1 < t9_1))
    (Idx t8_1 t10_1 2 fun t12 =>
    LdN t12 2 fun t13 =>
    New 107 #[(.string ⟨#[]⟩), (.int .i64 0)] fun m4 =>
    StN m4 2 t13 <|
    Ld m4 Value.string fun t15 =>
    Ite (decide ((200 : Int) < (t15.size : Int)))
      (Q true)
      (Ar (IntKind.wrap .i64 (t10_1 + 1)) fun t18 =>
      X1 t18))
    (Q false)
def law10_great (moves0 : Sl) (Q : Bool → K) : K :=
  Ite (decide ((100 : Int) < (moves0.n : Int)))
    (Q true)
    (LoopK (α := Int) (fun X x => law10_great.b1 Q X moves0 (moves0.n : Int) x) 0)
theorem law10_great_ok (moves0 : Sl) (Q : Bool → K) (w : World) (h : law10_great moves0 Q w) : law10_great.call moves0 Q w := by
  have hL4 : ∀ (t8_1 : Sl) (t9_1 : Int), LH 4 (fun x : Int => [(8, (Sl.val t8_1)), (9, (.int .i64 t9_1)), (10, (.int .i64 x))]) (fun X x => law10_great.b1 Q X t8_1 t9_1 x) := by intros; exact ⟨⟩
  exact g_walk 19 h Tryz.func8
def law10_moved.s2 (Q : (Option Addr) → (Option Addr) → K) (X1 : Int → K) (s4_2 : (Option Addr)) (m6_2 : (Option Addr)) (x8_2 : Addr) (t14_2 : Sl) (t15_2 : Int) (t16_2 : Int) : K :=
  Ld x8_2 Value.string fun t30 =>
  Ld (x8_2.add 1) (Value.int .i64) fun t32 =>
  ref06_Store_Move.call m6_2 t30 t32 fun t33 =>
  Ar (IntKind.wrap .i64 (t16_2 + 1)) fun t34 =>
  X1 t34
def law10_moved.b1 (Q : (Option Addr) → (Option Addr) → K)  (X1 : Int → K) (s4_1 : (Option Addr)) (m6_1 : (Option Addr)) (t14_1 : Sl) (t15_1 : Int) (t16_1 : Int) : K :=
  Ite (decide (t16_1 < t15_1))
    (Idx t14_1 t16_1 2 fun t18 =>
    LdN t18 2 fun t19 =>
    New 107 #[(.string ⟨#[]⟩), (.int .i64 0)] fun x8 =>
    StN x8 2 t19 <|
    Ite (!(s4_1).isNone)
      (Ld x8 Value.string fun t24 =>
      Ld (x8.add 1) (Value.int .i64) fun t26 =>
      store_Store_Move.call s4_1 t24 t26 fun t27 =>
      law10_moved.s2 Q X1 s4_1 m6_1 x8 t14_1 t15_1 t16_1)
      (law10_moved.s2 Q X1 s4_1 m6_1 x8 t14_1 t15_1 t16_1))
    (Q s4_1 m6_1)
def law10_moved (moves0 : Sl) (Q : (Option Addr) → (Option Addr) → K) : K :=
  store_New.call 3 fun t10x0 t10x1 =>
  ref06_New.call 3 fun t13 =>
  LoopK (α := Int) (fun X x => law10_moved.b1 Q X t10x0 t13 moves0 (moves0.n : Int) x) 0
theorem law10_moved_ok (moves0 : Sl) (Q : (Option Addr) → (Option Addr) → K) (w : World) (h : law10_moved moves0 Q w) : law10_moved.call moves0 Q w := by
  have hJ8 : ∀ (X1 : Int → K), XH 4 X1 → JH 8 fun D => ∃ (s4_2 : (Option Addr)) (m6_2 : (Option Addr)) (x8_2 : Addr) (t14_2 : Sl) (t15_2 : Int) (t16_2 : Int), D [(4, (.pointer s4_2)), (6, (.pointer m6_2)), (8, (.pointer (some x8_2))), (14, (Sl.val t14_2)), (15, (.int .i64 t15_2)), (16, (.int .i64 t16_2))] (fun C => C [(4, (.pointer s4_2)), (6, (.pointer m6_2)), (8, (.pointer (some x8_2))), (14, (Sl.val t14_2)), (15, (.int .i64 t15_2)), (16, (.int .i64 t16_2))] (law10_moved.s2 Q X1 s4_2 m6_2 x8_2 t14_2 t15_2 t16_2)) := by intros; exact ⟨fun _ ⟨_, _, _, _, _, _, h⟩ => ⟨_, _, h⟩⟩
  have hL4 : ∀ (s4_1 : (Option Addr)) (m6_1 : (Option Addr)) (t14_1 : Sl) (t15_1 : Int), LH 4 (fun x : Int => [(4, (.pointer s4_1)), (6, (.pointer m6_1)), (14, (Sl.val t14_1)), (15, (.int .i64 t15_1)), (16, (.int .i64 x))]) (fun X x => law10_moved.b1 Q X s4_1 m6_1 t14_1 t15_1 x) := by intros; exact ⟨⟩
  exact g_walk 37 h Tryz.func11
end Go.Proofs.YtfjjocopmknhgaaGreat
/- Marks and records: what route.Look answers; the law's example; moves. -/
namespace Go.Proofs.YtfjjocopmknhgaaGreat
open Go Go.Sep Go.Sep.Bt
set_option linter.unusedSimpArgs false
set_option linter.unusedVariables false
set_option maxRecDepth 100000

def lookS (cnt mc home mh : Int) : Int := if cnt < mc then 1 else if mc = cnt ∧ mh = home then 0 else 2
structure Mv where
  key : ByteArray
  to : Int
def mvF (m : Mv) : List Value := [.string m.key, .int .i64 m.to]
theorem mvF_len (m : Mv) : (mvF m).length = 2 := rfl
def mvGreat (L : List Mv) : Bool := decide (100 < L.length) || L.any fun m => decide (200 < m.key.size)
section
variable {B : World} {Γ Δ : List HProp}
theorem lookHg {hs : Bool} {vl : Sl} {home cnt : Int} {key : ByteArray} {mh mc : Int} {q : Int → K} (h : HG B Γ (q (lookS cnt mc home mh))) :
    HG B Γ (route_Look.call #[.bool hs, vl.val, .int .i64 home, .int .u64 cnt] #[.string key, .int .i64 mh, .int .u64 mc] q) := fun w hw => by
  refine route_Look_ok _ _ _ _ ?_
  refine hg hw ?_
  clear hw w
  unfold route_Look
  refine s_new fun r => ?_
  refine s_new fun m => ?_
  refine s_end (Δ := blk m (.cells [.string key, .int .i64 mh, .int .u64 mc].toArray ty_api_Mark (0, 0)) :: blk r (.cells [.bool hs, vl.val, .int .i64 home, .int .u64 cnt].toArray ty_api_Record (0, 0)) :: Γ) ?_
  refine s_ld (b := m) (x := mc) ?_
  refine s_ld (b := r) (x := cnt) ?_
  refine s_ite (fun hb => ?_) fun hb => ?_
  · have e : lookS cnt mc home mh = 1 := by unfold lookS; rw [if_pos (by simpa using hb)]
    rw [e] at h; exact s_end h
  have hb' : ¬ cnt < mc := by simpa using hb
  refine s_ld (b := m) (x := mc) ?_
  refine s_ld (b := r) (x := cnt) ?_
  refine s_ite (fun hc => ?_) fun hc => ?_
  · have hc' : mc = cnt := by simpa using hc
    refine s_ld (b := m) (x := mh) ?_
    refine s_ld (b := r) (x := home) ?_
    unfold route_Look.s1
    refine s_ite (fun hd => ?_) fun hd => ?_
    · have e : lookS cnt mc home mh = 0 := by unfold lookS; rw [if_neg hb', if_pos ⟨hc', by simpa using hd⟩]
      rw [e] at h; exact s_end h
    · have e : lookS cnt mc home mh = 2 := by unfold lookS; rw [if_neg hb', if_neg fun x => by simp [x.2] at hd]
      rw [e] at h; exact s_end h
  · unfold route_Look.s1
    refine s_f ?_
    have e : lookS cnt mc home mh = 2 := by unfold lookS; rw [if_neg hb', if_neg fun x => by simp [x.1] at hc]
    rw [e] at h; exact s_end h
theorem speaks10 {q : Bool → K} (h : HG B Γ (q true)) : HG B Γ (law10_speaks.call q) := fun w hw => by
  refine law10_speaks_ok _ _ ?_
  refine hg hw ?_
  clear hw w
  unfold law10_speaks
  refine s_new fun r => ?_
  refine s_stN (b := r) (l' := recL ⟨false, [], 1, 2⟩ ⟨none, 0, 0⟩) ?_
  refine s_ldN (b := r) ?_
  refine lookHg (vl := ⟨none, 0, 0⟩) ?_
  refine s_t ?_
  refine s_ldN (b := r) ?_
  refine lookHg (vl := ⟨none, 0, 0⟩) ?_
  refine s_t ?_
  refine s_ldN (b := r) ?_
  refine lookHg (vl := ⟨none, 0, 0⟩) ?_
  refine s_t ?_
  refine s_ldN (b := r) ?_
  refine lookHg (vl := ⟨none, 0, 0⟩) ?_
  exact s_end h
theorem great10 {s : Sl} {L : List Mv} {q : Bool → K} (hr : RdC B s 2 (L.flatMap mvF)) (h : HG B Γ (q (mvGreat L))) : HG B Γ (law10_great.call s q) := fun w hw => by
  refine law10_great_ok _ _ _ ?_
  refine hg hw ?_
  clear hw w
  have hn := rd_len mvF_len (by omega) hr
  unfold law10_great
  refine s_ite (fun hb => ?_) fun hb => ?_
  · have hb' : 100 < L.length := by simp only [decide_eq_true_eq] at hb; omega
    have e : mvGreat L = true := by simp [mvGreat, hb']
    rw [e] at h; exact h
  have hb' : ¬ 100 < L.length := by simp only [decide_eq_false_iff_not] at hb; omega
  refine s_loopC (fun x : Int => ∃ i : Nat, x = (i : Int) ∧ i ≤ L.length ∧ (L.take i).any (fun m => decide (200 < m.key.size)) = false) (fun x => L.length - x.toNat) ⟨0, rfl, Nat.zero_le _, rfl⟩ fun k' x hx hk => ?_
  obtain ⟨i, rfl, hi, ha⟩ := hx
  unfold law10_great.b1
  refine s_ite (fun hlt => ?_) fun hlt => ?_
  · have hil : i < L.length := by simp only [decide_eq_true_eq] at hlt; omega
    refine s_idxN mvF mvF_len (fun w hw => hr.old hw) (List.getElem?_eq_getElem hil) ?_
    refine s_new fun m4 => ?_
    refine s_stN (b := m4) (l' := mvF L[i]) ?_
    refine s_ld (b := m4) (x := L[i].key) ?_
    have ht : (L.take (i + 1)).any (fun m => decide (200 < m.key.size)) = decide (200 < L[i].key.size) := by rw [List.take_succ_eq_append_getElem hil, List.any_append, ha]; simp
    refine s_ite (fun hg => ?_) fun hg => ?_
    · have hg' : 200 < L[i].key.size := by simp only [decide_eq_true_eq] at hg; omega
      have e : mvGreat L = true := by
        have : L.any (fun m => decide (200 < m.key.size)) = true := List.any_eq_true.2 ⟨L[i], List.getElem_mem hil, by simpa using hg'⟩
        simp [mvGreat, this]
      rw [e] at h; exact s_end h
    · have hg' : ¬ 200 < L[i].key.size := by simp only [decide_eq_false_iff_not] at hg; omega
      refine s_ai ?_
      refine s_end ?_ (Δ := Γ)
      exact hk _ ⟨i + 1, by simp, hil, by rw [ht]; simpa using hg'⟩ (by omega)
  · have hil : i = L.length := by simp only [decide_eq_false_iff_not] at hlt; omega
    rw [hil, List.take_length] at ha
    have e : mvGreat L = false := by simp [mvGreat, hb', ha]
    rw [e] at h; exact h
end
end Go.Proofs.YtfjjocopmknhgaaGreat

namespace Go.Proofs.YtfjjocopmknhgaaGreat
open Go Go.Sep Go.RowKit
theorem rdy_mv {w : World} {cs : List Value} (hc : cs.length = 2) (y : Rdy w (.fld 0 1 .str (.fld 1 1 (.int .i64) .nil)) cs) : ∃ x : Mv, cs = mvF x ∧ -9223372036854775808 ≤ x.to ∧ x.to ≤ 9223372036854775807 := by
  match cs, hc with
  | [a, b], _ =>
    obtain ⟨⟨s0, e0, _⟩, ⟨x1, e1, w1⟩, _⟩ := y
    cases e0; cases e1
    simp [Lit.wf, IntKind.min, IntKind.max, IntKind.signed, IntKind.bits] at w1
    exact ⟨⟨s0, x1⟩, rfl, by simp only; omega⟩
theorem rdy_moves {W : World} {s : Sl} (y0 : Rdy W Sh_ty_s_argosylaw10_Move (Sl.val s).cells.toList) : ∃ L : List Mv, RdC W s 2 (L.flatMap mvF) ∧ ∀ x ∈ L, -9223372036854775808 ≤ x.to ∧ x.to ≤ 9223372036854775807 := by
  obtain ⟨h1, h2⟩ := rdy_sl y0
  obtain ⟨L, _, hL, hd⟩ := rd_list mvF (fun x => -9223372036854775808 ≤ x.to ∧ x.to ≤ 9223372036854775807) mvF_len h1 h2 fun cs hc hr => rdy_mv hc hr
  exact ⟨L, hL, hd⟩
end Go.Proofs.YtfjjocopmknhgaaGreat
/- Where transactions go: route.Marks, Make; stores behind moves. -/
namespace Go.Proofs.YtfjjocopmknhgaaGreat
open Go Go.Sep Go.Sep.Bt
set_option linter.unusedSimpArgs false
set_option linter.unusedVariables false
set_option maxRecDepth 100000

structure MkX where
  key : TX
  home : Int
  cnt : Int
deriving DecidableEq
abbrev mkL (m : MkX) : List Value := [strV m.key, .int .i64 m.home, .int .u64 m.cnt]
theorem mkL_len (m : MkX) : (mkL m).length = 3 := rfl
theorem mkL_flat (L : List MkX) : ∀ v ∈ L.flatMap mkL, flatV v = true := fun v hv => by
  obtain ⟨x, _, hx⟩ := List.mem_flatMap.1 hv
  simp only [mkL, List.mem_cons, List.not_mem_nil, or_false] at hx
  rcases hx with rfl | rfl | rfl <;> rfl
abbrev mkOf (n : Nat) (M : Recs) (k : TX) : MkX := ⟨k, (sGet n M (bs k)).home, (sGet n M (bs k)).cnt⟩
def mksOf (n : Nat) (M : Recs) (ks : List TX) : List MkX := ks.map (mkOf n M)
abbrev mkNow (n : Nat) (M : Recs) (m : MkX) : Bool := decide (lookS (sGet n M (bs m.key)).cnt m.cnt (sGet n M (bs m.key)).home m.home = 0)
def fitsM (n : Nat) (M : Recs) (L : List MkX) : Bool := L.all (mkNow n M)
theorem mkNow_of (n : Nat) (M : Recs) (k : TX) : mkNow n M (mkOf n M k) = true := by
  simp [mkNow, mkOf, lookS]
theorem fits_of (n : Nat) (M : Recs) (ks : List TX) : fitsM n M (mksOf n M ks) = true := by
  unfold fitsM mksOf
  rw [List.all_eq_true]
  intro m hm
  obtain ⟨k, _, rfl⟩ := List.mem_map.1 hm
  exact mkNow_of n M k
def movesM (n : Nat) (M : Recs) (L : List Mv) : Recs := L.foldl (fun M m => (sMove n M m.key m.to).1) M
theorem putM_len1 (M : Recs) (k : ByteArray) (r : Rec) : (putM M k r).length ≤ M.length + 1 := putM_len M k r
theorem sMove_len1 (n : Nat) (M : Recs) (k : ByteArray) (to : Int) : (sMove n M k to).1.length ≤ M.length + 1 := by
  unfold sMove
  split
  · simp
  split
  · simp
  exact putM_len _ _ _
abbrev tgL (a b c d : Int) : List Value := [.int .i64 a, .int .u64 b, .int .u64 c, .int .i64 d]
abbrev orL (a b c d : Int) (t : TxX) (ms : Sl) : List Value := [.int .i64 a, .int .u64 b, .int .u64 c, .int .i64 d, .int .i64 t.kind, t.rs.val, t.ws.val, t.os.val, .int .i64 t.to, ms.val]
theorem small_of {t : TxX} (h : ¬ GreatP t) : t.reads.length ≤ 40 ∧ t.writes.length ≤ 40 ∧ t.ops.length ≤ 60 ∧ (∀ x ∈ t.reads ++ t.writes, x.length ≤ 200) ∧ ∀ x ∈ t.ops, x.1.key.length ≤ 200 ∧ x.1.val.length ≤ 200 := by
  simp only [GreatP, not_or, Nat.not_lt, not_exists, not_and] at h
  obtain ⟨h1, h2, h3, h4, h5, h6⟩ := h
  refine ⟨h1, h2, h3, fun x hx => ?_, fun x hx => ⟨(h6 x hx).1, (h6 x hx).2⟩⟩
  rcases List.mem_append.1 hx with hx | hx
  · exact h4 x hx
  · exact h5 x hx
section
variable {B : World} {Γ Δ : List HProp} {k : K} {st sd n : Nat} {M : Recs} {P : Pool}
theorem s_nilS {E esz : Nat} {vs : List Value} (h : HG B (SlC E esz ⟨none, 0, 0⟩ vs :: Γ) k) (hv : vs = [] := by rfl) : HG B Γ k := fun w hw => h w (by rw [hv]; exact hw.nilSl E esz)
theorem marks_hg {t : TxX} {Q : Sl → K} (hr : ∀ w, Holds B Γ w → txRd w t) (hl : t.reads.length ≤ 1000 ∧ t.writes.length ≤ 1000) (hk : ∀ x ∈ t.reads ++ t.writes, x.length ≤ 1000)
    (h : ∀ s, HG B (SlC ty_api_Mark 3 s ((mksOf n M (keysT (t.reads ++ t.writes))).flatMap mkL) :: StoreR st n M :: Γ) (Q s)) : HG B (StoreR st n M :: Γ) (route_Marks.call (some ⟨st, 0, none⟩) (txL t).toArray Q) := fun w hw => by
  refine route_Marks_ok _ _ _ _ ?_
  refine Sep.hg hw ?_
  clear hw w
  have hks : ∀ x ∈ keysT (t.reads ++ t.writes), x.length ≤ 1000 := fun x hx => hk x (keysT_mem.1 hx)
  have hkl := keysT_len (t.reads ++ t.writes)
  rw [List.length_append] at hkl
  unfold route_Marks
  refine s_new fun t3 => ?_
  repeat refine s_nx ?_
  refine keys_hg (fun w hw => (hr w hw.drops).1) (fun w hw => (hr w hw.drops).2.1) (by omega) (by omega) fun ks => ?_
  generalize keysT (t.reads ++ t.writes) = K at hks hkl h ⊢
  refine s_nilS (E := ty_api_Mark) (esz := 3) (vs := ([] : List MkX).flatMap mkL) ?_
  refine s_cap ks fun a1 a2 a3 a4 => ?_
  rw [List.length_map, Nat.mul_one] at a1
  refine s_end (Δ := SlC ty_api_Mark 3 ⟨none, 0, 0⟩ (([] : List MkX).flatMap mkL) :: SlS ks K :: StoreR st n M :: Γ) ?_
  refine s_loop (α := Sl × Int) (ι := Nat) (fun x i => x.2 = (i : Int) ∧ i ≤ K.length) (fun x i => SlC ty_api_Mark 3 x.1 ((mksOf n M (K.take i)).flatMap mkL) :: SlS ks K :: StoreR st n M :: Γ) (fun x i => K.length - i) 0 ⟨rfl, Nat.zero_le _⟩ ?_
  rintro k' ⟨o, _⟩ i ⟨rfl, hi⟩ hk'
  simp only at hi hk' ⊢
  refine s_cap o fun b1 b2 b3 b4 => ?_
  rw [flatMap_len _ 3 mkL_len, mksOf, List.length_map, List.length_take] at b1
  unfold route_Marks.b1
  refine s_ite (fun hb => ?_) fun hb => ?_
  · have hil : i < K.length := by simp only [decide_eq_true_eq] at hb; omega
    have hge : K[i]? = some K[i] := List.getElem?_eq_getElem hil
    have hmem : K[i] ∈ K := List.getElem_mem hil
    have htk : K.take (i + 1) = K.take i ++ [K[i]] := List.take_succ_eq_append_getElem hil
    generalize K[i] = x at hge hmem htk
    have hxl := hks x hmem
    have hsz : (bs x).size = x.length := rfl
    refine s_idxS (L := K) (fun w hw => (own_rd (s := ks) hw).1) hge ?_
    refine s_own st ?_
    refine storeGet_spec (by omega) fun sl hok => ?_
    refine s_new fun r7 => ?_
    refine s_stN (b := r7) (l' := recL (sGet n M (bs x)) sl) ?_
    repeat refine s_nx ?_
    refine s_app1 (s := o) (m := 1) (us := [.string (bs x), .int .i64 (sGet n M (bs x)).home, .int .u64 (sGet n M (bs x)).cnt]) (fun o2 ho2 => ?_)
    refine s_ai ?_
    rw [show (mksOf n M (K.take i)).flatMap mkL ++ [.string (bs x), .int .i64 (sGet n M (bs x)).home, .int .u64 (sGet n M (bs x)).cnt] = (mksOf n M (K.take (i + 1))).flatMap mkL by rw [htk]; simp [mksOf]]
    exact s_end (hk' (o2, (i : Int) + 1) (i + 1) ⟨by simp, hil⟩ (by omega))
  · have hil : i = K.length := by simp only [decide_eq_false_iff_not] at hb; omega
    rw [hil, List.take_length]
    exact s_end (h o)
/-! ### stores behind moves -/
theorem moved_hg {L : List Mv} {mv : Sl} {Q : Option Addr → Option Addr → K} (hr : ∀ w, Holds B Γ w → RdC w mv 2 (L.flatMap mvF)) (hL : L.length ≤ 100) (hks : ∀ m ∈ L, m.key.size ≤ 200)
    (h : ∀ st sd, (movesM 3 [] L).length ≤ 100 → HG B (StoreR st 3 (movesM 3 [] L) :: Ref6 sd 3 (movesM 3 [] L) [] :: Γ) (Q (some ⟨st, 0, none⟩) (some ⟨sd, 0, none⟩))) : HG B Γ (law10_moved.call mv Q) := fun w hw => by
  refine law10_moved_ok _ _ _ ?_
  have hn := rd_len mvF_len (by omega) (hr w hw)
  refine Sep.hg hw ?_
  clear hw w
  unfold law10_moved
  refine storeNew_spec (n := 3) (by omega) (by omega) fun st => ?_
  refine new6_hg (n := 3) (P := []) (by omega) (by omega) fun sd => ?_
  refine s_loop (α := Int) (ι := Nat × Recs) (fun x i => x = (i.1 : Int) ∧ i.1 ≤ L.length ∧ i.2.length ≤ i.1 ∧ i.2 = movesM 3 [] (L.take i.1)) (fun x i => StoreR st 3 i.2 :: Ref6 sd 3 i.2 [] :: Γ) (fun x i => L.length - i.1) (0, []) ⟨rfl, Nat.zero_le _, Nat.le_refl _, rfl⟩ ?_ |> s_end
  rintro k' _ ⟨i, M⟩ ⟨rfl, hi, hMl, hM⟩ hk'
  simp only at hi hMl hM hk' ⊢
  unfold law10_moved.b1
  refine s_ite (fun hb => ?_) fun hb => ?_
  · have hil : i < L.length := by simp only [decide_eq_true_eq] at hb; omega
    have hge : L[i]? = some L[i] := List.getElem?_eq_getElem hil
    have hmem : L[i] ∈ L := List.getElem_mem hil
    have htk : L.take (i + 1) = L.take i ++ [L[i]] := List.take_succ_eq_append_getElem hil
    generalize L[i] = m at hge hmem htk
    have hml := hks m hmem
    refine s_idxN mvF mvF_len (fun w hw => hr w hw.drops) hge ?_
    refine s_new fun x8 => ?_
    refine s_stN (b := x8) (l' := [.string m.key, .int .i64 m.to]) ?_
    repeat refine s_nx ?_
    refine s_own st ?_
    refine storeMove_spec (k := m.key) (M := M) (by omega) (by omega) ?_
    unfold law10_moved.s2
    repeat refine s_nx ?_
    refine s_own sd ?_
    refine move6_hg (by omega) (by omega) ?_
    refine s_ai ?_
    refine s_end (hk' ((i : Int) + 1) (i + 1, (sMove 3 M m.key m.to).1) ⟨by simp, hil, ?_, ?_⟩ (by simp only; omega))
    · have := sMove_len1 3 M m.key m.to
      simp only; omega
    · simp only [htk, movesM, List.foldl_append, List.foldl_cons, List.foldl_nil]
      rw [hM]; rfl
  · have hil : i = L.length := by simp only [decide_eq_false_iff_not] at hb; omega
    rw [hil, List.take_length] at hM
    rw [hM] at hMl ⊢
    exact h st sd (by omega)
theorem make_hg {t : TxX} {a b c d : Int} {Q : Array Value → K} (hr : ∀ w, Holds B Γ w → txRd w t) (hl : t.reads.length ≤ 1000 ∧ t.writes.length ≤ 1000 ∧ t.ops.length ≤ 1000 ∧ ∀ x ∈ t.ops, x.1.val.length ≤ 1000000) (hk : ∀ x ∈ t.reads ++ t.writes, x.length ≤ 1000)
    (h : ∀ t' ms, TxIs t' t → HG B (SlC ty_api_Mark 3 ms ((mksOf n M (keysT (t.reads ++ t.writes))).flatMap mkL) :: StoreR st n M :: txC t' Γ) (Q (orL a b c d t' ms).toArray)) :
    HG B (StoreR st n M :: Γ) (route_Make.call (some ⟨st, 0, none⟩) (tgL a b c d).toArray (txL t).toArray Q) := fun w hw => by
  refine route_Make_ok _ _ _ _ _ ?_
  refine Sep.hg hw ?_
  clear hw w
  unfold route_Make
  refine s_new fun tag4 => ?_
  refine s_new fun t5 => ?_
  refine s_new fun t6 => ?_
  repeat refine s_nx ?_
  refine copy_hg (t := t) (fun w hw => hr w hw.drops) hl fun t' ht' => ?_
  repeat refine s_nx ?_
  refine s_own st ?_
  refine marks_hg (t := t) (fun w hw => hr w hw.drops) ⟨hl.1, hl.2.1⟩ hk fun ms => ?_
  repeat refine s_nx ?_
  exact s_end (h t' ms ht')
end
end Go.Proofs.YtfjjocopmknhgaaGreat
/- The shelf contract of slices.Sort on ints, laid at this program. -/
namespace Go.Proofs.YtfjjocopmknhgaaGreat
open Go.Proofs Go.Shelf
def sortRenI : Go.Shelf.Ren := ⟨fun | 5 => 92 | 7 => 124 | 8 => 125 | 10 => 134 | 11 => 135 | 12 => 136 | 13 => 137 | 14 => 138 | 15 => 139 | 16 => 140 | 17 => 141 | 18 => 142 | 19 => 143 | 20 => 144 | 30 => 161 | 31 => 162 | 32 => 163 | 33 => 164 | 34 => 165 | 35 => 166 | 40 => 175 | n => n, fun | 0 => 0 | 3 => 3 | 4 => 4 | 5 => 5 | 9 => 9 | 22 => 122 | 23 => 122 | 25 => 3 | 32 => 210 | 35 => 220 | 36 => 221 | 41 => 178 | 44 => 228 | 46 => 35 | 53 => 243 | 57 => 247 | 63 => 257 | 64 => 258 | n => n, fun | n => n⟩
theorem sortLayI : Go.Proofs.SlLaysM.n5 Tryz.prog sortRenI := {
  mixed := by kernel_rfl
  f5 := ⟨Tryz.f92.name, by decide, Tryz.func92.trans (congrArg some (by kernel_rfl))⟩
  f7 := ⟨Tryz.f124.name, by decide, Tryz.func124.trans (congrArg some (by kernel_rfl))⟩
  f8 := Tryz.func125.trans (congrArg some (by kernel_rfl))
  f10 := ⟨Tryz.f134.name, by decide, Tryz.func134.trans (congrArg some (by kernel_rfl))⟩
  f11 := ⟨Tryz.f135.name, by decide, Tryz.func135.trans (congrArg some (by kernel_rfl))⟩
  f12 := ⟨Tryz.f136.name, by decide, Tryz.func136.trans (congrArg some (by kernel_rfl))⟩
  f13 := ⟨Tryz.f137.name, by decide, Tryz.func137.trans (congrArg some (by kernel_rfl))⟩
  f14 := ⟨Tryz.f138.name, by decide, Tryz.func138.trans (congrArg some (by kernel_rfl))⟩
  f15 := ⟨Tryz.f139.name, by decide, Tryz.func139.trans (congrArg some (by kernel_rfl))⟩
  f16 := ⟨Tryz.f140.name, by decide, Tryz.func140.trans (congrArg some (by kernel_rfl))⟩
  f17 := ⟨Tryz.f141.name, by decide, Tryz.func141.trans (congrArg some (by kernel_rfl))⟩
  f18 := ⟨Tryz.f142.name, by decide, Tryz.func142.trans (congrArg some (by kernel_rfl))⟩
  f19 := Tryz.func143.trans (congrArg some (by kernel_rfl))
  f20 := Tryz.func144.trans (congrArg some (by kernel_rfl))
  f30 := ⟨Tryz.f161.name, by decide, Tryz.func161.trans (congrArg some (by kernel_rfl))⟩
  f31 := Tryz.func162.trans (congrArg some (by kernel_rfl))
  f32 := Tryz.func163.trans (congrArg some (by kernel_rfl))
  f33 := ⟨Tryz.f164.name, by decide, Tryz.func164.trans (congrArg some (by kernel_rfl))⟩
  f34 := ⟨Tryz.f165.name, by decide, Tryz.func165.trans (congrArg some (by kernel_rfl))⟩
  f35 := ⟨Tryz.f166.name, by decide, Tryz.func166.trans (congrArg some (by kernel_rfl))⟩
  f40 := ⟨Tryz.f175.name, by decide, Tryz.func175.trans (congrArg some (by kernel_rfl))⟩
  t0 := Tryz.underlying0
  a0 := Tryz.isAgg0
  z0 := Tryz.sizeOf0
  v0 := Tryz.zeroValue0
  t3 := Tryz.underlying3
  a3 := Tryz.isAgg3
  z3 := Tryz.sizeOf3
  v3 := Tryz.zeroValue3
  t4 := Tryz.underlying4
  a4 := Tryz.isAgg4
  z4 := Tryz.sizeOf4
  v4 := Tryz.zeroValue4
  t5 := Tryz.underlying5
  a5 := Tryz.isAgg5
  z5 := Tryz.sizeOf5
  v5 := Tryz.zeroValue5
  t9 := Tryz.underlying9
  a9 := Tryz.isAgg9
  z9 := Tryz.sizeOf9
  v9 := Tryz.zeroValue9
  t22 := Tryz.underlying122
  a22 := Tryz.isAgg122
  z22 := Tryz.sizeOf122
  v22 := Tryz.zeroValue122
  t23 := Tryz.underlying122
  a23 := Tryz.isAgg122
  z23 := Tryz.sizeOf122
  v23 := Tryz.zeroValue122
  t25 := Tryz.underlying3
  a25 := Tryz.isAgg3
  z25 := Tryz.sizeOf3
  v25 := Tryz.zeroValue3
  t32 := Tryz.underlying210
  a32 := Tryz.isAgg210
  z32 := Tryz.sizeOf210
  v32 := Tryz.zeroValue210
  t35 := Tryz.underlying220
  a35 := Tryz.isAgg220
  z35 := Tryz.sizeOf220
  v35 := Tryz.zeroValue220
  t36 := Tryz.underlying221
  a36 := Tryz.isAgg221
  z36 := Tryz.sizeOf221
  v36 := Tryz.zeroValue221
  t41 := Tryz.underlying178
  a41 := Tryz.isAgg178
  z41 := Tryz.sizeOf178
  v41 := Tryz.zeroValue178
  t44 := Tryz.underlying228
  a44 := Tryz.isAgg228
  z44 := Tryz.sizeOf228
  v44 := Tryz.zeroValue228
  t46 := Tryz.underlying35
  a46 := Tryz.isAgg35
  z46 := Tryz.sizeOf35
  v46 := Tryz.zeroValue35
  t53 := Tryz.underlying243
  a53 := Tryz.isAgg243
  z53 := Tryz.sizeOf243
  v53 := Tryz.zeroValue243
  t57 := Tryz.underlying247
  a57 := Tryz.isAgg247
  z57 := Tryz.sizeOf247
  v57 := Tryz.zeroValue247
  t63 := Tryz.underlying257
  a63 := Tryz.isAgg257
  z63 := Tryz.sizeOf257
  v63 := Tryz.zeroValue257
  t64 := Tryz.underlying258
  a64 := Tryz.isAgg258
  z64 := Tryz.sizeOf258
  v64 := Tryz.zeroValue258
}
end Go.Proofs.YtfjjocopmknhgaaGreat
/- slices.Sort of ints, by the shelf's contract. -/
namespace Go.Proofs.YtfjjocopmknhgaaGreat
open Go Go.Sep
set_option linter.unusedSimpArgs false
set_option linter.unusedVariables false
set_option maxRecDepth 100000

abbrev sortI (ss : List Int) : List Int := ss.mergeSort fun x y => decide (x ≤ y)
section
variable {B w : World} {Γ : List HProp}
theorem slices_SortI_spec {s : Sl} {ss : List Int} {k : K} (hl : ss.length ≤ 1000000) (h : Holds B (SlC ty_int 1 s (ss.map (Value.int .i64)) :: Γ) w) (hk : ∀ w, Holds B (SlC ty_int 1 s ((sortI ss).map (Value.int .i64)) :: Γ) w → k w) : slices_Sort_s_int_int.call s k w := by
  have hsc := h.slCap
  have hn : ss.length = s.n := by have := hsc.1; simpa using this
  unfold slices_Sort_s_int_int.call CallF
  cases ha : s.a with
  | none =>
    have hs0 : s.n = 0 := by have := hsc.2.2.2 ha; omega
    have hss : ss = [] := List.length_eq_zero_iff.1 (by omega)
    subst hss
    have h1 := AnyM.slices_Sort_int_none sortLayI none s.c w
    have e : [Sl.val s].toArray = #[.slice none 0 s.c] := by
      show #[Value.slice s.a s.n s.c] = _
      rw [ha, hs0]
    rw [e]
    refine Calls.mono h1 fun e w' he => ?_
    obtain ⟨rfl, rfl⟩ := he
    exact ⟨rfl, hk _ (by simpa [sortI] using h)⟩
  | some a =>
    obtain ⟨cs, fz, h, hsp, hf, hsz, hr, hlen, hc⟩ := slOpen h ha
    obtain ⟨b, off, sp⟩ := a
    simp only at hsp
    subst hsp
    simp only at h hf hsz hr
    have hb := h.block
    have hH : Sort.Holds (Value.int .i64) w b off ss.toArray := fun j hj => by
      simp only [List.size_toArray] at hj
      have h1 := hr j (by simpa using hj)
      constructor
      · refine cell_block hb ?_
        rw [h1, List.getElem?_map, List.getElem?_eq_getElem hj]
        simp [getElem!_pos, hj]
      · exact frozen_block hb (hf _ (by omega) (by omega))
    have h1 := AnyM.slices_Sort_int sortLayI b off s.c ss w hH (Array.getElem?_eq_some_iff.1 hb).1 (by omega)
    have e : [Sl.val s].toArray = #[.slice (some ⟨b, off, none⟩) ss.length s.c] := by
      show #[Value.slice s.a s.n s.c] = _
      rw [ha, hn]
    rw [e]
    refine Calls.mono h1 fun e w' he => ?_
    obtain ⟨rfl, n, os, rfl⟩ := he
    refine ⟨rfl, hk _ ?_⟩
    have h2 : Holds B (blk b (.cells cs ty_int fz) :: Γ) (Sort.ahead w n) := h.drew _
    have h3 := h2.setBlock (o' := .cells (Sort.putCells (Value.int .i64) off (sortI ss).toArray cs) ty_int fz) rfl
    have e2 : ({ (Sort.ahead w n) with heap := (Sort.ahead w n).heap.setIfInBounds b (.cells (Sort.putCells (Value.int .i64) off (sortI ss).toArray cs) ty_int fz) } : World) = Sort.putRow (Value.int .i64) (Sort.ahead w n) b off (sortI ss).toArray := by
      have harr : (Sort.ahead w n).heap.setIfInBounds b (.cells (Sort.putCells (Value.int .i64) off (sortI ss).toArray cs) ty_int fz) = (Sort.ahead w n).heap.modify b (Sort.onCells (Sort.putCells (Value.int .i64) off (sortI ss).toArray)) := by
        apply Array.ext_getElem?
        intro i
        rw [Array.getElem?_modify]
        by_cases hi : b = i
        · subst hi
          rw [if_pos rfl, h2.block, Array.getElem?_setIfInBounds_self_of_lt (Array.getElem?_eq_some_iff.1 h2.block).1]
          rfl
        · rw [if_neg hi, Array.getElem?_setIfInBounds_ne hi]
      unfold Sort.putRow Sort.mapBlock
      rw [← harr]
    rw [e2] at h3
    have h4 := holds_grow h3 os
    have hsl : (sortI ss).length = ss.length := by simp [sortI]
    refine slShut (a := ⟨b, off, none⟩) ha h4 ⟨rfl, hf, ?_, fun i hi => ?_, by rw [List.length_map, hsl]; simpa using hlen, hc⟩
    · have : (Sort.putCells (Value.int .i64) off (sortI ss).toArray cs).size = cs.size := by simp [Sort.putCells]
      rw [this]; exact hsz
    · simp only [List.length_map] at hi
      unfold Sort.putCells
      rw [Array.getElem?_mapIdx]
      have hlt : off + i < cs.size := by omega
      rw [Array.getElem?_eq_getElem hlt, Option.map_some, if_pos (by simp; omega), List.getElem?_map, List.getElem?_eq_getElem hi, Option.map_some, Nat.add_sub_cancel_left, getElem!_pos (sortI ss).toArray i (by simpa using hi)]
      simp
end
end Go.Proofs.YtfjjocopmknhgaaGreat
