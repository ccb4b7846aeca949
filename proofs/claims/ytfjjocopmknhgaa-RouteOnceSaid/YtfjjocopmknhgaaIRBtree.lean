/- Plain forms of functions, and that their code comes to them (package btree). -/
import Derived.Test.YtfjjocopmknhgaaCalls
namespace Go.Proofs.Ytfjjocopmknhgaa
open Go Go.Sep
set_option linter.unusedVariables false
set_option linter.unusedSimpArgs false
set_option maxRecDepth 100000
set_option maxHeartbeats 4000000
attribute [local irreducible] G Gp Cx Tx Ex Sx Dx Ox Ax Lx Rx Fx Bx Bj Al Do Ld LdN St StN New CallF Ar DoU Rd Rd2 Pu Cd Ite Fv CallV CallY Ans0 Ans1 Ans2 Ans3 Ans4 Ans5 Ext Dead Dr WithS Sv LdS LdNS RdS Rd2S Nn Idx IdxA IdxS Fld Bld Slc SlcS Cat All LoopK RangeF RangeJ TakeD
namespace F_IRBtree
instance at_174 : AT Try.prog 174 5 := ⟨by kernel_rfl⟩
instance at_36 : AT Try.prog 36 4 := ⟨by kernel_rfl⟩
instance cb_106 : CB Try.prog 106 := ⟨by kernel_rfl⟩
instance cb_108 : CB Try.prog 108 := ⟨by kernel_rfl⟩
instance cb_109 : CB Try.prog 109 := ⟨by kernel_rfl⟩
instance cb_110 : CB Try.prog 110 := ⟨by kernel_rfl⟩
instance cb_116 : CB Try.prog 116 := ⟨by kernel_rfl⟩
instance cb_117 : CB Try.prog 117 := ⟨by kernel_rfl⟩
instance cb_118 : CB Try.prog 118 := ⟨by kernel_rfl⟩
instance cb_119 : CB Try.prog 119 := ⟨by kernel_rfl⟩
instance cb_120 : CB Try.prog 120 := ⟨by kernel_rfl⟩
instance cb_121 : CB Try.prog 121 := ⟨by kernel_rfl⟩
instance cb_122 : CB Try.prog 122 := ⟨by kernel_rfl⟩
instance cb_134 : CB Try.prog 134 := ⟨by kernel_rfl⟩
instance cb_87 : CB Try.prog 87 := ⟨by kernel_rfl⟩
instance ct_164 : CT Try.prog 164 := ⟨by kernel_rfl⟩
instance ct_165 : CT Try.prog 165 := ⟨by kernel_rfl⟩
instance ct_166 : CT Try.prog 166 := ⟨by kernel_rfl⟩
instance ct_3 : CT Try.prog 3 := ⟨by kernel_rfl⟩
instance ct_9 : CT Try.prog 9 := ⟨by kernel_rfl⟩
instance ft_168_0 : FT Try.prog 168 0 0 1 := ⟨by kernel_rfl⟩
instance ft_168_1 : FT Try.prog 168 1 1 1 := ⟨by kernel_rfl⟩
instance ft_170_0 : FT Try.prog 170 0 0 1 := ⟨by kernel_rfl⟩
instance ft_170_1 : FT Try.prog 170 1 1 1 := ⟨by kernel_rfl⟩
instance ft_174_0 : FT Try.prog 174 0 0 1 := ⟨by kernel_rfl⟩
instance ft_174_1 : FT Try.prog 174 1 1 4 := ⟨by kernel_rfl⟩
instance mx : MX Try.prog := ⟨mixed⟩
instance pl_168 : PLT Try.prog 168 [(0, 1), (1, 1)] := ⟨_, Try.underlying168, by kernel_rfl⟩
instance pl_170 : PLT Try.prog 170 [(0, 1), (1, 1)] := ⟨_, Try.underlying170, by kernel_rfl⟩
instance pl_174 : PLT Try.prog 174 [(0, 1), (1, 4)] := ⟨_, Try.underlying174, by kernel_rfl⟩
instance sl_165 : SLT Try.prog 165 174 5 := ⟨by kernel_rfl⟩
instance sl_166 : SLT Try.prog 166 164 1 := ⟨by kernel_rfl⟩
instance sz_164 : SZ Try.prog 164 1 := ⟨by kernel_rfl⟩
instance sz_165 : SZ Try.prog 165 1 := ⟨by kernel_rfl⟩
instance sz_166 : SZ Try.prog 166 1 := ⟨by kernel_rfl⟩
instance sz_174 : SZ Try.prog 174 5 := ⟨by kernel_rfl⟩
instance sz_3 : SZ Try.prog 3 1 := ⟨by kernel_rfl⟩
instance sz_36 : SZ Try.prog 36 4 := ⟨by kernel_rfl⟩
instance un_187 : UN Try.prog 187 (.pointer 174) := ⟨Try.underlying187⟩
instance zt_164 : ZT Try.prog 164 (.pointer none) := ⟨Try.t164, by kernel_rfl, by kernel_rfl⟩
instance zt_168 : ZT Try.prog 168 (.agg #[(Sl.val ⟨none, 0, 0⟩), (Sl.val ⟨none, 0, 0⟩)]) := ⟨Try.t168, by kernel_rfl, by kernel_rfl⟩
instance zt_170 : ZT Try.prog 170 (.agg #[(.pointer none), (.int .i64 0)]) := ⟨Try.t170, by kernel_rfl, by kernel_rfl⟩
instance zt_174 : ZT Try.prog 174 (.agg #[(.string ⟨#[]⟩), (.bool false), (Sl.val ⟨none, 0, 0⟩), (.int .i64 0), (.int .u64 0)]) := ⟨Try.t174, by kernel_rfl, by kernel_rfl⟩
instance zt_36 : ZT Try.prog 36 (.agg #[(.bool false), (Sl.val ⟨none, 0, 0⟩), (.int .i64 0), (.int .u64 0)]) := ⟨Try.t36, by kernel_rfl, by kernel_rfl⟩
end F_IRBtree
def btree_New_string_api_Record  (Q : (Option Addr) → K) : K :=
  New 168 #[(Sl.val ⟨none, 0, 0⟩), (Sl.val ⟨none, 0, 0⟩)] fun t2 =>
  New 170 #[(.pointer (some t2)), (.int .i64 0)] fun t4 =>
  Q (some t4)
theorem btree_New_string_api_Record_ok  (Q : (Option Addr) → K) (w : World) (h : btree_New_string_api_Record  Q w) : btree_New_string_api_Record.call  Q w := by
  exact g_walk 5 h Try.func53
def btree_Tree_string_api_Record_Get.b1 (Q : (Array Value) → Bool → K)  (X1 : (Option Addr) → K) (key1_1 : ByteArray) (value4_1 : Addr) (n6_1 : (Option Addr)) : K :=
  btree_node_string_api_Record_search.call n6_1 key1_1 fun t16x0 t16x1 =>
  Ite t16x1
    (Nn n6_1 fun t21 =>
    Ld t21 Sl.val fun t23 =>
    Idx t23 t16x0 5 fun t25 =>
    LdN (t25.add 1) 4 fun t27 =>
    StN value4_1 4 t27 <|
    LdN value4_1 4 fun r0 =>
    Q r0 true)
    (Nn n6_1 fun t29 =>
    Ld (t29.add 1) Sl.val fun t31 =>
    Ite (decide ((t31.n : Int) = 0))
      (LdN value4_1 4 fun t34 =>
      StN value4_1 4 t34 <|
      LdN value4_1 4 fun r0 =>
      Q r0 false)
      (Ld (t29.add 1) Sl.val fun t38 =>
      Idx t38 t16x0 1 fun t40 =>
      Ld t40 Value.pointer fun t41 =>
      X1 t41))
def btree_Tree_string_api_Record_Get (t0 : (Option Addr)) (key1 : ByteArray) (Q : (Array Value) → Bool → K) : K :=
  New 36 #[(.bool false), (Sl.val ⟨none, 0, 0⟩), (.int .i64 0), (.int .u64 0)] fun value4 =>
  Nn t0 fun t10 =>
  Ld t10 Value.pointer fun t12 =>
  LoopK (α := (Option Addr)) (fun X x => btree_Tree_string_api_Record_Get.b1 Q X key1 value4 x) t12
theorem btree_Tree_string_api_Record_Get_ok (t0 : (Option Addr)) (key1 : ByteArray) (Q : (Array Value) → Bool → K) (w : World) (h : btree_Tree_string_api_Record_Get t0 key1 Q w) : btree_Tree_string_api_Record_Get.call t0 key1 Q w := by
  have hL2 : ∀ (key1_1 : ByteArray) (value4_1 : Addr), LH 2 (fun x : (Option Addr) => [(1, (.string key1_1)), (4, (.pointer (some value4_1))), (6, (.pointer x))]) (fun X x => btree_Tree_string_api_Record_Get.b1 Q X key1_1 value4_1 x) := by intros; exact ⟨⟩
  exact g_walk 42 h Try.func54
def btree_node_string_api_Record_search (n0 : (Option Addr)) (key1 : ByteArray) (Q : Int → Bool → K) : K :=
  Nn n0 fun t7 =>
  Ld t7 Sl.val fun t9 =>
  slices_BinarySearchFunc_s_btree_item_string_api_Record_btree_item_string_api_Record_string.call t9 key1 (.func (.func 107) #[] #[]) fun t11x0 t11x1 =>
  Q t11x0 t11x1
theorem btree_node_string_api_Record_search_ok (n0 : (Option Addr)) (key1 : ByteArray) (Q : Int → Bool → K) (w : World) (h : btree_node_string_api_Record_search n0 key1 Q w) : btree_node_string_api_Record_search.call n0 key1 Q w := by
  exact g_walk 14 h Try.func87
def btree_Tree_string_api_Record_Delete.s2 (Q : (Array Value) → Bool → K)  (value4_2 : Addr) (ok5_2 : Bool) : K :=
  LdN value4_2 4 fun t55 =>
  StN value4_2 4 t55 <|
  LdN value4_2 4 fun r0 =>
  Q r0 ok5_2
def btree_Tree_string_api_Record_Delete.s1 (Q : (Array Value) → Bool → K)  (t0_1 : Addr) (value4_1 : Addr) (ok5_1 : Bool) : K :=
  Ite ok5_1
    (Ld (t0_1.add 1) (Value.int .i64) fun t51 =>
    Ar (IntKind.wrap .i64 (t51 - 1)) fun t52 =>
    St (t0_1.add 1) (.int .i64 t52) <|
    btree_Tree_string_api_Record_Delete.s2 Q value4_1 ok5_1)
    (btree_Tree_string_api_Record_Delete.s2 Q value4_1 ok5_1)
def btree_Tree_string_api_Record_Delete.s3 (Q : (Array Value) → Bool → K)  (t0_3 : Addr) (value4_3 : Addr) (ok5_3 : Bool) (t34_3 : Bool) : K :=
  Ite t34_3
    (Ld t0_3 Value.pointer fun t39 =>
    Nn t39 fun t40 =>
    Ld (t40.add 1) Sl.val fun t42 =>
    Idx t42 0 1 fun t43 =>
    Ld t43 Value.pointer fun t44 =>
    St t0_3 (.pointer t44) <|
    btree_Tree_string_api_Record_Delete.s1 Q t0_3 value4_3 ok5_3)
    (btree_Tree_string_api_Record_Delete.s1 Q t0_3 value4_3 ok5_3)
def btree_Tree_string_api_Record_Delete (t0 : (Option Addr)) (key1 : ByteArray) (Q : (Array Value) → Bool → K) : K :=
  New 36 #[(.bool false), (Sl.val ⟨none, 0, 0⟩), (.int .i64 0), (.int .u64 0)] fun value4 =>
  Nn t0 fun t8 =>
  Ld t8 Value.pointer fun t10 =>
  btree_node_string_api_Record_take.call t10 key1 fun t12x0 t12x1 =>
  StN value4 4 t12x0 <|
  Ld t8 Value.pointer fun t18 =>
  Nn t18 fun t19 =>
  Ld t19 Sl.val fun t21 =>
  Ite (decide ((t21.n : Int) = 0))
    (Ld t8 Value.pointer fun t28 =>
    Nn t28 fun t29 =>
    Ld (t29.add 1) Sl.val fun t31 =>
    btree_Tree_string_api_Record_Delete.s3 Q t8 value4 t12x1 (decide ((t31.n : Int) = 1)))
    (btree_Tree_string_api_Record_Delete.s3 Q t8 value4 t12x1 false)
theorem btree_Tree_string_api_Record_Delete_ok (t0 : (Option Addr)) (key1 : ByteArray) (Q : (Array Value) → Bool → K) (w : World) (h : btree_Tree_string_api_Record_Delete t0 key1 Q w) : btree_Tree_string_api_Record_Delete.call t0 key1 Q w := by
  have hJ6 : JH 6 fun D => ∃ (value4_2 : Addr), D [(4, (.pointer (some value4_2)))] (fun C => ∀ (ok5_2 : Bool), C [(4, (.pointer (some value4_2))), (5, (.bool ok5_2))] (btree_Tree_string_api_Record_Delete.s2 Q value4_2 ok5_2)) := by intros; exact ⟨fun _ ⟨_, h⟩ => ⟨_, _, h⟩⟩
  have hJ4 : JH 4 fun D => ∃ (t0_1 : Addr) (value4_1 : Addr), D [(0, (.pointer (some t0_1))), (4, (.pointer (some value4_1)))] (fun C => ∀ (ok5_1 : Bool), C [(0, (.pointer (some t0_1))), (4, (.pointer (some value4_1))), (5, (.bool ok5_1))] (btree_Tree_string_api_Record_Delete.s1 Q t0_1 value4_1 ok5_1)) := by intros; exact ⟨fun _ ⟨_, _, h⟩ => ⟨_, _, h⟩⟩
  have hJ3 : JH 3 fun D => ∃ (t0_3 : Addr) (value4_3 : Addr), D [(0, (.pointer (some t0_3))), (4, (.pointer (some value4_3)))] (fun C => ∀ (ok5_3 : Bool) (t34_3 : Bool), C [(0, (.pointer (some t0_3))), (4, (.pointer (some value4_3))), (5, (.bool ok5_3)), (34, (.bool t34_3))] (btree_Tree_string_api_Record_Delete.s3 Q t0_3 value4_3 ok5_3 t34_3)) := by intros; exact ⟨fun _ ⟨_, _, h⟩ => ⟨_, _, h⟩⟩
  exact g_walk 57 h Try.func88
def btree_Tree_string_api_Record_Put.s3 (Q : (Array Value) → Bool → K)  (t6_3 : Addr) (old8_3 : Addr) (had9_3 : Bool) : K :=
  LdN old8_3 4 fun t51 =>
  StN t6_3 4 t51 <|
  LdN t6_3 4 fun r0 =>
  Q r0 had9_3
def btree_Tree_string_api_Record_Put.s2 (Q : (Array Value) → Bool → K)  (t0_2 : (Option Addr)) (t6_2 : Addr) (old8_2 : Addr) (had9_2 : Bool) : K :=
  Ite (!had9_2)
    (Nn t0_2 fun t45 =>
    Ld (t45.add 1) (Value.int .i64) fun t47 =>
    Ar (IntKind.wrap .i64 (t47 + 1)) fun t48 =>
    St (t45.add 1) (.int .i64 t48) <|
    btree_Tree_string_api_Record_Put.s3 Q t6_2 old8_2 had9_2)
    (btree_Tree_string_api_Record_Put.s3 Q t6_2 old8_2 had9_2)
def btree_Tree_string_api_Record_Put.s1 (Q : (Array Value) → Bool → K)  (t0_1 : (Option Addr)) (t6_1 : Addr) (old8_1 : Addr) (had9_1 : Bool) (mid10_1 : (Option Addr)) (right11_1 : (Option Addr)) : K :=
  Ite (!(mid10_1).isNone)
    (Dr <| WithS fun S =>
    Nn mid10_1 fun t29 =>
    Nn t0_1 fun t33 =>
    LdNS S t29 5 fun t30 =>
    LdS S t33 Value.pointer fun t35 =>
    All [
      (Bld #[(.string ⟨#[]⟩), (.bool false), (Sl.val ⟨none, 0, 0⟩), (.int .i64 0), (.int .u64 0)] (fun i => some (i * 5, 5)) [(0, (.agg t30))] fun ct31 =>
      New 174 ct31 fun t31 =>
      Sv S <|
      New 164 #[(.pointer t35), (.pointer right11_1)] fun t37 =>
      Sv S <|
      New 168 #[(Sl.val (Sl.mk (some t31) 1 1)), (Sl.val (Sl.mk (some t37) 2 2))] fun t39 =>
      St t33 (.pointer (some t39)) <|
      btree_Tree_string_api_Record_Put.s2 Q (some t33) t6_1 old8_1 had9_1),
      (New 164 #[(.pointer t35), (.pointer right11_1)] fun t37 =>
      Sv S <|
      Bld #[(.string ⟨#[]⟩), (.bool false), (Sl.val ⟨none, 0, 0⟩), (.int .i64 0), (.int .u64 0)] (fun i => some (i * 5, 5)) [(0, (.agg t30))] fun ct31 =>
      New 174 ct31 fun t31 =>
      Sv S <|
      New 168 #[(Sl.val (Sl.mk (some t31) 1 1)), (Sl.val (Sl.mk (some t37) 2 2))] fun t39 =>
      St t33 (.pointer (some t39)) <|
      btree_Tree_string_api_Record_Put.s2 Q (some t33) t6_1 old8_1 had9_1)
      ])
    (btree_Tree_string_api_Record_Put.s2 Q t0_1 t6_1 old8_1 had9_1)
def btree_Tree_string_api_Record_Put (t0 : (Option Addr)) (key1 : ByteArray) (value2 : (Array Value)) (Q : (Array Value) → Bool → K) : K :=
  New 36 value2 fun value5 =>
  New 36 #[(.bool false), (Sl.val ⟨none, 0, 0⟩), (.int .i64 0), (.int .u64 0)] fun t6 =>
  Dr <| WithS fun S =>
  Nn t0 fun t14 =>
  LdS S t14 Value.pointer fun t16 =>
  LdNS S value5 4 fun t18 =>
  Bld #[(.string ⟨#[]⟩), (.bool false), (Sl.val ⟨none, 0, 0⟩), (.int .i64 0), (.int .u64 0)] ([(0, 1), (1, 4)][·]?) [(0, (.string key1)), (1, (.agg t18))] fun t19 =>
  All [
    (btree_node_string_api_Record_put.call t16 t19 fun t20x0 t20x1 t20x2 t20x3 =>
    New 36 #[(.bool false), (Sl.val ⟨none, 0, 0⟩), (.int .i64 0), (.int .u64 0)] fun old8 =>
    StN old8 4 t20x0 <|
    btree_Tree_string_api_Record_Put.s1 Q (some t14) t6 old8 t20x1 t20x2 t20x3),
    (New 36 #[(.bool false), (Sl.val ⟨none, 0, 0⟩), (.int .i64 0), (.int .u64 0)] fun old8 =>
    Sv S <|
    btree_node_string_api_Record_put.call t16 t19 fun t20x0 t20x1 t20x2 t20x3 =>
    StN old8 4 t20x0 <|
    btree_Tree_string_api_Record_Put.s1 Q (some t14) t6 old8 t20x1 t20x2 t20x3)
    ]
theorem btree_Tree_string_api_Record_Put_ok (t0 : (Option Addr)) (key1 : ByteArray) (value2 : (Array Value)) (Q : (Array Value) → Bool → K) (w : World) (h : btree_Tree_string_api_Record_Put t0 key1 value2 Q w) : btree_Tree_string_api_Record_Put.call t0 key1 value2 Q w := by
  have hJ6 : JH 6 fun D => ∃ (t6_3 : Addr) (old8_3 : Addr), D [(6, (.pointer (some t6_3))), (8, (.pointer (some old8_3)))] (fun C => ∀ (had9_3 : Bool), C [(6, (.pointer (some t6_3))), (8, (.pointer (some old8_3))), (9, (.bool had9_3))] (btree_Tree_string_api_Record_Put.s3 Q t6_3 old8_3 had9_3)) := by intros; exact ⟨fun _ ⟨_, _, h⟩ => ⟨_, _, h⟩⟩
  have hJ4 : JH 4 fun D => ∃ (t0_2 : (Option Addr)) (t6_2 : Addr) (old8_2 : Addr), D [(0, (.pointer t0_2)), (6, (.pointer (some t6_2))), (8, (.pointer (some old8_2)))] (fun C => ∀ (had9_2 : Bool), C [(0, (.pointer t0_2)), (6, (.pointer (some t6_2))), (8, (.pointer (some old8_2))), (9, (.bool had9_2))] (btree_Tree_string_api_Record_Put.s2 Q t0_2 t6_2 old8_2 had9_2)) := by intros; exact ⟨fun _ ⟨_, _, _, h⟩ => ⟨_, _, h⟩⟩
  have hD3 : DH 3 2 [12, 15] (.s [0, 1, 2, 5, 6, 7, 9, 3, 8] (.a [(4, 1, .a [(10, 1, .s [11] (.a [(12, 0, .s [13, 14] (.a [(15, 0, .e)]))]))]), (10, 1, .a [(4, 1, .s [11] (.a [(12, 0, .s [13, 14] (.a [(15, 0, .e)]))]))])])) := by intros; exact ⟨⟩
  have hJ2 : JH 2 fun D => ∃ (t0_1 : (Option Addr)) (t6_1 : Addr), D [(0, (.pointer t0_1)), (6, (.pointer (some t6_1)))] (fun C => ∀ (old8_1 : Addr) (had9_1 : Bool) (mid10_1 : (Option Addr)) (right11_1 : (Option Addr)), C [(0, (.pointer t0_1)), (6, (.pointer (some t6_1))), (8, (.pointer (some old8_1))), (9, (.bool had9_1)), (10, (.pointer mid10_1)), (11, (.pointer right11_1))] (btree_Tree_string_api_Record_Put.s1 Q t0_1 t6_1 old8_1 had9_1 mid10_1 right11_1)) := by intros; exact ⟨fun _ ⟨_, _, h⟩ => ⟨_, _, h⟩⟩
  have hD1 : DH 1 2 [7, 14] (.s [0, 1, 2, 4, 3, 5, 6] (.a [(7, 0, .s [8, 9, 10, 11, 12] (.a [(13, 0, .a [(14, 0, .s [15, 16, 17] .e)])])), (13, 1, .a [(7, 0, .s [8, 9, 10, 11, 12] (.a [(14, 0, .s [15, 16, 17] .e)]))])])) := by intros; exact ⟨⟩
  exact g_walk 53 h Try.func89
def btree_node_string_api_Record_search_1 (x0 : (Array Value)) (k1 : ByteArray) (Q : Int → K) : K :=
  New 174 x0 fun x2 =>
  Ld x2 Value.string fun t6 =>
  cmp_Compare_string.call t6 k1 fun t8 =>
  Q t8
theorem btree_node_string_api_Record_search_1_ok (x0 : (Array Value)) (k1 : ByteArray) (Q : Int → K) (w : World) (h : btree_node_string_api_Record_search_1 x0 k1 Q w) : btree_node_string_api_Record_search_1.call x0 k1 Q w := by
  exact g_walk 9 h Try.func107
def btree_node_string_api_Record_take.s1 (Q : (Array Value) → Bool → K)  (value4_1 : Addr) (ok5_1 : Bool) : K :=
  LdN value4_1 4 fun t94 =>
  StN value4_1 4 t94 <|
  LdN value4_1 4 fun r0 =>
  Q r0 ok5_1
def btree_node_string_api_Record_take.s2 (Q : (Array Value) → Bool → K)  (n0_2 : (Option Addr)) (key1_2 : ByteArray) (value4_2 : Addr) (i6_2 : Int) (found7_2 : Bool) (t14_2 : Bool) : K :=
  Ite t14_2
    (Nn n0_2 fun t25 =>
    Ld t25 Sl.val fun t27 =>
    Idx t27 i6_2 5 fun t29 =>
    LdN (t29.add 1) 4 fun t31 =>
    StN value4_2 4 t31 <|
    Ld t25 Sl.val fun t36 =>
    Ar (IntKind.wrap .i64 (i6_2 + 1)) fun t39 =>
    slices_Delete_s_btree_item_string_api_Record_btree_item_string_api_Record.call t36 i6_2 t39 fun t40 =>
    St t25 (Sl.val t40) <|
    LdN value4_2 4 fun t43 =>
    StN value4_2 4 t43 <|
    LdN value4_2 4 fun r0 =>
    Q r0 true)
    (Ite found7_2
      (Nn n0_2 fun t47 =>
      Ld t47 Sl.val fun t49 =>
      Idx t49 i6_2 5 fun t51 =>
      LdN (t51.add 1) 4 fun t53 =>
      StN value4_2 4 t53 <|
      Dr <| WithS fun S =>
      LdS S t47 Sl.val fun t57 =>
      LdS S (t47.add 1) Sl.val fun t62 =>
      Idx t62 i6_2 1 fun t64 =>
      LdS S t64 Value.pointer fun t65 =>
      btree_node_string_api_Record_last.call t65 fun t66 =>
      Sv S <|
      Idx t57 i6_2 5 fun t67 =>
      StN t67 5 t66 <|
      btree_node_string_api_Record_mend.call (some t47) i6_2 <|
      LdN value4_2 4 fun t71 =>
      StN value4_2 4 t71 <|
      LdN value4_2 4 fun r0 =>
      Q r0 true)
      (Nn n0_2 fun t74 =>
      Ld (t74.add 1) Sl.val fun t76 =>
      Ite (decide ((0 : Int) < (t76.n : Int)))
        (Ld (t74.add 1) Sl.val fun t83 =>
        Idx t83 i6_2 1 fun t85 =>
        Ld t85 Value.pointer fun t86 =>
        btree_node_string_api_Record_take.call t86 key1_2 fun t88x0 t88x1 =>
        StN value4_2 4 t88x0 <|
        btree_node_string_api_Record_mend.call (some t74) i6_2 <|
        btree_node_string_api_Record_take.s1 Q value4_2 t88x1)
        (btree_node_string_api_Record_take.s1 Q value4_2 false)))
def btree_node_string_api_Record_take (n0 : (Option Addr)) (key1 : ByteArray) (Q : (Array Value) → Bool → K) : K :=
  New 36 #[(.bool false), (Sl.val ⟨none, 0, 0⟩), (.int .i64 0), (.int .u64 0)] fun value4 =>
  btree_node_string_api_Record_search.call n0 key1 fun t11x0 t11x1 =>
  Ite t11x1
    (Nn n0 fun t18 =>
    Ld (t18.add 1) Sl.val fun t20 =>
    btree_node_string_api_Record_take.s2 Q (some t18) key1 value4 t11x0 true (decide ((t20.n : Int) = 0)))
    (btree_node_string_api_Record_take.s2 Q n0 key1 value4 t11x0 false false)
theorem btree_node_string_api_Record_take_ok (n0 : (Option Addr)) (key1 : ByteArray) (Q : (Array Value) → Bool → K) (w : World) (h : btree_node_string_api_Record_take n0 key1 Q w) : btree_node_string_api_Record_take.call n0 key1 Q w := by
  have hJ14 : JH 14 fun D => ∃ (value4_1 : Addr), D [(4, (.pointer (some value4_1)))] (fun C => ∀ (ok5_1 : Bool), C [(4, (.pointer (some value4_1))), (5, (.bool ok5_1))] (btree_node_string_api_Record_take.s1 Q value4_1 ok5_1)) := by intros; exact ⟨fun _ ⟨_, h⟩ => ⟨_, _, h⟩⟩
  have hD8 : DH 8 2 [14] (.s [0, 1, 2, 4, 5, 6, 7, 9, 3, 8, 10, 11] (.a [(12, 1, .s [13] (.a [(14, 0, .e)]))])) := by intros; exact ⟨⟩
  have hJ3 : JH 3 fun D => ∃ (n0_2 : (Option Addr)) (key1_2 : ByteArray) (value4_2 : Addr) (i6_2 : Int), D [(0, (.pointer n0_2)), (1, (.string key1_2)), (4, (.pointer (some value4_2))), (6, (.int .i64 i6_2))] (fun C => ∀ (found7_2 : Bool) (t14_2 : Bool), C [(0, (.pointer n0_2)), (1, (.string key1_2)), (4, (.pointer (some value4_2))), (5, (.bool false)), (6, (.int .i64 i6_2)), (7, (.bool found7_2)), (14, (.bool t14_2))] (btree_node_string_api_Record_take.s2 Q n0_2 key1_2 value4_2 i6_2 found7_2 t14_2)) := by intros; exact ⟨fun _ ⟨_, _, _, _, h⟩ => ⟨_, _, h⟩⟩
  exact g_walk 96 h Try.func109
def btree_node_string_api_Record_put.s2 (Q : (Array Value) → Bool → (Option Addr) → (Option Addr) → K)  (old4_2 : Addr) (had5_2 : Bool) (right7_2 : Addr) (m12_2 : Addr) : K :=
  LdN old4_2 4 fun t153 =>
  StN old4_2 4 t153 <|
  LdN old4_2 4 fun r0 =>
  Q r0 had5_2 (some m12_2) (some right7_2)
def btree_node_string_api_Record_put.s1 (Q : (Array Value) → Bool → (Option Addr) → (Option Addr) → K)  (n0_1 : (Option Addr)) (old4_1 : Addr) (had5_1 : Bool) : K :=
  Nn n0_1 fun t101 =>
  Ld t101 Sl.val fun t103 =>
  Ite (decide ((t103.n : Int) ≤ 5))
    (LdN old4_1 4 fun t106 =>
    StN old4_1 4 t106 <|
    LdN old4_1 4 fun r0 =>
    Q r0 had5_1 none none)
    (Ld t101 Sl.val fun t111 =>
    Idx t111 2 5 fun t112 =>
    LdN t112 5 fun t113 =>
    New 174 #[(.string ⟨#[]⟩), (.bool false), (Sl.val ⟨none, 0, 0⟩), (.int .i64 0), (.int .u64 0)] fun m12 =>
    StN m12 5 t113 <|
    Ld t101 Sl.val fun t117 =>
    Slc t117 3 (t117.n : Int) (t117.c : Int) 5 fun t118 =>
    slices_Clone_s_btree_item_string_api_Record_btree_item_string_api_Record.call t118 fun t119 =>
    New 168 #[(Sl.val t119), (Sl.val ⟨none, 0, 0⟩)] fun t121 =>
    Ld t101 Sl.val fun t126 =>
    Slc t126 0 2 2 5 fun t127 =>
    St t101 (Sl.val t127) <|
    Ld (t101.add 1) Sl.val fun t133 =>
    Ite (decide ((0 : Int) < (t133.n : Int)))
      (Ld (t101.add 1) Sl.val fun t140 =>
      Slc t140 3 (t140.n : Int) (t140.c : Int) 1 fun t141 =>
      slices_Clone_s_btree_node_string_api_Record_btree_node_string_api_Record.call t141 fun t142 =>
      St (t121.add 1) (Sl.val t142) <|
      Ld (t101.add 1) Sl.val fun t149 =>
      Slc t149 0 3 3 1 fun t150 =>
      St (t101.add 1) (Sl.val t150) <|
      btree_node_string_api_Record_put.s2 Q old4_1 had5_1 t121 m12)
      (btree_node_string_api_Record_put.s2 Q old4_1 had5_1 t121 m12))
def btree_node_string_api_Record_put (n0 : (Option Addr)) (x1 : (Array Value)) (Q : (Array Value) → Bool → (Option Addr) → (Option Addr) → K) : K :=
  New 174 x1 fun x3 =>
  New 36 #[(.bool false), (Sl.val ⟨none, 0, 0⟩), (.int .i64 0), (.int .u64 0)] fun old4 =>
  Ld x3 Value.string fun t16 =>
  btree_node_string_api_Record_search.call n0 t16 fun t17x0 t17x1 =>
  Ite t17x1
    (Nn n0 fun t64 =>
    Ld t64 Sl.val fun t66 =>
    Idx t66 t17x0 5 fun t68 =>
    LdN (t68.add 1) 4 fun t70 =>
    StN old4 4 t70 <|
    Dr <|
    Ld t64 Sl.val fun t74 =>
    LdN (x3.add 1) 4 fun t77 =>
    Idx t74 t17x0 5 fun t78 =>
    StN (t78.add 1) 4 t77 <|
    LdN old4 4 fun t80 =>
    StN old4 4 t80 <|
    LdN old4 4 fun r0 =>
    Q r0 true none none)
    (Nn n0 fun t84 =>
    Ld (t84.add 1) Sl.val fun t86 =>
    Ite (decide ((t86.n : Int) = 0))
      (Dr <| WithS fun S =>
      LdS S t84 Sl.val fun t93 =>
      LdNS S x3 5 fun t95 =>
      Bld #[(.string ⟨#[]⟩), (.bool false), (Sl.val ⟨none, 0, 0⟩), (.int .i64 0), (.int .u64 0)] (fun i => some (i * 5, 5)) [(0, (.agg t95))] fun ct96 =>
      New 174 ct96 fun t96 =>
      Sv S <|
      slices_Insert_s_btree_item_string_api_Record_btree_item_string_api_Record.call t93 t17x0 (Sl.mk (some t96) 1 1) fun t97 =>
      St t84 (Sl.val t97) <|
      btree_node_string_api_Record_put.s1 Q (some t84) old4 false)
      (Dr <|
      Ld (t84.add 1) Sl.val fun t24 =>
      Idx t24 t17x0 1 fun t26 =>
      Ld t26 Value.pointer fun t27 =>
      LdN x3 5 fun t28 =>
      btree_node_string_api_Record_put.call t27 t28 fun t29x0 t29x1 t29x2 t29x3 =>
      StN old4 4 t29x0 <|
      Ite (!(t29x2).isNone)
        (Dr <| WithS fun S =>
        Nn t29x2 fun t43 =>
        LdS S t84 Sl.val fun t40 =>
        LdNS S t43 5 fun t44 =>
        Bld #[(.string ⟨#[]⟩), (.bool false), (Sl.val ⟨none, 0, 0⟩), (.int .i64 0), (.int .u64 0)] (fun i => some (i * 5, 5)) [(0, (.agg t44))] fun ct45 =>
        New 174 ct45 fun t45 =>
        Sv S <|
        slices_Insert_s_btree_item_string_api_Record_btree_item_string_api_Record.call t40 t17x0 (Sl.mk (some t45) 1 1) fun t46 =>
        St t84 (Sl.val t46) <|
        Ld (t84.add 1) Sl.val fun t53 =>
        Ar (IntKind.wrap .i64 (t17x0 + 1)) fun t55 =>
        New 164 #[(.pointer t29x3)] fun t57 =>
        slices_Insert_s_btree_node_string_api_Record_btree_node_string_api_Record.call t53 t55 (Sl.mk (some t57) 1 1) fun t58 =>
        St (t84.add 1) (Sl.val t58) <|
        btree_node_string_api_Record_put.s1 Q (some t84) old4 t29x1)
        (btree_node_string_api_Record_put.s1 Q (some t84) old4 t29x1)))
theorem btree_node_string_api_Record_put_ok (n0 : (Option Addr)) (x1 : (Array Value)) (Q : (Array Value) → Bool → (Option Addr) → (Option Addr) → K) (w : World) (h : btree_node_string_api_Record_put n0 x1 Q w) : btree_node_string_api_Record_put.call n0 x1 Q w := by
  have hJ22 : JH 22 fun D => ∃ (old4_2 : Addr) (right7_2 : Addr) (m12_2 : Addr), D [(4, (.pointer (some old4_2))), (7, (.pointer (some right7_2))), (12, (.pointer (some m12_2)))] (fun C => ∀ (had5_2 : Bool), C [(4, (.pointer (some old4_2))), (5, (.bool had5_2)), (7, (.pointer (some right7_2))), (12, (.pointer (some m12_2)))] (btree_node_string_api_Record_put.s2 Q old4_2 had5_2 right7_2 m12_2)) := by intros; exact ⟨fun _ ⟨_, _, _, h⟩ => ⟨_, _, h⟩⟩
  have hJ14 : JH 14 fun D => ∃ (n0_1 : (Option Addr)) (old4_1 : Addr), D [(0, (.pointer n0_1)), (4, (.pointer (some old4_1)))] (fun C => ∀ (had5_1 : Bool), C [(0, (.pointer n0_1)), (4, (.pointer (some old4_1))), (5, (.bool had5_1))] (btree_node_string_api_Record_put.s1 Q n0_1 old4_1 had5_1)) := by intros; exact ⟨fun _ ⟨_, _, h⟩ => ⟨_, _, h⟩⟩
  have hD10 : DH 10 1 [9] (.s [0, 1, 2, 4, 5, 3, 6, 7, 8] (.a [(9, 0, .e)])) := by intros; exact ⟨⟩
  have hD13 : DH 13 2 [8, 11] (.s [0, 1, 2, 3, 5, 4, 6] (.a [(7, 1, .a [(8, 0, .s [9, 10] (.a [(11, 0, .e)]))])])) := by intros; exact ⟨⟩
  have hD6 : DH 6 2 [10, 13] (.s [0, 1, 2, 3, 5, 6, 7, 4, 8] (.a [(9, 1, .a [(10, 0, .s [11, 12] (.a [(13, 0, .e)]))])])) := by intros; exact ⟨⟩
  have hD4 : DH 4 1 [8, 14] (.s [0, 1, 2, 4, 3, 5, 6, 7] (.a [(8, 0, .s [9, 10, 11, 12, 13] (.a [(14, 0, .s [15, 16, 17] .e)]))])) := by intros; exact ⟨⟩
  exact g_walk 156 h Try.func110
def btree_node_string_api_Record_last (n0 : (Option Addr)) (Q : (Array Value) → K) : K :=
  New 174 #[(.string ⟨#[]⟩), (.bool false), (Sl.val ⟨none, 0, 0⟩), (.int .i64 0), (.int .u64 0)] fun t2 =>
  Nn n0 fun t7 =>
  Ld (t7.add 1) Sl.val fun t9 =>
  Ar (IntKind.wrap .i64 ((t9.n : Int) - 1)) fun t11 =>
  Ite (decide ((0 : Int) ≤ t11))
    (Ld (t7.add 1) Sl.val fun t17 =>
    Idx t17 t11 1 fun t19 =>
    Ld t19 Value.pointer fun t20 =>
    btree_node_string_api_Record_last.call t20 fun t21 =>
    New 174 #[(.string ⟨#[]⟩), (.bool false), (Sl.val ⟨none, 0, 0⟩), (.int .i64 0), (.int .u64 0)] fun x4 =>
    StN x4 5 t21 <|
    btree_node_string_api_Record_mend.call (some t7) t11 <|
    LdN x4 5 fun t25 =>
    StN t2 5 t25 <|
    LdN t2 5 fun r0 =>
    Q r0)
    (Dr <| WithS fun S =>
    LdS S t7 Sl.val fun t29 =>
    LdS S t7 Sl.val fun t33 =>
    Ar (IntKind.wrap .i64 ((t33.n : Int) - 1)) fun t35 =>
    Idx t29 t35 5 fun t36 =>
    LdNS S t36 5 fun t37 =>
    New 174 #[(.string ⟨#[]⟩), (.bool false), (Sl.val ⟨none, 0, 0⟩), (.int .i64 0), (.int .u64 0)] fun x5 =>
    Sv S <|
    StN x5 5 t37 <|
    Dr <|
    Ld t7 Sl.val fun t42 =>
    Ld t7 Sl.val fun t46 =>
    Ar (IntKind.wrap .i64 ((t46.n : Int) - 1)) fun t48 =>
    Slc t42 0 t48 (t42.c : Int) 5 fun t49 =>
    St t7 (Sl.val t49) <|
    LdN x5 5 fun t52 =>
    StN t2 5 t52 <|
    LdN t2 5 fun r0 =>
    Q r0)
theorem btree_node_string_api_Record_last_ok (n0 : (Option Addr)) (Q : (Array Value) → K) (w : World) (h : btree_node_string_api_Record_last n0 Q w) : btree_node_string_api_Record_last.call n0 Q w := by
  have hD7 : DH 7 1 [14] (.s [0, 1, 2, 3, 5, 6, 7, 4, 8, 9, 10, 11, 12, 13] (.a [(14, 0, .e)])) := by intros; exact ⟨⟩
  have hD6 : DH 6 2 [13] (.s [0, 1, 2, 4, 5, 6, 3, 7, 8, 9, 10, 11] (.a [(12, 1, .a [(13, 0, .e)])])) := by intros; exact ⟨⟩
  exact g_walk 53 h Try.func117
def btree_node_string_api_Record_mend.s2 (Q : K)  (n0_2 : Addr) (i1_2 : Int) (kid4_2 : Addr) (t202_2 : Bool) : K :=
  Ite t202_2
    (Ld (n0_2.add 1) Sl.val fun t229 =>
    Ar (IntKind.wrap .i64 (i1_2 + 1)) fun t231 =>
    Idx t229 t231 1 fun t232 =>
    Ld t232 Value.pointer fun t233 =>
    Dr <| WithS fun S =>
    LdS S kid4_2 Sl.val fun t238 =>
    LdS S n0_2 Sl.val fun t242 =>
    Idx t242 i1_2 5 fun t244 =>
    LdNS S t244 5 fun t245 =>
    Bld #[(.string ⟨#[]⟩), (.bool false), (Sl.val ⟨none, 0, 0⟩), (.int .i64 0), (.int .u64 0)] (fun i => some (i * 5, 5)) [(0, (.agg t245))] fun ct246 =>
    New 174 ct246 fun t246 =>
    Sv S <|
    Do Try.prog (Builtin.append_ #[165, 165] 165 #[(Sl.val t238), (Sl.val (Sl.mk (some t246) 1 1))]) Sl.val fun t247 =>
    St kid4_2 (Sl.val t247) <|
    Dr <|
    Nn t233 fun t256 =>
    Ld n0_2 Sl.val fun t253 =>
    Ld t256 Sl.val fun t258 =>
    Idx t258 0 5 fun t259 =>
    LdN t259 5 fun t260 =>
    Idx t253 i1_2 5 fun t261 =>
    StN t261 5 t260 <|
    Ld t256 Sl.val fun t266 =>
    slices_Delete_s_btree_item_string_api_Record_btree_item_string_api_Record.call t266 0 1 fun t267 =>
    St t256 (Sl.val t267) <|
    Ld (t256.add 1) Sl.val fun t273 =>
    Ite (decide ((0 : Int) < (t273.n : Int)))
      (Dr <| WithS fun S =>
      LdS S (kid4_2.add 1) Sl.val fun t280 =>
      LdS S (t256.add 1) Sl.val fun t284 =>
      Idx t284 0 1 fun t285 =>
      LdS S t285 Value.pointer fun t286 =>
      New 164 #[(.pointer t286)] fun t287 =>
      Sv S <|
      Do Try.prog (Builtin.append_ #[166, 166] 166 #[(Sl.val t280), (Sl.val (Sl.mk (some t287) 1 1))]) Sl.val fun t288 =>
      St (kid4_2.add 1) (Sl.val t288) <|
      Ld (t256.add 1) Sl.val fun t295 =>
      slices_Delete_s_btree_node_string_api_Record_btree_node_string_api_Record.call t295 0 1 fun t296 =>
      St (t256.add 1) (Sl.val t296) <|
      Q)
      (Q))
    (Ar (if (1 : Int) > i1_2 then 1 else i1_2) fun t18 =>
    Dr <|
    Ld (n0_2.add 1) Sl.val fun t22 =>
    Ar (IntKind.wrap .i64 (t18 - 1)) fun t24 =>
    Idx t22 t24 1 fun t25 =>
    Ld t25 Value.pointer fun t26 =>
    Ld (n0_2.add 1) Sl.val fun t30 =>
    Idx t30 t18 1 fun t32 =>
    Ld t32 Value.pointer fun t33 =>
    Dr <| WithS fun S =>
    Nn t26 fun t36 =>
    Ar (IntKind.wrap .i64 (t18 - 1)) fun t44 =>
    Nn t33 fun t50 =>
    LdS S t36 Sl.val fun t38 =>
    LdS S n0_2 Sl.val fun t42 =>
    Idx t42 t44 5 fun t45 =>
    LdNS S t45 5 fun t46 =>
    LdS S t50 Sl.val fun t52 =>
    Bld #[(.string ⟨#[]⟩), (.bool false), (Sl.val ⟨none, 0, 0⟩), (.int .i64 0), (.int .u64 0)] (fun i => some (i * 5, 5)) [(0, (.agg t46))] fun ct47 =>
    New 174 ct47 fun t47 =>
    Sv S <|
    Do Try.prog (Builtin.append_ #[165, 165] 165 #[(Sl.val t38), (Sl.val (Sl.mk (some t47) 1 1))]) Sl.val fun t48 =>
    Sv S <|
    Do Try.prog (Builtin.append_ #[165, 165] 165 #[(Sl.val t48), (Sl.val t52)]) Sl.val fun t53 =>
    St t36 (Sl.val t53) <|
    Dr <|
    Ld (t36.add 1) Sl.val fun t60 =>
    Ld (t50.add 1) Sl.val fun t64 =>
    Do Try.prog (Builtin.append_ #[166, 166] 166 #[(Sl.val t60), (Sl.val t64)]) Sl.val fun t65 =>
    St (t36.add 1) (Sl.val t65) <|
    Ld n0_2 Sl.val fun t72 =>
    Ar (IntKind.wrap .i64 (t18 - 1)) fun t74 =>
    slices_Delete_s_btree_item_string_api_Record_btree_item_string_api_Record.call t72 t74 t18 fun t76 =>
    St n0_2 (Sl.val t76) <|
    Ld (n0_2.add 1) Sl.val fun t83 =>
    Ar (IntKind.wrap .i64 (t18 + 1)) fun t86 =>
    slices_Delete_s_btree_node_string_api_Record_btree_node_string_api_Record.call t83 t18 t86 fun t87 =>
    St (n0_2.add 1) (Sl.val t87) <|
    Q)
def btree_node_string_api_Record_mend.s1 (Q : K)  (n0_1 : Addr) (i1_1 : Int) (kid4_1 : Addr) (t97_1 : Bool) : K :=
  Ite t97_1
    (Ld (n0_1.add 1) Sl.val fun t118 =>
    Ar (IntKind.wrap .i64 (i1_1 - 1)) fun t120 =>
    Idx t118 t120 1 fun t121 =>
    Ld t121 Value.pointer fun t122 =>
    Nn t122 fun t124 =>
    Ld t124 Sl.val fun t126 =>
    Ar (IntKind.wrap .i64 ((t126.n : Int) - 1)) fun t128 =>
    Dr <| WithS fun S =>
    Ar (IntKind.wrap .i64 (i1_1 - 1)) fun t139 =>
    LdS S kid4_1 Sl.val fun t133 =>
    LdS S n0_1 Sl.val fun t137 =>
    Idx t137 t139 5 fun t140 =>
    LdNS S t140 5 fun t141 =>
    Bld #[(.string ⟨#[]⟩), (.bool false), (Sl.val ⟨none, 0, 0⟩), (.int .i64 0), (.int .u64 0)] (fun i => some (i * 5, 5)) [(0, (.agg t141))] fun ct142 =>
    New 174 ct142 fun t142 =>
    Sv S <|
    slices_Insert_s_btree_item_string_api_Record_btree_item_string_api_Record.call t133 0 (Sl.mk (some t142) 1 1) fun t143 =>
    St kid4_1 (Sl.val t143) <|
    Dr <|
    Ar (IntKind.wrap .i64 (i1_1 - 1)) fun t151 =>
    Ld n0_1 Sl.val fun t149 =>
    Ld t124 Sl.val fun t155 =>
    Idx t155 t128 5 fun t157 =>
    LdN t157 5 fun t158 =>
    Idx t149 t151 5 fun t159 =>
    StN t159 5 t158 <|
    Ld t124 Sl.val fun t164 =>
    Slc t164 0 t128 (t164.c : Int) 5 fun t166 =>
    St t124 (Sl.val t166) <|
    Ld (t124.add 1) Sl.val fun t172 =>
    Ite (decide ((0 : Int) < (t172.n : Int)))
      (Dr <| WithS fun S =>
      Ar (IntKind.wrap .i64 (t128 + 1)) fun t185 =>
      LdS S (kid4_1.add 1) Sl.val fun t179 =>
      LdS S (t124.add 1) Sl.val fun t183 =>
      Idx t183 t185 1 fun t186 =>
      LdS S t186 Value.pointer fun t187 =>
      New 164 #[(.pointer t187)] fun t188 =>
      Sv S <|
      slices_Insert_s_btree_node_string_api_Record_btree_node_string_api_Record.call t179 0 (Sl.mk (some t188) 1 1) fun t189 =>
      St (kid4_1.add 1) (Sl.val t189) <|
      Ld (t124.add 1) Sl.val fun t196 =>
      Ar (IntKind.wrap .i64 (t128 + 1)) fun t198 =>
      Slc t196 0 t198 (t196.c : Int) 1 fun t199 =>
      St (t124.add 1) (Sl.val t199) <|
      Q)
      (Q))
    (Ar (IntKind.wrap .i64 (i1_1 + 1)) fun t204 =>
    Ld (n0_1.add 1) Sl.val fun t208 =>
    Ite (decide (t204 < (t208.n : Int)))
      (Ld (n0_1.add 1) Sl.val fun t215 =>
      Ar (IntKind.wrap .i64 (i1_1 + 1)) fun t217 =>
      Idx t215 t217 1 fun t218 =>
      Ld t218 Value.pointer fun t219 =>
      Nn t219 fun t220 =>
      Ld t220 Sl.val fun t222 =>
      btree_node_string_api_Record_mend.s2 Q n0_1 i1_1 kid4_1 (decide ((2 : Int) < (t222.n : Int))))
      (btree_node_string_api_Record_mend.s2 Q n0_1 i1_1 kid4_1 false))
def btree_node_string_api_Record_mend (n0 : (Option Addr)) (i1 : Int) (Q : K) : K :=
  Nn n0 fun t11 =>
  Ld (t11.add 1) Sl.val fun t13 =>
  Idx t13 i1 1 fun t15 =>
  Ld t15 Value.pointer fun t16 =>
  Nn t16 fun t92 =>
  Ld t92 Sl.val fun t94 =>
  Ite (decide ((2 : Int) ≤ (t94.n : Int)))
    (Q)
    (Ite (decide ((0 : Int) < i1))
      (Ld (t11.add 1) Sl.val fun t104 =>
      Ar (IntKind.wrap .i64 (i1 - 1)) fun t106 =>
      Idx t104 t106 1 fun t107 =>
      Ld t107 Value.pointer fun t108 =>
      Nn t108 fun t109 =>
      Ld t109 Sl.val fun t111 =>
      btree_node_string_api_Record_mend.s1 Q t11 i1 t92 (decide ((2 : Int) < (t111.n : Int))))
      (btree_node_string_api_Record_mend.s1 Q t11 i1 t92 false))
theorem btree_node_string_api_Record_mend_ok (n0 : (Option Addr)) (i1 : Int) (Q : K) (w : World) (h : btree_node_string_api_Record_mend n0 i1 Q w) : btree_node_string_api_Record_mend.call n0 i1 Q w := by
  have hD15 : DH 15 2 [14, 17] (.s [0, 1, 2, 3, 5, 6, 7, 9, 10, 4, 8, 11, 12] (.a [(13, 1, .a [(14, 0, .s [15, 16] (.a [(17, 0, .e)]))])])) := by intros; exact ⟨⟩
  have hD12 : DH 12 1 [14] (.s [0, 1, 2, 4, 5, 6, 7, 8, 10, 3, 9, 11, 12, 13] (.a [(14, 0, .e)])) := by intros; exact ⟨⟩
  have hD11 : DH 11 2 [14, 17] (.s [0, 1, 2, 3, 5, 6, 7, 9, 10, 4, 8, 11, 12] (.a [(13, 1, .a [(14, 0, .s [15, 16] (.a [(17, 0, .e)]))])])) := by intros; exact ⟨⟩
  have hD23 : DH 23 2 [12, 15] (.s [0, 1, 2, 3, 5, 6, 7, 4, 8, 9, 10] (.a [(11, 1, .a [(12, 0, .s [13, 14] (.a [(15, 0, .e)]))])])) := by intros; exact ⟨⟩
  have hD20 : DH 20 1 [12] (.s [0, 1, 2, 4, 5, 6, 7, 3, 8, 9, 10, 11] (.a [(12, 0, .e)])) := by intros; exact ⟨⟩
  have hD19 : DH 19 2 [13, 16] (.s [0, 1, 2, 3, 5, 6, 7, 9, 4, 8, 10, 11] (.a [(12, 1, .a [(13, 0, .s [14, 15] (.a [(16, 0, .e)]))])])) := by intros; exact ⟨⟩
  have hD4 : DH 4 1 [9, 12] (.s [0, 1, 2, 3, 5, 6, 7, 4, 8] (.a [(9, 0, .s [10, 11] (.a [(12, 0, .e)]))])) := by intros; exact ⟨⟩
  have hD3 : DH 3 2 [19, 22] (.s [0, 1, 2, 3, 5, 6, 7, 9, 10, 15, 16, 17, 4, 8, 11, 12, 18] (.a [(13, 1, .a [(14, 1, .a [(19, 0, .s [20, 21] (.a [(22, 0, .e)]))])])])) := by intros; exact ⟨⟩
  have hJ18 : JH 18 fun D => ∃ (n0_2 : Addr) (i1_2 : Int) (kid4_2 : Addr), D [(0, (.pointer (some n0_2))), (1, (.int .i64 i1_2)), (4, (.pointer (some kid4_2)))] (fun C => ∀ (t202_2 : Bool), C [(0, (.pointer (some n0_2))), (1, (.int .i64 i1_2)), (4, (.pointer (some kid4_2))), (202, (.bool t202_2))] (btree_node_string_api_Record_mend.s2 Q n0_2 i1_2 kid4_2 t202_2)) := by intros; exact ⟨fun _ ⟨_, _, _, h⟩ => ⟨_, _, h⟩⟩
  have hJ9 : JH 9 fun D => ∃ (n0_1 : Addr) (i1_1 : Int) (kid4_1 : Addr), D [(0, (.pointer (some n0_1))), (1, (.int .i64 i1_1)), (4, (.pointer (some kid4_1)))] (fun C => ∀ (t97_1 : Bool), C [(0, (.pointer (some n0_1))), (1, (.int .i64 i1_1)), (4, (.pointer (some kid4_1))), (97, (.bool t97_1))] (btree_node_string_api_Record_mend.s1 Q n0_1 i1_1 kid4_1 t97_1)) := by intros; exact ⟨fun _ ⟨_, _, _, h⟩ => ⟨_, _, h⟩⟩
  exact g_walk 299 h Try.func118
end Go.Proofs.Ytfjjocopmknhgaa
