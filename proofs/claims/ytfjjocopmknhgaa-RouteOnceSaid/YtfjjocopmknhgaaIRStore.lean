/- Plain forms of functions, and that their code comes to them (package store). -/
import Derived.Test.YtfjjocopmknhgaaCalls
namespace Go.Proofs.Ytfjjocopmknhgaa
open Go Go.Sep
set_option linter.unusedVariables false
set_option linter.unusedSimpArgs false
set_option maxRecDepth 100000
set_option maxHeartbeats 4000000
attribute [local irreducible] G Gp Cx Tx Ex Sx Dx Ox Ax Lx Rx Fx Bx Bj Al Do Ld LdN St StN New CallF Ar DoU Rd Rd2 Pu Cd Ite Fv CallV CallY Ans0 Ans1 Ans2 Ans3 Ans4 Ans5 Ext Dead Dr WithS Sv LdS LdNS RdS Rd2S Nn Idx IdxA IdxS Fld Bld Slc SlcS Cat All LoopK RangeF RangeJ TakeD
namespace F_IRStore
instance at_36 : AT Try.prog 36 4 := ⟨by kernel_rfl⟩
instance cb_14 : CB Try.prog 14 := ⟨by kernel_rfl⟩
instance cb_53 : CB Try.prog 53 := ⟨by kernel_rfl⟩
instance cb_54 : CB Try.prog 54 := ⟨by kernel_rfl⟩
instance cb_55 : CB Try.prog 55 := ⟨by kernel_rfl⟩
instance cb_56 : CB Try.prog 56 := ⟨by kernel_rfl⟩
instance cb_57 : CB Try.prog 57 := ⟨by kernel_rfl⟩
instance cb_88 : CB Try.prog 88 := ⟨by kernel_rfl⟩
instance cb_89 : CB Try.prog 89 := ⟨by kernel_rfl⟩
instance ct_109 : CT Try.prog 109 := ⟨by kernel_rfl⟩
instance ct_3 : CT Try.prog 3 := ⟨by kernel_rfl⟩
instance ct_33 : CT Try.prog 33 := ⟨by kernel_rfl⟩
instance ct_34 : CT Try.prog 34 := ⟨by kernel_rfl⟩
instance ct_4 : CT Try.prog 4 := ⟨by kernel_rfl⟩
instance ft_112_0 : FT Try.prog 112 0 0 1 := ⟨by kernel_rfl⟩
instance ft_112_1 : FT Try.prog 112 1 1 1 := ⟨by kernel_rfl⟩
instance ft_36_0 : FT Try.prog 36 0 0 1 := ⟨by kernel_rfl⟩
instance ft_36_1 : FT Try.prog 36 1 1 1 := ⟨by kernel_rfl⟩
instance ft_36_2 : FT Try.prog 36 2 2 1 := ⟨by kernel_rfl⟩
instance ft_36_3 : FT Try.prog 36 3 3 1 := ⟨by kernel_rfl⟩
instance in_3 : INT Try.prog 3 .i64 := ⟨by kernel_rfl⟩
instance in_5 : INT Try.prog 5 .u8 := ⟨by kernel_rfl⟩
instance mx : MX Try.prog := ⟨mixed⟩
instance pl_112 : PLT Try.prog 112 [(0, 1), (1, 1)] := ⟨_, Try.underlying112, by kernel_rfl⟩
instance st_9 : STT Try.prog 9 := ⟨by kernel_rfl⟩
instance sz_3 : SZ Try.prog 3 1 := ⟨by kernel_rfl⟩
instance sz_33 : SZ Try.prog 33 1 := ⟨by kernel_rfl⟩
instance sz_34 : SZ Try.prog 34 1 := ⟨by kernel_rfl⟩
instance sz_36 : SZ Try.prog 36 4 := ⟨by kernel_rfl⟩
instance sz_4 : SZ Try.prog 4 1 := ⟨by kernel_rfl⟩
instance zt_112 : ZT Try.prog 112 (.agg #[(.int .i64 0), (.pointer none)]) := ⟨Try.t112, by kernel_rfl, by kernel_rfl⟩
instance zt_36 : ZT Try.prog 36 (.agg #[(.bool false), (Sl.val ⟨none, 0, 0⟩), (.int .i64 0), (.int .u64 0)]) := ⟨Try.t36, by kernel_rfl, by kernel_rfl⟩
end F_IRStore
def store_New.s1 (Q : (Option Addr) → Int → K)  (regions0_1 : Int) (t9_1 : Bool) : K :=
  Ite t9_1
    (Q none 1)
    (btree_New_string_api_Record.call  fun t11 =>
    New 112 #[(.int .i64 regions0_1), (.pointer t11)] fun t13 =>
    Q (some t13) 0)
def store_New (regions0 : Int) (Q : (Option Addr) → Int → K) : K :=
  Ite (decide (regions0 < 1))
    (store_New.s1 Q regions0 true)
    (store_New.s1 Q regions0 (decide ((3 : Int) < regions0)))
theorem store_New_ok (regions0 : Int) (Q : (Option Addr) → Int → K) (w : World) (h : store_New regions0 Q w) : store_New.call regions0 Q w := by
  have hJ2 : JH 2 fun D => ∃ (regions0_1 : Int), D [(0, (.int .i64 regions0_1))] (fun C => ∀ (t9_1 : Bool), C [(0, (.int .i64 regions0_1)), (9, (.bool t9_1))] (store_New.s1 Q regions0_1 t9_1)) := by intros; exact ⟨fun _ ⟨_, h⟩ => ⟨_, _, h⟩⟩
  exact g_walk 14 h Try.func13
def store_Store_Get.s1 (Q : (Array Value) → K)  (t4_1 : Addr) (r5_1 : Addr) : K :=
  Ld (r5_1.add 1) Sl.val fun t26 =>
  bytes_Clone.call t26 fun t27 =>
  St (r5_1.add 1) (Sl.val t27) <|
  LdN r5_1 4 fun t29 =>
  StN t4_1 4 t29 <|
  LdN t4_1 4 fun r0 =>
  Q r0
def store_Store_Get (s0 : (Option Addr)) (key1 : ByteArray) (Q : (Array Value) → K) : K :=
  New 36 #[(.bool false), (Sl.val ⟨none, 0, 0⟩), (.int .i64 0), (.int .u64 0)] fun t4 =>
  Nn s0 fun t9 =>
  Ld (t9.add 1) Value.pointer fun t11 =>
  btree_Tree_string_api_Record_Get.call t11 key1 fun t13x0 t13x1 =>
  New 36 #[(.bool false), (Sl.val ⟨none, 0, 0⟩), (.int .i64 0), (.int .u64 0)] fun r5 =>
  StN r5 4 t13x0 <|
  Ite (!t13x1)
    (Ld t9 (Value.int .i64) fun t22 =>
    store_Default.call key1 t22 fun t23 =>
    St (r5.add 2) (.int .i64 t23) <|
    store_Store_Get.s1 Q t4 r5)
    (store_Store_Get.s1 Q t4 r5)
theorem store_Store_Get_ok (s0 : (Option Addr)) (key1 : ByteArray) (Q : (Array Value) → K) (w : World) (h : store_Store_Get s0 key1 Q w) : store_Store_Get.call s0 key1 Q w := by
  have hJ4 : JH 4 fun D => ∃ (t4_1 : Addr) (r5_1 : Addr), D [(4, (.pointer (some t4_1))), (5, (.pointer (some r5_1)))] (fun C => C [(4, (.pointer (some t4_1))), (5, (.pointer (some r5_1)))] (store_Store_Get.s1 Q t4_1 r5_1)) := by intros; exact ⟨fun _ ⟨_, _, h⟩ => ⟨_, _, h⟩⟩
  exact g_walk 30 h Try.func14
def store_Store_Move.s1 (Q : Int → K)  (s0_1 : (Option Addr)) (key1_1 : ByteArray) (home2_1 : Int) (r7_1 : Addr) (t11_1 : Bool) : K :=
  Ite t11_1
    (Q 1)
    (Ld (r7_1.add 3) (Value.int .u64) fun t24 =>
    Ite (decide (t24 = 18446744073709551615))
      (Q 111)
      (St (r7_1.add 2) (.int .i64 home2_1) <|
      Ld (r7_1.add 3) (Value.int .u64) fun t29 =>
      Ar (IntKind.wrap .u64 (t29 + 1)) fun t30 =>
      St (r7_1.add 3) (.int .u64 t30) <|
      LdN r7_1 4 fun t34 =>
      store_Store_set.call s0_1 key1_1 t34 <|
      Q 0))
def store_Store_Move (s0 : (Option Addr)) (key1 : ByteArray) (home2 : Int) (Q : Int → K) : K :=
  store_Store_Get.call s0 key1 fun t10 =>
  New 36 #[(.bool false), (Sl.val ⟨none, 0, 0⟩), (.int .i64 0), (.int .u64 0)] fun r7 =>
  StN r7 4 t10 <|
  Ite (decide (home2 < 0))
    (store_Store_Move.s1 Q s0 key1 home2 r7 true)
    (Nn s0 fun t17 =>
    Ld t17 (Value.int .i64) fun t19 =>
    store_Store_Move.s1 Q (some t17) key1 home2 r7 (decide (t19 ≤ home2)))
theorem store_Store_Move_ok (s0 : (Option Addr)) (key1 : ByteArray) (home2 : Int) (Q : Int → K) (w : World) (h : store_Store_Move s0 key1 home2 Q w) : store_Store_Move.call s0 key1 home2 Q w := by
  have hJ3 : JH 3 fun D => ∃ (s0_1 : (Option Addr)) (key1_1 : ByteArray) (home2_1 : Int) (r7_1 : Addr), D [(0, (.pointer s0_1)), (1, (.string key1_1)), (2, (.int .i64 home2_1)), (7, (.pointer (some r7_1)))] (fun C => ∀ (t11_1 : Bool), C [(0, (.pointer s0_1)), (1, (.string key1_1)), (2, (.int .i64 home2_1)), (7, (.pointer (some r7_1))), (11, (.bool t11_1))] (store_Store_Move.s1 Q s0_1 key1_1 home2_1 r7_1 t11_1)) := by intros; exact ⟨fun _ ⟨_, _, _, _, h⟩ => ⟨_, _, h⟩⟩
  exact g_walk 36 h Try.func15
def store_Store_Put (s0 : (Option Addr)) (key1 : ByteArray) (value2 : Sl) (Q : K) : K :=
  store_Store_Get.call s0 key1 fun t9 =>
  New 36 #[(.bool false), (Sl.val ⟨none, 0, 0⟩), (.int .i64 0), (.int .u64 0)] fun r6 =>
  StN r6 4 t9 <|
  bytes_Clone.call value2 fun t11 =>
  St r6 (.bool true) <|
  St (r6.add 1) (Sl.val t11) <|
  LdN r6 4 fun t16 =>
  store_Store_set.call s0 key1 t16 <|
  Q
theorem store_Store_Put_ok (s0 : (Option Addr)) (key1 : ByteArray) (value2 : Sl) (Q : K) (w : World) (h : store_Store_Put s0 key1 value2 Q w) : store_Store_Put.call s0 key1 value2 Q w := by
  exact g_walk 18 h Try.func38
def store_Default.b1 (Q : Int → K)  (X1 : Int → Int → K) (key0_1 : ByteArray) (regions1_1 : Int) (t10_1 : Int) (sum5_1 : Int) (t11_1 : Int) : K :=
  Ite (decide (t11_1 < t10_1))
    (IdxS key0_1 t11_1 fun t17 =>
    Ar (IntKind.wrap .i64 t17) fun t18 =>
    Ar (IntKind.wrap .i64 (sum5_1 + t18)) fun t19 =>
    Cd (regions1_1 ≠ 0) <|
    Ar (Int.tmod t19 regions1_1) fun t21 =>
    Ar (IntKind.wrap .i64 (t11_1 + 1)) fun t22 =>
    X1 t21 t22)
    (Q sum5_1)
def store_Default (key0 : ByteArray) (regions1 : Int) (Q : Int → K) : K :=
  Ite (decide (regions1 < 1))
    (Q 0)
    (LoopK (α := Int × Int) (fun X x => store_Default.b1 Q (fun sum5_1 t11_1 => X (sum5_1, t11_1)) key0 regions1 (key0.size : Int) x.1 x.2) (0, 0))
theorem store_Default_ok (key0 : ByteArray) (regions1 : Int) (Q : Int → K) (w : World) (h : store_Default key0 regions1 Q w) : store_Default.call key0 regions1 Q w := by
  have hL5 : ∀ (key0_1 : ByteArray) (regions1_1 : Int) (t10_1 : Int), LH 5 (fun x : Int × Int => [(0, (.string key0_1)), (1, (.int .i64 regions1_1)), (5, (.int .i64 x.1)), (10, (.int .i64 t10_1)), (11, (.int .i64 x.2))]) (fun X x => store_Default.b1 Q (fun sum5_1 t11_1 => X (sum5_1, t11_1)) key0_1 regions1_1 t10_1 x.1 x.2) := by intros; exact ⟨⟩
  exact g_walk 24 h Try.func55
def store_Store_set.s1 (Q : K)  (s0_1 : (Option Addr)) (key1_1 : ByteArray) (r5_1 : Addr) (t13_1 : Bool) : K :=
  Ite t13_1
    (Nn s0_1 fun t15 =>
    Ld (t15.add 1) Value.pointer fun t17 =>
    btree_Tree_string_api_Record_Delete.call t17 key1_1 fun t19x0 t19x1 =>
    Q)
    (Dr <|
    Nn s0_1 fun t21 =>
    Ld (t21.add 1) Value.pointer fun t23 =>
    LdN r5_1 4 fun t25 =>
    btree_Tree_string_api_Record_Put.call t23 key1_1 t25 fun t26x0 t26x1 =>
    Q)
def store_Store_set (s0 : (Option Addr)) (key1 : ByteArray) (r2 : (Array Value)) (Q : K) : K :=
  New 36 r2 fun r5 =>
  Ld r5 Value.bool fun t7 =>
  Ite (!t7)
    (Ld (r5.add 3) (Value.int .u64) fun t11 =>
    store_Store_set.s1 Q s0 key1 r5 (decide (t11 = 0)))
    (store_Store_set.s1 Q s0 key1 r5 false)
theorem store_Store_set_ok (s0 : (Option Addr)) (key1 : ByteArray) (r2 : (Array Value)) (Q : K) (w : World) (h : store_Store_set s0 key1 r2 Q w) : store_Store_set.call s0 key1 r2 Q w := by
  have hD3 : DH 3 1 [6] (.s [0, 1, 2, 4, 3, 5] (.a [(6, 0, .e)])) := by intros; exact ⟨⟩
  have hJ2 : JH 2 fun D => ∃ (s0_1 : (Option Addr)) (key1_1 : ByteArray) (r5_1 : Addr), D [(0, (.pointer s0_1)), (1, (.string key1_1)), (5, (.pointer (some r5_1)))] (fun C => ∀ (t13_1 : Bool), C [(0, (.pointer s0_1)), (1, (.string key1_1)), (5, (.pointer (some r5_1))), (13, (.bool t13_1))] (store_Store_set.s1 Q s0_1 key1_1 r5_1 t13_1)) := by intros; exact ⟨fun _ ⟨_, _, _, h⟩ => ⟨_, _, h⟩⟩
  exact g_walk 27 h Try.func57
def store_Store_Delete (s0 : (Option Addr)) (key1 : ByteArray) (Q : K) : K :=
  store_Store_Get.call s0 key1 fun t7 =>
  New 36 #[(.bool false), (Sl.val ⟨none, 0, 0⟩), (.int .i64 0), (.int .u64 0)] fun r4 =>
  StN r4 4 t7 <|
  St r4 (.bool false) <|
  St (r4.add 1) (Sl.val (Sl.mk none 0 0)) <|
  LdN r4 4 fun t12 =>
  store_Store_set.call s0 key1 t12 <|
  Q
theorem store_Store_Delete_ok (s0 : (Option Addr)) (key1 : ByteArray) (Q : K) (w : World) (h : store_Store_Delete s0 key1 Q w) : store_Store_Delete.call s0 key1 Q w := by
  exact g_walk 14 h Try.func102
end Go.Proofs.Ytfjjocopmknhgaa
