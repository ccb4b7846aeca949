/- Plain forms of functions, and that their code comes to them (package route). -/
import Derived.Test.YtfjjocopmknhgaaCalls
namespace Go.Proofs.Ytfjjocopmknhgaa
open Go Go.Sep
set_option linter.unusedVariables false
set_option linter.unusedSimpArgs false
set_option maxRecDepth 100000
set_option maxHeartbeats 4000000
attribute [local irreducible] G Gp Cx Tx Ex Sx Dx Ox Ax Lx Rx Fx Bx Bj Al Do Ld LdN St StN New CallF Ar DoU Rd Rd2 Pu Cd Ite Fv CallV CallY Ans0 Ans1 Ans2 Ans3 Ans4 Ans5 Ext Dead Dr WithS Sv LdS LdNS RdS Rd2S Nn Idx IdxA IdxS Fld Bld Slc SlcS Cat All LoopK RangeF RangeJ TakeD
namespace F_IRRoute
instance at_39 : AT Try.prog 39 3 := ⟨by kernel_rfl⟩
instance at_50 : AT Try.prog 50 5 := ⟨by kernel_rfl⟩
instance at_58 : AT Try.prog 58 4 := ⟨by kernel_rfl⟩
instance at_60 : AT Try.prog 60 10 := ⟨by kernel_rfl⟩
instance cb_14 : CB Try.prog 14 := ⟨by kernel_rfl⟩
instance cb_16 : CB Try.prog 16 := ⟨by kernel_rfl⟩
instance cb_28 : CB Try.prog 28 := ⟨by kernel_rfl⟩
instance cb_59 : CB Try.prog 59 := ⟨by kernel_rfl⟩
instance cb_62 : CB Try.prog 62 := ⟨by kernel_rfl⟩
instance ct_29 : CT Try.prog 29 := ⟨by kernel_rfl⟩
instance ct_3 : CT Try.prog 3 := ⟨by kernel_rfl⟩
instance ct_34 : CT Try.prog 34 := ⟨by kernel_rfl⟩
instance ct_9 : CT Try.prog 9 := ⟨by kernel_rfl⟩
instance ft_36_2 : FT Try.prog 36 2 2 1 := ⟨by kernel_rfl⟩
instance ft_36_3 : FT Try.prog 36 3 3 1 := ⟨by kernel_rfl⟩
instance ft_39_0 : FT Try.prog 39 0 0 1 := ⟨by kernel_rfl⟩
instance ft_39_1 : FT Try.prog 39 1 1 1 := ⟨by kernel_rfl⟩
instance ft_39_2 : FT Try.prog 39 2 2 1 := ⟨by kernel_rfl⟩
instance ft_60_2 : FT Try.prog 60 2 9 1 := ⟨by kernel_rfl⟩
instance mx : MX Try.prog := ⟨mixed⟩
instance pl_39 : PLT Try.prog 39 [(0, 1), (1, 1), (2, 1)] := ⟨_, Try.underlying39, by kernel_rfl⟩
instance pl_60 : PLT Try.prog 60 [(0, 4), (4, 5), (9, 1)] := ⟨_, Try.underlying60, by kernel_rfl⟩
instance sl_29 : SLT Try.prog 29 39 3 := ⟨by kernel_rfl⟩
instance sl_47 : SLT Try.prog 47 9 1 := ⟨by kernel_rfl⟩
instance sz_36 : SZ Try.prog 36 4 := ⟨by kernel_rfl⟩
instance sz_39 : SZ Try.prog 39 3 := ⟨by kernel_rfl⟩
instance sz_60 : SZ Try.prog 60 10 := ⟨by kernel_rfl⟩
instance zt_36 : ZT Try.prog 36 (.agg #[(.bool false), (Sl.val ⟨none, 0, 0⟩), (.int .i64 0), (.int .u64 0)]) := ⟨Try.t36, by kernel_rfl, by kernel_rfl⟩
instance zt_39 : ZT Try.prog 39 (.agg #[(.string ⟨#[]⟩), (.int .i64 0), (.int .u64 0)]) := ⟨Try.t39, by kernel_rfl, by kernel_rfl⟩
instance zt_60 : ZT Try.prog 60 (.agg #[(.int .i64 0), (.int .u64 0), (.int .u64 0), (.int .i64 0), (.int .i64 0), (Sl.val ⟨none, 0, 0⟩), (Sl.val ⟨none, 0, 0⟩), (Sl.val ⟨none, 0, 0⟩), (.int .i64 0), (Sl.val ⟨none, 0, 0⟩)]) := ⟨Try.t60, by kernel_rfl, by kernel_rfl⟩
end F_IRRoute
def route_Look.s1 (Q : Int → K)  (t11_1 : Bool) : K :=
  Ite t11_1
    (Q 0)
    (Q 2)
def route_Look (r0 : (Array Value)) (m1 : (Array Value)) (Q : Int → K) : K :=
  New 36 r0 fun r2 =>
  New 39 m1 fun m3 =>
  Ld (m3.add 2) (Value.int .u64) fun t7 =>
  Ld (r2.add 3) (Value.int .u64) fun t9 =>
  Ite (decide (t9 < t7))
    (Q 1)
    (Ld (m3.add 2) (Value.int .u64) fun t13 =>
    Ld (r2.add 3) (Value.int .u64) fun t15 =>
    Ite (decide (t13 = t15))
      (Ld (m3.add 1) (Value.int .i64) fun t19 =>
      Ld (r2.add 2) (Value.int .i64) fun t21 =>
      route_Look.s1 Q (decide (t19 = t21)))
      (route_Look.s1 Q false))
theorem route_Look_ok (r0 : (Array Value)) (m1 : (Array Value)) (Q : Int → K) (w : World) (h : route_Look r0 m1 Q w) : route_Look.call r0 m1 Q w := by
  have hJ4 : JH 4 fun D => D [] (fun C => ∀ (t11_1 : Bool), C [(11, (.bool t11_1))] (route_Look.s1 Q t11_1)) := by intros; exact ⟨fun _ h => ⟨_, _, h⟩⟩
  exact g_walk 24 h Try.func16
def route_Make (s0 : (Option Addr)) (tag1 : (Array Value)) (t2 : (Array Value)) (Q : (Array Value) → K) : K :=
  New 58 tag1 fun tag4 =>
  New 50 t2 fun t5 =>
  New 60 #[(.int .i64 0), (.int .u64 0), (.int .u64 0), (.int .i64 0), (.int .i64 0), (Sl.val ⟨none, 0, 0⟩), (Sl.val ⟨none, 0, 0⟩), (Sl.val ⟨none, 0, 0⟩), (.int .i64 0), (Sl.val ⟨none, 0, 0⟩)] fun t6 =>
  Dr <| WithS fun S =>
  LdNS S tag4 4 fun t7 =>
  LdNS S t5 5 fun t8 =>
  LdNS S t5 5 fun t11 =>
  prog_Copy.call t8 fun t9 =>
  Sv S <|
  route_Marks.call s0 t11 fun t12 =>
  Sv S <|
  Bld #[(.int .i64 0), (.int .u64 0), (.int .u64 0), (.int .i64 0), (.int .i64 0), (Sl.val ⟨none, 0, 0⟩), (Sl.val ⟨none, 0, 0⟩), (Sl.val ⟨none, 0, 0⟩), (.int .i64 0), (Sl.val ⟨none, 0, 0⟩)] ([(0, 4), (4, 5), (9, 1)][·]?) [(0, (.agg t7)), (1, (.agg t9)), (2, (Sl.val t12))] fun t13 =>
  StN t6 10 t13 <|
  LdN t6 10 fun r0 =>
  Q r0
theorem route_Make_ok (s0 : (Option Addr)) (tag1 : (Array Value)) (t2 : (Array Value)) (Q : (Array Value) → K) (w : World) (h : route_Make s0 tag1 t2 Q w) : route_Make.call s0 tag1 t2 Q w := by
  have hD1 : DH 1 2 [7] (.s [3, 0, 1, 4] (.a [(2, 1, .a [(5, 1, .s [6] (.a [(7, 0, .e)]))])])) := by intros; exact ⟨⟩
  exact g_walk 14 h Try.func24
def route_Marks.b1 (Q : Sl → K)  (X1 : Sl → Int → K) (s0_1 : (Option Addr)) (t9_1 : Sl) (t10_1 : Int) (out4_1 : Sl) (t11_1 : Int) : K :=
  Ite (decide (t11_1 < t10_1))
    (Idx t9_1 t11_1 1 fun t13 =>
    Ld t13 Value.string fun t14 =>
    store_Store_Get.call s0_1 t14 fun t17 =>
    New 36 #[(.bool false), (Sl.val ⟨none, 0, 0⟩), (.int .i64 0), (.int .u64 0)] fun r7 =>
    StN r7 4 t17 <|
    Ld (r7.add 2) (Value.int .i64) fun t21 =>
    Ld (r7.add 3) (Value.int .u64) fun t23 =>
    Bld #[(.string ⟨#[]⟩), (.int .i64 0), (.int .u64 0)] (fun i => some (i * 3, 3)) [(0, (.agg #[(.string t14), (.int .i64 t21), (.int .u64 t23)]))] fun ct25 =>
    New 39 ct25 fun t25 =>
    Do Try.prog (Builtin.append_ #[29, 29] 29 #[(Sl.val out4_1), (Sl.val (Sl.mk (some t25) 1 1))]) Sl.val fun t26 =>
    Ar (IntKind.wrap .i64 (t11_1 + 1)) fun t27 =>
    X1 t26 t27)
    (Q out4_1)
def route_Marks (s0 : (Option Addr)) (t1 : (Array Value)) (Q : Sl → K) : K :=
  New 50 t1 fun t3 =>
  LdN t3 5 fun t8 =>
  prog_Keys.call t8 fun t9 =>
  LoopK (α := Sl × Int) (fun X x => route_Marks.b1 Q (fun out4_1 t11_1 => X (out4_1, t11_1)) s0 t9 (t9.n : Int) x.1 x.2) ((Sl.mk none 0 0), 0)
theorem route_Marks_ok (s0 : (Option Addr)) (t1 : (Array Value)) (Q : Sl → K) (w : World) (h : route_Marks s0 t1 Q w) : route_Marks.call s0 t1 Q w := by
  have hL2 : ∀ (s0_1 : (Option Addr)) (t9_1 : Sl) (t10_1 : Int), LH 2 (fun x : Sl × Int => [(0, (.pointer s0_1)), (4, (Sl.val x.1)), (9, (Sl.val t9_1)), (10, (.int .i64 t10_1)), (11, (.int .i64 x.2))]) (fun X x => route_Marks.b1 Q (fun out4_1 t11_1 => X (out4_1, t11_1)) s0_1 t9_1 t10_1 x.1 x.2) := by intros; exact ⟨⟩
  exact g_walk 29 h Try.func28
def route_Fits.b1 (Q : Bool → K)  (X1 : Int → K) (s0_1 : (Option Addr)) (t8_1 : Sl) (t9_1 : Int) (t10_1 : Int) : K :=
  Ite (decide (t10_1 < t9_1))
    (Idx t8_1 t10_1 3 fun t12 =>
    LdN t12 3 fun t13 =>
    New 39 #[(.string ⟨#[]⟩), (.int .i64 0), (.int .u64 0)] fun m6 =>
    StN m6 3 t13 <|
    Dr <| WithS fun S =>
    LdS S m6 Value.string fun t16 =>
    LdNS S m6 3 fun t18 =>
    store_Store_Get.call s0_1 t16 fun t17 =>
    Sv S <|
    route_Look.call t17 t18 fun t19 =>
    Ite (decide (t19 ≠ 0))
      (Q false)
      (Ar (IntKind.wrap .i64 (t10_1 + 1)) fun t21 =>
      X1 t21))
    (Q true)
def route_Fits (s0 : (Option Addr)) (o1 : (Array Value)) (Q : Bool → K) : K :=
  New 60 o1 fun o3 =>
  Ld (o3.add 9) Sl.val fun t8 =>
  LoopK (α := Int) (fun X x => route_Fits.b1 Q X s0 t8 (t8.n : Int) x) 0
theorem route_Fits_ok (s0 : (Option Addr)) (o1 : (Array Value)) (Q : Bool → K) (w : World) (h : route_Fits s0 o1 Q w) : route_Fits.call s0 o1 Q w := by
  have hD4 : DH 4 2 [5] (.s [0, 1, 2, 4] (.a [(3, 1, .a [(5, 0, .s [6] .e)])])) := by intros; exact ⟨⟩
  have hL2 : ∀ (s0_1 : (Option Addr)) (t8_1 : Sl) (t9_1 : Int), LH 2 (fun x : Int => [(0, (.pointer s0_1)), (8, (Sl.val t8_1)), (9, (.int .i64 t9_1)), (10, (.int .i64 x))]) (fun X x => route_Fits.b1 Q X s0_1 t8_1 t9_1 x) := by intros; exact ⟨⟩
  exact g_walk 22 h Try.func29
end Go.Proofs.Ytfjjocopmknhgaa
