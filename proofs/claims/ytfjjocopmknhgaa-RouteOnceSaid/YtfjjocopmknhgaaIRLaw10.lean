/- Plain forms of functions, and that their code comes to them (package law10). -/
import Derived.Test.YtfjjocopmknhgaaCalls
namespace Go.Proofs.Ytfjjocopmknhgaa
open Go Go.Sep
set_option linter.unusedVariables false
set_option linter.unusedSimpArgs false
set_option maxRecDepth 100000
set_option maxHeartbeats 4000000
attribute [local irreducible] G Gp Cx Tx Ex Sx Dx Ox Ax Lx Rx Fx Bx Bj Al Do Ld LdN St StN New CallF Ar DoU Rd Rd2 Pu Cd Ite Fv CallV CallY Ans0 Ans1 Ans2 Ans3 Ans4 Ans5 Ext Dead Dr WithS Sv LdS LdNS RdS Rd2S Nn Idx IdxA IdxS Fld Bld Slc SlcS Cat All LoopK RangeF RangeJ TakeD
namespace F_IRLaw10
instance at_32 : AT Try.prog 32 2 := ⟨by kernel_rfl⟩
instance at_36 : AT Try.prog 36 4 := ⟨by kernel_rfl⟩
instance cb_13 : CB Try.prog 13 := ⟨by kernel_rfl⟩
instance cb_15 : CB Try.prog 15 := ⟨by kernel_rfl⟩
instance cb_16 : CB Try.prog 16 := ⟨by kernel_rfl⟩
instance cb_30 : CB Try.prog 30 := ⟨by kernel_rfl⟩
instance cb_58 : CB Try.prog 58 := ⟨by kernel_rfl⟩
instance ct_3 : CT Try.prog 3 := ⟨by kernel_rfl⟩
instance ct_9 : CT Try.prog 9 := ⟨by kernel_rfl⟩
instance ft_32_0 : FT Try.prog 32 0 0 1 := ⟨by kernel_rfl⟩
instance ft_32_1 : FT Try.prog 32 1 1 1 := ⟨by kernel_rfl⟩
instance mx : MX Try.prog := ⟨mixed⟩
instance pl_36 : PLT Try.prog 36 [(0, 1), (1, 1), (2, 1), (3, 1)] := ⟨_, Try.underlying36, by kernel_rfl⟩
instance pl_39 : PLT Try.prog 39 [(0, 1), (1, 1), (2, 1)] := ⟨_, Try.underlying39, by kernel_rfl⟩
instance sl_22 : SLT Try.prog 22 32 2 := ⟨by kernel_rfl⟩
instance st_9 : STT Try.prog 9 := ⟨by kernel_rfl⟩
instance sz_32 : SZ Try.prog 32 2 := ⟨by kernel_rfl⟩
instance sz_36 : SZ Try.prog 36 4 := ⟨by kernel_rfl⟩
instance un_25 : UN Try.prog 25 (.pointer 112) := ⟨Try.underlying25⟩
instance zt_32 : ZT Try.prog 32 (.agg #[(.string ⟨#[]⟩), (.int .i64 0)]) := ⟨Try.t32, by kernel_rfl, by kernel_rfl⟩
instance zt_36 : ZT Try.prog 36 (.agg #[(.bool false), (Sl.val ⟨none, 0, 0⟩), (.int .i64 0), (.int .u64 0)]) := ⟨Try.t36, by kernel_rfl, by kernel_rfl⟩
instance zt_39 : ZT Try.prog 39 (.agg #[(.string ⟨#[]⟩), (.int .i64 0), (.int .u64 0)]) := ⟨Try.t39, by kernel_rfl, by kernel_rfl⟩
end F_IRLaw10
def law10_speaks.s1 (Q : Bool → K)  (t0_1 : Bool) : K :=
  Q t0_1
def law10_speaks  (Q : Bool → K) : K :=
  New 36 #[(.bool false), (Sl.val ⟨none, 0, 0⟩), (.int .i64 0), (.int .u64 0)] fun r1 =>
  StN r1 4 #[(.bool false), (Sl.val ⟨none, 0, 0⟩), (.int .i64 1), (.int .u64 2)] <|
  LdN r1 4 fun t3 =>
  route_Look.call t3 #[(.string ⟨#[]⟩), (.int .i64 1), (.int .u64 2)] fun t5 =>
  Ite (decide (t5 = 0))
    (LdN r1 4 fun t8 =>
    route_Look.call t8 #[(.string ⟨#[]⟩), (.int .i64 0), (.int .u64 3)] fun t10 =>
    Ite (decide (t10 = 1))
      (LdN r1 4 fun t14 =>
      route_Look.call t14 #[(.string ⟨#[]⟩), (.int .i64 0), (.int .u64 2)] fun t16 =>
      Ite (decide (t16 = 2))
        (LdN r1 4 fun t20 =>
        route_Look.call t20 #[(.string ⟨#[]⟩), (.int .i64 1), (.int .u64 1)] fun t22 =>
        law10_speaks.s1 Q (bif (bif (bif (decide (t22 = 2)) then true else false) then true else false) then true else false))
        (law10_speaks.s1 Q false))
      (law10_speaks.s1 Q false))
    (law10_speaks.s1 Q false)
theorem law10_speaks_ok  (Q : Bool → K) (w : World) (h : law10_speaks  Q w) : law10_speaks.call  Q w := by
  have hJ1000002 : JH 1000002 fun D => D [] (fun C => ∀ (t0_1 : Bool), C [(0, (.bool t0_1))] (law10_speaks.s1 Q t0_1)) := by intros; exact ⟨fun _ h => ⟨_, _, h⟩⟩
  exact g_walk 31 h Try.func11
def law10_great.b1 (Q : Bool → K)  (X1 : Int → K) (t8_1 : Sl) (t9_1 : Int) (t10_1 : Int) : K :=
  Ite (decide (t10_1 < t9_1))
    (Idx t8_1 t10_1 2 fun t12 =>
    LdN t12 2 fun t13 =>
    New 32 #[(.string ⟨#[]⟩), (.int .i64 0)] fun m4 =>
    StN m4 2 t13 <|
    Ld m4 Value.string fun t15 =>
    Ite (decide ((200 : Int) < (t15.size : Int)))
      (Q true)
      (Ar (IntKind.wrap .i64 (t10_1 + 1)) fun t18 =>
      X1 t18))
    (Q false)
def law10_great (moves0 : Sl) (Q : Bool → K) : K :=
  Ite (decide ((100 : Int) < (moves0.n : Int)))
    (Q true)
    (LoopK (α := Int) (fun X x => law10_great.b1 Q X moves0 (moves0.n : Int) x) 0)
theorem law10_great_ok (moves0 : Sl) (Q : Bool → K) (w : World) (h : law10_great moves0 Q w) : law10_great.call moves0 Q w := by
  have hL4 : ∀ (t8_1 : Sl) (t9_1 : Int), LH 4 (fun x : Int => [(8, (Sl.val t8_1)), (9, (.int .i64 t9_1)), (10, (.int .i64 x))]) (fun X x => law10_great.b1 Q X t8_1 t9_1 x) := by intros; exact ⟨⟩
  exact g_walk 19 h Try.func12
def law10_moved.s2 (Q : (Option Addr) → (Option Addr) → K) (X1 : Int → K) (s4_2 : (Option Addr)) (m6_2 : (Option Addr)) (x8_2 : Addr) (t14_2 : Sl) (t15_2 : Int) (t16_2 : Int) : K :=
  Ld x8_2 Value.string fun t30 =>
  Ld (x8_2.add 1) (Value.int .i64) fun t32 =>
  ref06_Store_Move.call m6_2 t30 t32 fun t33 =>
  Ar (IntKind.wrap .i64 (t16_2 + 1)) fun t34 =>
  X1 t34
def law10_moved.b1 (Q : (Option Addr) → (Option Addr) → K)  (X1 : Int → K) (s4_1 : (Option Addr)) (m6_1 : (Option Addr)) (t14_1 : Sl) (t15_1 : Int) (t16_1 : Int) : K :=
  Ite (decide (t16_1 < t15_1))
    (Idx t14_1 t16_1 2 fun t18 =>
    LdN t18 2 fun t19 =>
    New 32 #[(.string ⟨#[]⟩), (.int .i64 0)] fun x8 =>
    StN x8 2 t19 <|
    Ite (!(s4_1).isNone)
      (Ld x8 Value.string fun t24 =>
      Ld (x8.add 1) (Value.int .i64) fun t26 =>
      store_Store_Move.call s4_1 t24 t26 fun t27 =>
      law10_moved.s2 Q X1 s4_1 m6_1 x8 t14_1 t15_1 t16_1)
      (law10_moved.s2 Q X1 s4_1 m6_1 x8 t14_1 t15_1 t16_1))
    (Q s4_1 m6_1)
def law10_moved (moves0 : Sl) (Q : (Option Addr) → (Option Addr) → K) : K :=
  store_New.call 3 fun t10x0 t10x1 =>
  ref06_New.call 3 fun t13 =>
  LoopK (α := Int) (fun X x => law10_moved.b1 Q X t10x0 t13 moves0 (moves0.n : Int) x) 0
theorem law10_moved_ok (moves0 : Sl) (Q : (Option Addr) → (Option Addr) → K) (w : World) (h : law10_moved moves0 Q w) : law10_moved.call moves0 Q w := by
  have hJ8 : ∀ (X1 : Int → K), XH 4 X1 → JH 8 fun D => ∃ (s4_2 : (Option Addr)) (m6_2 : (Option Addr)) (x8_2 : Addr) (t14_2 : Sl) (t15_2 : Int) (t16_2 : Int), D [(4, (.pointer s4_2)), (6, (.pointer m6_2)), (8, (.pointer (some x8_2))), (14, (Sl.val t14_2)), (15, (.int .i64 t15_2)), (16, (.int .i64 t16_2))] (fun C => C [(4, (.pointer s4_2)), (6, (.pointer m6_2)), (8, (.pointer (some x8_2))), (14, (Sl.val t14_2)), (15, (.int .i64 t15_2)), (16, (.int .i64 t16_2))] (law10_moved.s2 Q X1 s4_2 m6_2 x8_2 t14_2 t15_2 t16_2)) := by intros; exact ⟨fun _ ⟨_, _, _, _, _, _, h⟩ => ⟨_, _, h⟩⟩
  have hL4 : ∀ (s4_1 : (Option Addr)) (m6_1 : (Option Addr)) (t14_1 : Sl) (t15_1 : Int), LH 4 (fun x : Int => [(4, (.pointer s4_1)), (6, (.pointer m6_1)), (14, (Sl.val t14_1)), (15, (.int .i64 t15_1)), (16, (.int .i64 x))]) (fun X x => law10_moved.b1 Q X s4_1 m6_1 t14_1 t15_1 x) := by intros; exact ⟨⟩
  exact g_walk 37 h Try.func23
end Go.Proofs.Ytfjjocopmknhgaa
