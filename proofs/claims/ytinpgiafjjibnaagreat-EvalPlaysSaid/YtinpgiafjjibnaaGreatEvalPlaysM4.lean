/- Texts of the claim EvalPlays, one behind the other. -/
import Derived.Test.YtinpgiafjjibnaaGreatEvalPlaysM3
import Derived.Deep.OwnRows
/- Plain forms of functions, and that their code comes to them (package ref05). -/
namespace Go.Proofs.YtinpgiafjjibnaaGreat
open Go Go.Sep
set_option linter.unusedVariables false
set_option linter.unusedSimpArgs false
set_option maxRecDepth 100000
set_option maxHeartbeats 4000000
attribute [local irreducible] G Gp Cx Tx Ex Sx Dx Ox Ax Lx Rx Fx Bx Bj Al Do Ld LdN St StN New CallF Ar DoU Rd Rd2 Pu Cd Ite Fv CallV CallY Ans0 Ans1 Ans2 Ans3 Ans4 Ans5 Ext Dead Dr WithS Sv LdS LdNS RdS Rd2S Nn Idx IdxA IdxS Fld Bld Slc SlcS Cat All LoopK RangeF RangeJ TakeD
namespace F_IRRef05
instance at_26 : AT Tryz.prog 26 5 := ⟨by kernel_rfl⟩
instance at_66 : AT Tryz.prog 66 4 := ⟨by kernel_rfl⟩
instance cb_32 : CB Tryz.prog 32 := ⟨by kernel_rfl⟩
instance cb_33 : CB Tryz.prog 33 := ⟨by kernel_rfl⟩
instance cb_34 : CB Tryz.prog 34 := ⟨by kernel_rfl⟩
instance cb_35 : CB Tryz.prog 35 := ⟨by kernel_rfl⟩
instance ct_2 : CT Tryz.prog 2 := ⟨by kernel_rfl⟩
instance ct_23 : CT Tryz.prog 23 := ⟨by kernel_rfl⟩
instance ct_24 : CT Tryz.prog 24 := ⟨by kernel_rfl⟩
instance ct_3 : CT Tryz.prog 3 := ⟨by kernel_rfl⟩
instance ct_52 : CT Tryz.prog 52 := ⟨by kernel_rfl⟩
instance ct_9 : CT Tryz.prog 9 := ⟨by kernel_rfl⟩
instance ft_26_0 : FT Tryz.prog 26 0 0 1 := ⟨by kernel_rfl⟩
instance ft_26_1 : FT Tryz.prog 26 1 1 1 := ⟨by kernel_rfl⟩
instance ft_26_2 : FT Tryz.prog 26 2 2 1 := ⟨by kernel_rfl⟩
instance ft_26_3 : FT Tryz.prog 26 3 3 1 := ⟨by kernel_rfl⟩
instance ft_26_4 : FT Tryz.prog 26 4 4 1 := ⟨by kernel_rfl⟩
instance ft_66_0 : FT Tryz.prog 66 0 0 1 := ⟨by kernel_rfl⟩
instance ft_66_1 : FT Tryz.prog 66 1 1 1 := ⟨by kernel_rfl⟩
instance ft_66_2 : FT Tryz.prog 66 2 2 1 := ⟨by kernel_rfl⟩
instance ft_66_3 : FT Tryz.prog 66 3 3 1 := ⟨by kernel_rfl⟩
instance mx : MX Tryz.prog := ⟨mixed⟩
instance pl_26 : PLT Tryz.prog 26 [(0, 1), (1, 1), (2, 1), (3, 1), (4, 1)] := ⟨_, Tryz.underlying26, by kernel_rfl⟩
instance sl_23 : SLT Tryz.prog 23 9 1 := ⟨by kernel_rfl⟩
instance sl_24 : SLT Tryz.prog 24 66 4 := ⟨by kernel_rfl⟩
instance sl_52 : SLT Tryz.prog 52 5 1 := ⟨by kernel_rfl⟩
instance st_9 : STT Tryz.prog 9 := ⟨by kernel_rfl⟩
instance sz_24 : SZ Tryz.prog 24 1 := ⟨by kernel_rfl⟩
instance sz_26 : SZ Tryz.prog 26 5 := ⟨by kernel_rfl⟩
instance sz_52 : SZ Tryz.prog 52 1 := ⟨by kernel_rfl⟩
instance sz_66 : SZ Tryz.prog 66 4 := ⟨by kernel_rfl⟩
instance sz_9 : SZ Tryz.prog 9 1 := ⟨by kernel_rfl⟩
instance zt_26 : ZT Tryz.prog 26 (.agg #[(.int .i64 0), (Sl.val ⟨none, 0, 0⟩), (Sl.val ⟨none, 0, 0⟩), (Sl.val ⟨none, 0, 0⟩), (.int .i64 0)]) := ⟨Tryz.t26, by kernel_rfl, by kernel_rfl⟩
instance zt_5 : ZT Tryz.prog 5 (.int .u8 0) := ⟨Tryz.t5, by kernel_rfl, by kernel_rfl⟩
instance zt_66 : ZT Tryz.prog 66 (.agg #[(.int .i64 0), (.string ⟨#[]⟩), (Sl.val ⟨none, 0, 0⟩), (.int .i64 0)]) := ⟨Tryz.t66, by kernel_rfl, by kernel_rfl⟩
instance zt_9 : ZT Tryz.prog 9 (.string ⟨#[]⟩) := ⟨Tryz.t9, by kernel_rfl, by kernel_rfl⟩
end F_IRRef05
def ref05_Great.s5 (Q : Bool → K) (X2 : Int → K) (X3 : Int → K) (X4 : Int → K) (t1_5 : Addr) (i5_5 : Int) (t74_5 : Bool) : K :=
  Ite t74_5
    (Q true)
    (Ar (IntKind.wrap .i64 (i5_5 + 1)) fun t56 =>
    X4 t56)
def ref05_Great.b4 (Q : Bool → K) (X2 : Int → K) (X3 : Int → K) (X4 : Int → K) (t1_4 : Addr) (i5_4 : Int) : K :=
  Ld (t1_4.add 3) Sl.val fun t52 =>
  Ite (decide (i5_4 < (t52.n : Int)))
    (Ld (t1_4.add 3) Sl.val fun t58 =>
    Idx t58 i5_4 4 fun t60 =>
    Ld (t60.add 1) Value.string fun t62 =>
    Ite (decide ((200 : Int) < (t62.size : Int)))
      (ref05_Great.s5 Q X2 X3 X4 t1_4 i5_4 true)
      (Ld (t1_4.add 3) Sl.val fun t67 =>
      Idx t67 i5_4 4 fun t69 =>
      Ld (t69.add 2) Sl.val fun t71 =>
      ref05_Great.s5 Q X2 X3 X4 t1_4 i5_4 (decide ((200 : Int) < (t71.n : Int)))))
    (Q false)
def ref05_Great.b3 (Q : Bool → K) (X2 : Int → K) (X3 : Int → K) (t1_3 : Addr) (i4_3 : Int) : K :=
  Ld (t1_3.add 2) Sl.val fun t38 =>
  Ite (decide (i4_3 < (t38.n : Int)))
    (Ld (t1_3.add 2) Sl.val fun t44 =>
    Idx t44 i4_3 1 fun t46 =>
    Ld t46 Value.string fun t47 =>
    Ite (decide ((200 : Int) < (t47.size : Int)))
      (Q true)
      (Ar (IntKind.wrap .i64 (i4_3 + 1)) fun t42 =>
      X3 t42))
    (LoopK (α := Int) (fun X x => ref05_Great.b4 Q X2 X3 X t1_3 x) 0)
def ref05_Great.b2 (Q : Bool → K)  (X2 : Int → K) (t1_2 : Addr) (i3_2 : Int) : K :=
  Ld (t1_2.add 1) Sl.val fun t24 =>
  Ite (decide (i3_2 < (t24.n : Int)))
    (Ld (t1_2.add 1) Sl.val fun t30 =>
    Idx t30 i3_2 1 fun t32 =>
    Ld t32 Value.string fun t33 =>
    Ite (decide ((200 : Int) < (t33.size : Int)))
      (Q true)
      (Ar (IntKind.wrap .i64 (i3_2 + 1)) fun t28 =>
      X2 t28))
    (LoopK (α := Int) (fun X x => ref05_Great.b3 Q X2 X t1_2 x) 0)
def ref05_Great.s1 (Q : Bool → K)  (t1_1 : Addr) (t21_1 : Bool) : K :=
  Ite t21_1
    (Q true)
    (LoopK (α := Int) (fun X x => ref05_Great.b2 Q X t1_1 x) 0)
def ref05_Great (t0 : (Array Value)) (Q : Bool → K) : K :=
  New 26 t0 fun t1 =>
  Ld (t1.add 1) Sl.val fun t7 =>
  Ite (decide ((40 : Int) < (t7.n : Int)))
    (ref05_Great.s1 Q t1 true)
    (Ld (t1.add 2) Sl.val fun t12 =>
    Ite (decide ((40 : Int) < (t12.n : Int)))
      (ref05_Great.s1 Q t1 true)
      (Ld (t1.add 3) Sl.val fun t18 =>
      ref05_Great.s1 Q t1 (decide ((60 : Int) < (t18.n : Int)))))
theorem ref05_Great_ok (t0 : (Array Value)) (Q : Bool → K) (w : World) (h : ref05_Great t0 Q w) : ref05_Great.call t0 Q w := by
  have hJ17 : ∀ (X2 : Int → K), XH 4 X2 → ∀ (X3 : Int → K), XH 9 X3 → ∀ (X4 : Int → K), XH 14 X4 → JH 17 fun D => ∃ (t1_5 : Addr) (i5_5 : Int), D [(1, (.pointer (some t1_5))), (5, (.int .i64 i5_5))] (fun C => ∀ (t74_5 : Bool), C [(1, (.pointer (some t1_5))), (5, (.int .i64 i5_5)), (74, (.bool t74_5))] (ref05_Great.s5 Q X2 X3 X4 t1_5 i5_5 t74_5)) := by intros; exact ⟨fun _ ⟨_, _, h⟩ => ⟨_, _, h⟩⟩
  have hL14 : ∀ (X2 : Int → K), XH 4 X2 → ∀ (X3 : Int → K), XH 9 X3 → ∀ (t1_4 : Addr), LH 14 (fun x : Int => [(1, (.pointer (some t1_4))), (5, (.int .i64 x))]) (fun X x => ref05_Great.b4 Q X2 X3 X t1_4 x) := by intros; exact ⟨⟩
  have hL9 : ∀ (X2 : Int → K), XH 4 X2 → ∀ (t1_3 : Addr), LH 9 (fun x : Int => [(1, (.pointer (some t1_3))), (4, (.int .i64 x))]) (fun X x => ref05_Great.b3 Q X2 X t1_3 x) := by intros; exact ⟨⟩
  have hL4 : ∀ (t1_2 : Addr), LH 4 (fun x : Int => [(1, (.pointer (some t1_2))), (3, (.int .i64 x))]) (fun X x => ref05_Great.b2 Q X t1_2 x) := by intros; exact ⟨⟩
  have hJ2 : JH 2 fun D => ∃ (t1_1 : Addr), D [(1, (.pointer (some t1_1)))] (fun C => ∀ (t21_1 : Bool), C [(1, (.pointer (some t1_1))), (21, (.bool t21_1))] (ref05_Great.s1 Q t1_1 t21_1)) := by intros; exact ⟨fun _ ⟨_, h⟩ => ⟨_, _, h⟩⟩
  exact g_walk 75 h Tryz.func7
def ref05_Copy.b2 (Q : (Array Value) → K)  (X2 : Int → K) (t1_2 : Addr) (t2_2 : Addr) (out3_2 : Addr) (i4_2 : Int) : K :=
  Ld (t1_2.add 3) Sl.val fun t21 =>
  Ite (decide (i4_2 < (t21.n : Int)))
    (Ld (t1_2.add 3) Sl.val fun t27 =>
    Idx t27 i4_2 4 fun t29 =>
    LdN t29 4 fun t30 =>
    New 66 #[(.int .i64 0), (.string ⟨#[]⟩), (Sl.val ⟨none, 0, 0⟩), (.int .i64 0)] fun o5 =>
    StN o5 4 t30 <|
    New 5 #[] fun t31 =>
    Ld (t1_2.add 3) Sl.val fun t33 =>
    Idx t33 i4_2 4 fun t35 =>
    Ld (t35.add 2) Sl.val fun t37 =>
    Do Tryz.prog (Builtin.append_ #[52, 52] 52 #[(Sl.val (Sl.mk (some t31) 0 0)), (Sl.val t37)]) Sl.val fun t38 =>
    St (o5.add 2) (Sl.val t38) <|
    Ld (out3_2.add 3) Sl.val fun t41 =>
    LdN o5 4 fun t42 =>
    Bld #[(.int .i64 0), (.string ⟨#[]⟩), (Sl.val ⟨none, 0, 0⟩), (.int .i64 0)] (fun i => some (i * 4, 4)) [(0, (.agg t42))] fun ct43 =>
    New 66 ct43 fun t43 =>
    Do Tryz.prog (Builtin.append_ #[24, 24] 24 #[(Sl.val t41), (Sl.val (Sl.mk (some t43) 1 1))]) Sl.val fun t44 =>
    St (out3_2.add 3) (Sl.val t44) <|
    Ar (IntKind.wrap .i64 (i4_2 + 1)) fun t25 =>
    X2 t25)
    (LdN out3_2 5 fun t46 =>
    StN t2_2 5 t46 <|
    LdN t2_2 5 fun r0 =>
    Q r0)
def ref05_Copy.s1 (Q : (Array Value) → K)  (t1_1 : Addr) (t2_1 : Addr) (out3_1 : Addr) : K :=
  LoopK (α := Int) (fun X x => ref05_Copy.b2 Q X t1_1 t2_1 out3_1 x) 0
def ref05_Copy (t0 : (Array Value)) (Q : (Array Value) → K) : K :=
  New 26 t0 fun t1 =>
  New 26 #[(.int .i64 0), (Sl.val ⟨none, 0, 0⟩), (Sl.val ⟨none, 0, 0⟩), (Sl.val ⟨none, 0, 0⟩), (.int .i64 0)] fun t2 =>
  Dr <| WithS fun S =>
  LdS S t1 (Value.int .i64) fun t7 =>
  LdS S (t1.add 4) (Value.int .i64) fun t9 =>
  LdS S (t1.add 1) Sl.val fun t12 =>
  LdS S (t1.add 2) Sl.val fun t16 =>
  All [
    (New 9 #[] fun t10 =>
    Sv S <|
    All [
      (Do Tryz.prog (Builtin.append_ #[23, 23] 23 #[(Sl.val (Sl.mk (some t10) 0 0)), (Sl.val t12)]) Sl.val fun t13 =>
      Sv S <|
      All [
        (New 9 #[] fun t14 =>
        Sv S <|
        All [
          (Do Tryz.prog (Builtin.append_ #[23, 23] 23 #[(Sl.val (Sl.mk (some t14) 0 0)), (Sl.val t16)]) Sl.val fun t17 =>
          Sv S <|
          New 26 #[(.int .i64 0), (Sl.val ⟨none, 0, 0⟩), (Sl.val ⟨none, 0, 0⟩), (Sl.val ⟨none, 0, 0⟩), (.int .i64 0)] fun out3 =>
          Sv S <|
          StN out3 5 #[(.int .i64 t7), (Sl.val t13), (Sl.val t17), (Sl.val ⟨none, 0, 0⟩), (.int .i64 t9)] <|
          ref05_Copy.s1 Q t1 t2 out3),
          (New 26 #[(.int .i64 0), (Sl.val ⟨none, 0, 0⟩), (Sl.val ⟨none, 0, 0⟩), (Sl.val ⟨none, 0, 0⟩), (.int .i64 0)] fun out3 =>
          Sv S <|
          Do Tryz.prog (Builtin.append_ #[23, 23] 23 #[(Sl.val (Sl.mk (some t14) 0 0)), (Sl.val t16)]) Sl.val fun t17 =>
          Sv S <|
          StN out3 5 #[(.int .i64 t7), (Sl.val t13), (Sl.val t17), (Sl.val ⟨none, 0, 0⟩), (.int .i64 t9)] <|
          ref05_Copy.s1 Q t1 t2 out3)
          ]),
        (New 26 #[(.int .i64 0), (Sl.val ⟨none, 0, 0⟩), (Sl.val ⟨none, 0, 0⟩), (Sl.val ⟨none, 0, 0⟩), (.int .i64 0)] fun out3 =>
        Sv S <|
        New 9 #[] fun t14 =>
        Sv S <|
        Do Tryz.prog (Builtin.append_ #[23, 23] 23 #[(Sl.val (Sl.mk (some t14) 0 0)), (Sl.val t16)]) Sl.val fun t17 =>
        Sv S <|
        StN out3 5 #[(.int .i64 t7), (Sl.val t13), (Sl.val t17), (Sl.val ⟨none, 0, 0⟩), (.int .i64 t9)] <|
        ref05_Copy.s1 Q t1 t2 out3)
        ]),
      (New 9 #[] fun t14 =>
      Sv S <|
      All [
        (Do Tryz.prog (Builtin.append_ #[23, 23] 23 #[(Sl.val (Sl.mk (some t10) 0 0)), (Sl.val t12)]) Sl.val fun t13 =>
        Sv S <|
        All [
          (Do Tryz.prog (Builtin.append_ #[23, 23] 23 #[(Sl.val (Sl.mk (some t14) 0 0)), (Sl.val t16)]) Sl.val fun t17 =>
          Sv S <|
          New 26 #[(.int .i64 0), (Sl.val ⟨none, 0, 0⟩), (Sl.val ⟨none, 0, 0⟩), (Sl.val ⟨none, 0, 0⟩), (.int .i64 0)] fun out3 =>
          Sv S <|
          StN out3 5 #[(.int .i64 t7), (Sl.val t13), (Sl.val t17), (Sl.val ⟨none, 0, 0⟩), (.int .i64 t9)] <|
          ref05_Copy.s1 Q t1 t2 out3),
          (New 26 #[(.int .i64 0), (Sl.val ⟨none, 0, 0⟩), (Sl.val ⟨none, 0, 0⟩), (Sl.val ⟨none, 0, 0⟩), (.int .i64 0)] fun out3 =>
          Sv S <|
          Do Tryz.prog (Builtin.append_ #[23, 23] 23 #[(Sl.val (Sl.mk (some t14) 0 0)), (Sl.val t16)]) Sl.val fun t17 =>
          Sv S <|
          StN out3 5 #[(.int .i64 t7), (Sl.val t13), (Sl.val t17), (Sl.val ⟨none, 0, 0⟩), (.int .i64 t9)] <|
          ref05_Copy.s1 Q t1 t2 out3)
          ]),
        (New 26 #[(.int .i64 0), (Sl.val ⟨none, 0, 0⟩), (Sl.val ⟨none, 0, 0⟩), (Sl.val ⟨none, 0, 0⟩), (.int .i64 0)] fun out3 =>
        Sv S <|
        Do Tryz.prog (Builtin.append_ #[23, 23] 23 #[(Sl.val (Sl.mk (some t10) 0 0)), (Sl.val t12)]) Sl.val fun t13 =>
        Sv S <|
        Do Tryz.prog (Builtin.append_ #[23, 23] 23 #[(Sl.val (Sl.mk (some t14) 0 0)), (Sl.val t16)]) Sl.val fun t17 =>
        Sv S <|
        StN out3 5 #[(.int .i64 t7), (Sl.val t13), (Sl.val t17), (Sl.val ⟨none, 0, 0⟩), (.int .i64 t9)] <|
        ref05_Copy.s1 Q t1 t2 out3)
        ]),
      (New 26 #[(.int .i64 0), (Sl.val ⟨none, 0, 0⟩), (Sl.val ⟨none, 0, 0⟩), (Sl.val ⟨none, 0, 0⟩), (.int .i64 0)] fun out3 =>
      Sv S <|
      All [
        (Do Tryz.prog (Builtin.append_ #[23, 23] 23 #[(Sl.val (Sl.mk (some t10) 0 0)), (Sl.val t12)]) Sl.val fun t13 =>
        Sv S <|
        New 9 #[] fun t14 =>
        Sv S <|
        Do Tryz.prog (Builtin.append_ #[23, 23] 23 #[(Sl.val (Sl.mk (some t14) 0 0)), (Sl.val t16)]) Sl.val fun t17 =>
        Sv S <|
        StN out3 5 #[(.int .i64 t7), (Sl.val t13), (Sl.val t17), (Sl.val ⟨none, 0, 0⟩), (.int .i64 t9)] <|
        ref05_Copy.s1 Q t1 t2 out3),
        (New 9 #[] fun t14 =>
        Sv S <|
        Do Tryz.prog (Builtin.append_ #[23, 23] 23 #[(Sl.val (Sl.mk (some t10) 0 0)), (Sl.val t12)]) Sl.val fun t13 =>
        Sv S <|
        Do Tryz.prog (Builtin.append_ #[23, 23] 23 #[(Sl.val (Sl.mk (some t14) 0 0)), (Sl.val t16)]) Sl.val fun t17 =>
        Sv S <|
        StN out3 5 #[(.int .i64 t7), (Sl.val t13), (Sl.val t17), (Sl.val ⟨none, 0, 0⟩), (.int .i64 t9)] <|
        ref05_Copy.s1 Q t1 t2 out3)
        ])
      ]),
    (New 9 #[] fun t14 =>
    Sv S <|
    All [
      (New 9 #[] fun t10 =>
      Sv S <|
      All [
        (Do Tryz.prog (Builtin.append_ #[23, 23] 23 #[(Sl.val (Sl.mk (some t10) 0 0)), (Sl.val t12)]) Sl.val fun t13 =>
        Sv S <|
        All [
          (Do Tryz.prog (Builtin.append_ #[23, 23] 23 #[(Sl.val (Sl.mk (some t14) 0 0)), (Sl.val t16)]) Sl.val fun t17 =>
          Sv S <|
          New 26 #[(.int .i64 0), (Sl.val ⟨none, 0, 0⟩), (Sl.val ⟨none, 0, 0⟩), (Sl.val ⟨none, 0, 0⟩), (.int .i64 0)] fun out3 =>
          Sv S <|
          StN out3 5 #[(.int .i64 t7), (Sl.val t13), (Sl.val t17), (Sl.val ⟨none, 0, 0⟩), (.int .i64 t9)] <|
          ref05_Copy.s1 Q t1 t2 out3),
          (New 26 #[(.int .i64 0), (Sl.val ⟨none, 0, 0⟩), (Sl.val ⟨none, 0, 0⟩), (Sl.val ⟨none, 0, 0⟩), (.int .i64 0)] fun out3 =>
          Sv S <|
          Do Tryz.prog (Builtin.append_ #[23, 23] 23 #[(Sl.val (Sl.mk (some t14) 0 0)), (Sl.val t16)]) Sl.val fun t17 =>
          Sv S <|
          StN out3 5 #[(.int .i64 t7), (Sl.val t13), (Sl.val t17), (Sl.val ⟨none, 0, 0⟩), (.int .i64 t9)] <|
          ref05_Copy.s1 Q t1 t2 out3)
          ]),
        (New 26 #[(.int .i64 0), (Sl.val ⟨none, 0, 0⟩), (Sl.val ⟨none, 0, 0⟩), (Sl.val ⟨none, 0, 0⟩), (.int .i64 0)] fun out3 =>
        Sv S <|
        Do Tryz.prog (Builtin.append_ #[23, 23] 23 #[(Sl.val (Sl.mk (some t10) 0 0)), (Sl.val t12)]) Sl.val fun t13 =>
        Sv S <|
        Do Tryz.prog (Builtin.append_ #[23, 23] 23 #[(Sl.val (Sl.mk (some t14) 0 0)), (Sl.val t16)]) Sl.val fun t17 =>
        Sv S <|
        StN out3 5 #[(.int .i64 t7), (Sl.val t13), (Sl.val t17), (Sl.val ⟨none, 0, 0⟩), (.int .i64 t9)] <|
        ref05_Copy.s1 Q t1 t2 out3)
        ]),
      (New 26 #[(.int .i64 0), (Sl.val ⟨none, 0, 0⟩), (Sl.val ⟨none, 0, 0⟩), (Sl.val ⟨none, 0, 0⟩), (.int .i64 0)] fun out3 =>
      Sv S <|
      New 9 #[] fun t10 =>
      Sv S <|
      Do Tryz.prog (Builtin.append_ #[23, 23] 23 #[(Sl.val (Sl.mk (some t10) 0 0)), (Sl.val t12)]) Sl.val fun t13 =>
      Sv S <|
      Do Tryz.prog (Builtin.append_ #[23, 23] 23 #[(Sl.val (Sl.mk (some t14) 0 0)), (Sl.val t16)]) Sl.val fun t17 =>
      Sv S <|
      StN out3 5 #[(.int .i64 t7), (Sl.val t13), (Sl.val t17), (Sl.val ⟨none, 0, 0⟩), (.int .i64 t9)] <|
      ref05_Copy.s1 Q t1 t2 out3)
      ]),
    (New 26 #[(.int .i64 0), (Sl.val ⟨none, 0, 0⟩), (Sl.val ⟨none, 0, 0⟩), (Sl.val ⟨none, 0, 0⟩), (.int .i64 0)] fun out3 =>
    Sv S <|
    All [
      (New 9 #[] fun t10 =>
      Sv S <|
      All [
        (Do Tryz.prog (Builtin.append_ #[23, 23] 23 #[(Sl.val (Sl.mk (some t10) 0 0)), (Sl.val t12)]) Sl.val fun t13 =>
        Sv S <|
        New 9 #[] fun t14 =>
        Sv S <|
        Do Tryz.prog (Builtin.append_ #[23, 23] 23 #[(Sl.val (Sl.mk (some t14) 0 0)), (Sl.val t16)]) Sl.val fun t17 =>
        Sv S <|
        StN out3 5 #[(.int .i64 t7), (Sl.val t13), (Sl.val t17), (Sl.val ⟨none, 0, 0⟩), (.int .i64 t9)] <|
        ref05_Copy.s1 Q t1 t2 out3),
        (New 9 #[] fun t14 =>
        Sv S <|
        Do Tryz.prog (Builtin.append_ #[23, 23] 23 #[(Sl.val (Sl.mk (some t10) 0 0)), (Sl.val t12)]) Sl.val fun t13 =>
        Sv S <|
        Do Tryz.prog (Builtin.append_ #[23, 23] 23 #[(Sl.val (Sl.mk (some t14) 0 0)), (Sl.val t16)]) Sl.val fun t17 =>
        Sv S <|
        StN out3 5 #[(.int .i64 t7), (Sl.val t13), (Sl.val t17), (Sl.val ⟨none, 0, 0⟩), (.int .i64 t9)] <|
        ref05_Copy.s1 Q t1 t2 out3)
        ]),
      (New 9 #[] fun t14 =>
      Sv S <|
      New 9 #[] fun t10 =>
      Sv S <|
      Do Tryz.prog (Builtin.append_ #[23, 23] 23 #[(Sl.val (Sl.mk (some t10) 0 0)), (Sl.val t12)]) Sl.val fun t13 =>
      Sv S <|
      Do Tryz.prog (Builtin.append_ #[23, 23] 23 #[(Sl.val (Sl.mk (some t14) 0 0)), (Sl.val t16)]) Sl.val fun t17 =>
      Sv S <|
      StN out3 5 #[(.int .i64 t7), (Sl.val t13), (Sl.val t17), (Sl.val ⟨none, 0, 0⟩), (.int .i64 t9)] <|
      ref05_Copy.s1 Q t1 t2 out3)
      ])
    ]
theorem ref05_Copy_ok (t0 : (Array Value)) (Q : (Array Value) → K) (w : World) (h : ref05_Copy t0 Q w) : ref05_Copy.call t0 Q w := by
  have hL3 : ∀ (t1_2 : Addr) (t2_2 : Addr) (out3_2 : Addr), LH 3 (fun x : Int => [(1, (.pointer (some t1_2))), (2, (.pointer (some t2_2))), (3, (.pointer (some out3_2))), (4, (.int .i64 x))]) (fun X x => ref05_Copy.b2 Q X t1_2 t2_2 out3_2 x) := by intros; exact ⟨⟩
  have hJ2 : JH 2 fun D => ∃ (t1_1 : Addr) (t2_1 : Addr), D [(1, (.pointer (some t1_1))), (2, (.pointer (some t2_1)))] (fun C => ∀ (out3_1 : Addr), C [(1, (.pointer (some t1_1))), (2, (.pointer (some t2_1))), (3, (.pointer (some out3_1)))] (ref05_Copy.s1 Q t1_1 t2_1 out3_1)) := by intros; exact ⟨fun _ ⟨_, _, h⟩ => ⟨_, _, h⟩⟩
  have hD1 : DH 1 2 [14] (.s [0, 2, 5, 9, 1, 3, 6, 10] (.a [(4, 1, .a [(7, 1, .a [(8, 1, .a [(11, 1, .s [12] (.a [(13, 1, .a [(14, 0, .e)])])), (13, 1, .a [(11, 1, .s [12] (.a [(14, 0, .e)]))])]), (13, 1, .a [(8, 1, .a [(11, 1, .s [12] (.a [(14, 0, .e)]))])])]), (8, 1, .a [(7, 1, .a [(11, 1, .s [12] (.a [(13, 1, .a [(14, 0, .e)])])), (13, 1, .a [(11, 1, .s [12] (.a [(14, 0, .e)]))])]), (13, 1, .a [(7, 1, .a [(11, 1, .s [12] (.a [(14, 0, .e)]))])])]), (13, 1, .a [(7, 1, .a [(8, 1, .a [(11, 1, .s [12] (.a [(14, 0, .e)]))])]), (8, 1, .a [(7, 1, .a [(11, 1, .s [12] (.a [(14, 0, .e)]))])])])]), (8, 1, .a [(4, 1, .a [(7, 1, .a [(11, 1, .s [12] (.a [(13, 1, .a [(14, 0, .e)])])), (13, 1, .a [(11, 1, .s [12] (.a [(14, 0, .e)]))])]), (13, 1, .a [(7, 1, .a [(11, 1, .s [12] (.a [(14, 0, .e)]))])])]), (13, 1, .a [(4, 1, .a [(7, 1, .a [(11, 1, .s [12] (.a [(14, 0, .e)]))])])])]), (13, 1, .a [(4, 1, .a [(7, 1, .a [(8, 1, .a [(11, 1, .s [12] (.a [(14, 0, .e)]))])]), (8, 1, .a [(7, 1, .a [(11, 1, .s [12] (.a [(14, 0, .e)]))])])]), (8, 1, .a [(4, 1, .a [(7, 1, .a [(11, 1, .s [12] (.a [(14, 0, .e)]))])])])])])) := by intros; exact ⟨⟩
  exact g_walk 47 h Tryz.func9
def ref05_Same.s4 (Q : Bool → K) (X2 : Int → K) (a2_4 : Addr) (b3_4 : Addr) (i5_4 : Int) (t89_4 : Bool) : K :=
  Ite t89_4
    (Q false)
    (Ar (IntKind.wrap .i64 (i5_4 + 1)) fun t51 =>
    X2 t51)
def ref05_Same.s3 (Q : Bool → K) (X2 : Int → K) (a2_3 : Addr) (b3_3 : Addr) (i5_3 : Int) (x6_3 : Addr) (y7_3 : Addr) : K :=
  Ld x6_3 (Value.int .i64) fun t63 =>
  Ld y7_3 (Value.int .i64) fun t65 =>
  Ite (decide (t63 ≠ t65))
    (ref05_Same.s4 Q X2 a2_3 b3_3 i5_3 true)
    (Ld (x6_3.add 1) Value.string fun t69 =>
    Ld (y7_3.add 1) Value.string fun t71 =>
    Ite (!(t69.toList == t71.toList))
      (ref05_Same.s4 Q X2 a2_3 b3_3 i5_3 true)
      (Ld (x6_3.add 3) (Value.int .i64) fun t76 =>
      Ld (y7_3.add 3) (Value.int .i64) fun t78 =>
      Ite (decide (t76 ≠ t78))
        (ref05_Same.s4 Q X2 a2_3 b3_3 i5_3 true)
        (Ld (x6_3.add 2) Sl.val fun t83 =>
        Rd Tryz.prog (convert 52 9 (Sl.val t83)) Value.string fun t84 =>
        Ld (y7_3.add 2) Sl.val fun t86 =>
        Rd Tryz.prog (convert 52 9 (Sl.val t86)) Value.string fun t87 =>
        ref05_Same.s4 Q X2 a2_3 b3_3 i5_3 (!(t84.toList == t87.toList)))))
def ref05_Same.b2 (Q : Bool → K)  (X2 : Int → K) (a2_2 : Addr) (b3_2 : Addr) (i5_2 : Int) : K :=
  Ld (a2_2.add 3) Sl.val fun t47 =>
  Ite (decide (i5_2 < (t47.n : Int)))
    (Dr <| WithS fun S =>
    LdS S (a2_2.add 3) Sl.val fun t53 =>
    Idx t53 i5_2 4 fun t55 =>
    LdNS S t55 4 fun t56 =>
    LdS S (b3_2.add 3) Sl.val fun t58 =>
    Idx t58 i5_2 4 fun t60 =>
    LdNS S t60 4 fun t61 =>
    All [
      (New 66 #[(.int .i64 0), (.string ⟨#[]⟩), (Sl.val ⟨none, 0, 0⟩), (.int .i64 0)] fun x6 =>
      Sv S <|
      New 66 #[(.int .i64 0), (.string ⟨#[]⟩), (Sl.val ⟨none, 0, 0⟩), (.int .i64 0)] fun y7 =>
      Sv S <|
      StN x6 4 t56 <|
      Sv S <|
      StN y7 4 t61 <|
      ref05_Same.s3 Q X2 a2_2 b3_2 i5_2 x6 y7),
      (New 66 #[(.int .i64 0), (.string ⟨#[]⟩), (Sl.val ⟨none, 0, 0⟩), (.int .i64 0)] fun y7 =>
      Sv S <|
      New 66 #[(.int .i64 0), (.string ⟨#[]⟩), (Sl.val ⟨none, 0, 0⟩), (.int .i64 0)] fun x6 =>
      Sv S <|
      StN x6 4 t56 <|
      Sv S <|
      StN y7 4 t61 <|
      ref05_Same.s3 Q X2 a2_2 b3_2 i5_2 x6 y7)
      ])
    (Q true)
def ref05_Same.s1 (Q : Bool → K)  (a2_1 : Addr) (b3_1 : Addr) (t44_1 : Bool) : K :=
  Ite t44_1
    (Q false)
    (LoopK (α := Int) (fun X x => ref05_Same.b2 Q X a2_1 b3_1 x) 0)
def ref05_Same (a0 : (Array Value)) (b1 : (Array Value)) (Q : Bool → K) : K :=
  New 26 a0 fun a2 =>
  New 26 b1 fun b3 =>
  Ld a2 (Value.int .i64) fun t9 =>
  Ld b3 (Value.int .i64) fun t11 =>
  Ite (decide (t9 ≠ t11))
    (ref05_Same.s1 Q a2 b3 true)
    (Ld (a2.add 4) (Value.int .i64) fun t15 =>
    Ld (b3.add 4) (Value.int .i64) fun t17 =>
    Ite (decide (t15 ≠ t17))
      (ref05_Same.s1 Q a2 b3 true)
      (Ld (a2.add 1) Sl.val fun t22 =>
      Ld (b3.add 1) Sl.val fun t24 =>
      ref05_SameTexts.call t22 t24 fun t25 =>
      Ite (!t25)
        (ref05_Same.s1 Q a2 b3 true)
        (Ld (a2.add 2) Sl.val fun t30 =>
        Ld (b3.add 2) Sl.val fun t32 =>
        ref05_SameTexts.call t30 t32 fun t33 =>
        Ite (!t33)
          (ref05_Same.s1 Q a2 b3 true)
          (Ld (a2.add 3) Sl.val fun t38 =>
          Ld (b3.add 3) Sl.val fun t41 =>
          ref05_Same.s1 Q a2 b3 (decide ((t38.n : Int) ≠ (t41.n : Int)))))))
theorem ref05_Same_ok (a0 : (Array Value)) (b1 : (Array Value)) (Q : Bool → K) (w : World) (h : ref05_Same a0 b1 Q w) : ref05_Same.call a0 b1 Q w := by
  have hJ8 : ∀ (X2 : Int → K), XH 4 X2 → JH 8 fun D => ∃ (a2_4 : Addr) (b3_4 : Addr) (i5_4 : Int), D [(2, (.pointer (some a2_4))), (3, (.pointer (some b3_4))), (5, (.int .i64 i5_4))] (fun C => ∀ (t89_4 : Bool), C [(2, (.pointer (some a2_4))), (3, (.pointer (some b3_4))), (5, (.int .i64 i5_4)), (89, (.bool t89_4))] (ref05_Same.s4 Q X2 a2_4 b3_4 i5_4 t89_4)) := by intros; exact ⟨fun _ ⟨_, _, _, h⟩ => ⟨_, _, h⟩⟩
  have hJ7 : ∀ (X2 : Int → K), XH 4 X2 → JH 7 fun D => ∃ (a2_3 : Addr) (b3_3 : Addr) (i5_3 : Int), D [(2, (.pointer (some a2_3))), (3, (.pointer (some b3_3))), (5, (.int .i64 i5_3))] (fun C => ∀ (x6_3 : Addr) (y7_3 : Addr), C [(2, (.pointer (some a2_3))), (3, (.pointer (some b3_3))), (5, (.int .i64 i5_3)), (6, (.pointer (some x6_3))), (7, (.pointer (some y7_3)))] (ref05_Same.s3 Q X2 a2_3 b3_3 i5_3 x6_3 y7_3)) := by intros; exact ⟨fun _ ⟨_, _, _, h⟩ => ⟨_, _, h⟩⟩
  have hD6 : DH 6 2 [13] (.s [0, 2, 5, 7, 1, 3, 4, 6, 8, 9] (.a [(10, 1, .a [(11, 1, .a [(12, 1, .a [(13, 0, .e)])])]), (11, 1, .a [(10, 1, .a [(12, 1, .a [(13, 0, .e)])])])])) := by intros; exact ⟨⟩
  have hL4 : ∀ (a2_2 : Addr) (b3_2 : Addr), LH 4 (fun x : Int => [(2, (.pointer (some a2_2))), (3, (.pointer (some b3_2))), (5, (.int .i64 x))]) (fun X x => ref05_Same.b2 Q X a2_2 b3_2 x) := by intros; exact ⟨⟩
  have hJ2 : JH 2 fun D => ∃ (a2_1 : Addr) (b3_1 : Addr), D [(2, (.pointer (some a2_1))), (3, (.pointer (some b3_1)))] (fun C => ∀ (t44_1 : Bool), C [(2, (.pointer (some a2_1))), (3, (.pointer (some b3_1))), (44, (.bool t44_1))] (ref05_Same.s1 Q a2_1 b3_1 t44_1)) := by intros; exact ⟨fun _ ⟨_, _, h⟩ => ⟨_, _, h⟩⟩
  exact g_walk 90 h Tryz.func13
def ref05_Right.s3 (Q : Bool → K) (X2 : Int → K) (regions1_3 : Int) (t2_3 : Addr) (keys5_3 : Sl) (i6_3 : Int) (t90_3 : Bool) : K :=
  Ite t90_3
    (Q false)
    (Ar (IntKind.wrap .i64 (i6_3 + 1)) fun t60 =>
    X2 t60)
def ref05_Right.s4 (Q : Bool → K) (X2 : Int → K) (t4_4 : Bool) : K :=
  Q t4_4
def ref05_Right.b6 (Q : Bool → K) (X2 : Int → K) (X6 : Int → K) (t2_6 : Addr) (i7_6 : Int) : K :=
  Ld (t2_6.add 3) Sl.val fun t137 =>
  Ite (decide (i7_6 < (t137.n : Int)))
    (Dr <|
    LdN t2_6 5 fun t142 =>
    Ld (t2_6.add 3) Sl.val fun t144 =>
    Idx t144 i7_6 4 fun t146 =>
    LdN t146 4 fun t147 =>
    ref05_op.call t142 t147 fun t148 =>
    Ite (!t148)
      (Q false)
      (Ar (IntKind.wrap .i64 (i7_6 + 1)) fun t141 =>
      X6 t141))
    (Q true)
def ref05_Right.s5 (Q : Bool → K) (X2 : Int → K) (t2_5 : Addr) (t134_5 : Bool) : K :=
  Ite t134_5
    (Q false)
    (LoopK (α := Int) (fun X x => ref05_Right.b6 Q X2 X t2_5 x) 0)
def ref05_Right.b2 (Q : Bool → K)  (X2 : Int → K) (regions1_2 : Int) (t2_2 : Addr) (keys5_2 : Sl) (i6_2 : Int) : K :=
  Ite (decide (i6_2 < (keys5_2.n : Int)))
    (Dr <|
    Idx keys5_2 i6_2 1 fun t63 =>
    Ld t63 Value.string fun t64 =>
    Ite (decide ((t64.size : Int) < 1))
      (ref05_Right.s3 Q X2 regions1_2 t2_2 keys5_2 i6_2 true)
      (Idx keys5_2 i6_2 1 fun t70 =>
      Ld t70 Value.string fun t71 =>
      Ite (decide ((16 : Int) < (t71.size : Int)))
        (ref05_Right.s3 Q X2 regions1_2 t2_2 keys5_2 i6_2 true)
        (Ld (t2_2.add 1) Sl.val fun t78 =>
        Ite (decide (i6_2 < (t78.n : Int)))
          (Idx keys5_2 i6_2 1 fun t86 =>
          Ld (t2_2.add 2) Sl.val fun t83 =>
          Ld t86 Value.string fun t87 =>
          ref05_In.call t83 t87 fun t88 =>
          ref05_Right.s3 Q X2 regions1_2 t2_2 keys5_2 i6_2 t88)
          (ref05_Right.s3 Q X2 regions1_2 t2_2 keys5_2 i6_2 false))))
    (Ld t2_2 (Value.int .i64) fun t92 =>
    Ite (decide (t92 = 2))
      (Ld (t2_2.add 1) Sl.val fun t95 =>
      Ite (decide ((t95.n : Int) = 0))
        (Ld (t2_2.add 3) Sl.val fun t100 =>
        Ite (decide ((t100.n : Int) = 0))
          (Ld (t2_2.add 2) Sl.val fun t106 =>
          Ite (decide ((t106.n : Int) = 1))
            (Ld (t2_2.add 4) (Value.int .i64) fun t112 =>
            Ite (decide ((0 : Int) ≤ t112))
              (Ld (t2_2.add 4) (Value.int .i64) fun t117 =>
              ref05_Right.s4 Q X2 (decide (t117 < regions1_2)))
              (ref05_Right.s4 Q X2 false))
            (ref05_Right.s4 Q X2 false))
          (ref05_Right.s4 Q X2 false))
        (ref05_Right.s4 Q X2 false))
      (Ld t2_2 (Value.int .i64) fun t122 =>
      Ite (decide (t122 ≠ 1))
        (ref05_Right.s5 Q X2 t2_2 true)
        (Ld (t2_2.add 4) (Value.int .i64) fun t126 =>
        Ite (decide (t126 ≠ 0))
          (ref05_Right.s5 Q X2 t2_2 true)
          (Ld (t2_2.add 3) Sl.val fun t131 =>
          ref05_Right.s5 Q X2 t2_2 (decide ((16 : Int) < (t131.n : Int)))))))
def ref05_Right.s1 (Q : Bool → K)  (regions1_1 : Int) (t2_1 : Addr) (t47_1 : Bool) : K :=
  Ite t47_1
    (Q false)
    (Dr <| WithS fun S =>
    LdS S (t2_1.add 1) Sl.val fun t50 =>
    LdS S (t2_1.add 2) Sl.val fun t53 =>
    New 9 #[] fun t48 =>
    Sv S <|
    Do Tryz.prog (Builtin.append_ #[23, 23] 23 #[(Sl.val (Sl.mk (some t48) 0 0)), (Sl.val t50)]) Sl.val fun t51 =>
    Sv S <|
    Do Tryz.prog (Builtin.append_ #[23, 23] 23 #[(Sl.val t51), (Sl.val t53)]) Sl.val fun t54 =>
    LoopK (α := Int) (fun X x => ref05_Right.b2 Q X regions1_1 t2_1 t54 x) 0)
def ref05_Right (t0 : (Array Value)) (regions1 : Int) (Q : Bool → K) : K :=
  New 26 t0 fun t2 =>
  Ite (decide (regions1 < 1))
    (ref05_Right.s1 Q regions1 t2 true)
    (Ite (decide ((3 : Int) < regions1))
      (ref05_Right.s1 Q regions1 t2 true)
      (Ld (t2.add 1) Sl.val fun t16 =>
      ref05_Rising.call t16 fun t17 =>
      Ite (!t17)
        (ref05_Right.s1 Q regions1 t2 true)
        (Ld (t2.add 2) Sl.val fun t22 =>
        ref05_Rising.call t22 fun t23 =>
        Ite (!t23)
          (ref05_Right.s1 Q regions1 t2 true)
          (Ld (t2.add 1) Sl.val fun t28 =>
          Ite (decide ((8 : Int) < (t28.n : Int)))
            (ref05_Right.s1 Q regions1 t2 true)
            (Ld (t2.add 2) Sl.val fun t34 =>
            Ite (decide ((8 : Int) < (t34.n : Int)))
              (ref05_Right.s1 Q regions1 t2 true)
              (Ld (t2.add 1) Sl.val fun t40 =>
              Ld (t2.add 2) Sl.val fun t43 =>
              Ar (IntKind.wrap .i64 ((t40.n : Int) + (t43.n : Int))) fun t45 =>
              ref05_Right.s1 Q regions1 t2 (decide ((8 : Int) < t45))))))))
theorem ref05_Right_ok (t0 : (Array Value)) (regions1 : Int) (Q : Bool → K) (w : World) (h : ref05_Right t0 regions1 Q w) : ref05_Right.call t0 regions1 Q w := by
  have hJ8 : ∀ (X2 : Int → K), XH 5 X2 → JH 8 fun D => ∃ (regions1_3 : Int) (t2_3 : Addr) (keys5_3 : Sl) (i6_3 : Int), D [(1, (.int .i64 regions1_3)), (2, (.pointer (some t2_3))), (5, (Sl.val keys5_3)), (6, (.int .i64 i6_3))] (fun C => ∀ (t90_3 : Bool), C [(1, (.int .i64 regions1_3)), (2, (.pointer (some t2_3))), (5, (Sl.val keys5_3)), (6, (.int .i64 i6_3)), (90, (.bool t90_3))] (ref05_Right.s3 Q X2 regions1_3 t2_3 keys5_3 i6_3 t90_3)) := by intros; exact ⟨fun _ ⟨_, _, _, _, h⟩ => ⟨_, _, h⟩⟩
  have hD7 : DH 7 1 [27] (.s [0, 1, 2, 3, 4, 5, 6] (.i (.s [7, 8, 9, 10, 11, 12, 13, 14, 15, 16, 17, 18, 19, 20, 21, 22, 23, 24, 25, 26, 27, 28, 29] .e) (.s [7, 8, 9, 10, 11, 12, 13, 14] (.i (.s [15, 16, 17, 18, 19, 20, 21, 22, 23, 24, 25, 26, 27, 28, 29] .e) (.s [15, 16, 17, 18, 19, 20] (.i (.s [21, 23, 24, 25, 22, 26] (.a [(27, 0, .s [28, 29] .e)])) (.s [21, 22, 23, 24, 25, 26, 27, 28, 29] .e))))))) := by intros; exact ⟨⟩
  have hJ1000010 : ∀ (X2 : Int → K), XH 5 X2 → JH 1000010 fun D => D [] (fun C => ∀ (t4_4 : Bool), C [(4, (.bool t4_4))] (ref05_Right.s4 Q X2 t4_4)) := by intros; exact ⟨fun _ h => ⟨_, _, h⟩⟩
  have hD16 : DH 16 1 [6] (.s [1, 3, 0, 2, 4, 5] (.a [(6, 0, .s [7] .e)])) := by intros; exact ⟨⟩
  have hL14 : ∀ (X2 : Int → K), XH 5 X2 → ∀ (t2_6 : Addr), LH 14 (fun x : Int => [(2, (.pointer (some t2_6))), (7, (.int .i64 x))]) (fun X x => ref05_Right.b6 Q X2 X t2_6 x) := by intros; exact ⟨⟩
  have hJ12 : ∀ (X2 : Int → K), XH 5 X2 → JH 12 fun D => ∃ (t2_5 : Addr), D [(2, (.pointer (some t2_5)))] (fun C => ∀ (t134_5 : Bool), C [(2, (.pointer (some t2_5))), (134, (.bool t134_5))] (ref05_Right.s5 Q X2 t2_5 t134_5)) := by intros; exact ⟨fun _ ⟨_, h⟩ => ⟨_, _, h⟩⟩
  have hL5 : ∀ (regions1_2 : Int) (t2_2 : Addr) (keys5_2 : Sl), LH 5 (fun x : Int => [(1, (.int .i64 regions1_2)), (2, (.pointer (some t2_2))), (5, (Sl.val keys5_2)), (6, (.int .i64 x))]) (fun X x => ref05_Right.b2 Q X regions1_2 t2_2 keys5_2 x) := by intros; exact ⟨⟩
  have hD3 : DH 3 2 [6] (.s [1, 4, 2, 5] (.a [(0, 1, .a [(3, 1, .a [(6, 0, .s [7] .e)])])])) := by intros; exact ⟨⟩
  have hJ2 : JH 2 fun D => ∃ (regions1_1 : Int) (t2_1 : Addr), D [(1, (.int .i64 regions1_1)), (2, (.pointer (some t2_1)))] (fun C => ∀ (t47_1 : Bool), C [(1, (.int .i64 regions1_1)), (2, (.pointer (some t2_1))), (47, (.bool t47_1))] (ref05_Right.s1 Q regions1_1 t2_1 t47_1)) := by intros; exact ⟨fun _ ⟨_, _, h⟩ => ⟨_, _, h⟩⟩
  exact g_walk 150 h Tryz.func14
def ref05_SameTexts.b1 (Q : Bool → K)  (X1 : Int → K) (a0_1 : Sl) (b1_1 : Sl) (i5_1 : Int) : K :=
  Ite (decide (i5_1 < (a0_1.n : Int)))
    (Dr <|
    Idx a0_1 i5_1 1 fun t19 =>
    Ld t19 Value.string fun t20 =>
    Idx b1_1 i5_1 1 fun t23 =>
    Ld t23 Value.string fun t24 =>
    Ite (!(t20.toList == t24.toList))
      (Q false)
      (Ar (IntKind.wrap .i64 (i5_1 + 1)) fun t16 =>
      X1 t16))
    (Q true)
def ref05_SameTexts (a0 : Sl) (b1 : Sl) (Q : Bool → K) : K :=
  Ite (decide ((a0.n : Int) ≠ (b1.n : Int)))
    (Q false)
    (LoopK (α := Int) (fun X x => ref05_SameTexts.b1 Q X a0 b1 x) 0)
theorem ref05_SameTexts_ok (a0 : Sl) (b1 : Sl) (Q : Bool → K) (w : World) (h : ref05_SameTexts a0 b1 Q w) : ref05_SameTexts.call a0 b1 Q w := by
  have hL4 : ∀ (a0_1 : Sl) (b1_1 : Sl), LH 4 (fun x : Int => [(0, (Sl.val a0_1)), (1, (Sl.val b1_1)), (5, (.int .i64 x))]) (fun X x => ref05_SameTexts.b1 Q X a0_1 b1_1 x) := by intros; exact ⟨⟩
  exact g_walk 26 h Tryz.func32
def ref05_Rising.b1 (Q : Bool → K)  (X1 : Int → K) (list0_1 : Sl) (i3_1 : Int) : K :=
  Ite (decide (i3_1 < (list0_1.n : Int)))
    (Dr <|
    Ar (IntKind.wrap .i64 (i3_1 - 1)) fun t12 =>
    Idx list0_1 t12 1 fun t13 =>
    Ld t13 Value.string fun t14 =>
    Idx list0_1 i3_1 1 fun t17 =>
    Ld t17 Value.string fun t18 =>
    Ite (!(Op.bytesLess t14.toList t18.toList))
      (Q false)
      (Ar (IntKind.wrap .i64 (i3_1 + 1)) fun t9 =>
      X1 t9))
    (Q true)
def ref05_Rising (list0 : Sl) (Q : Bool → K) : K :=
  LoopK (α := Int) (fun X x => ref05_Rising.b1 Q X list0 x) 1
theorem ref05_Rising_ok (list0 : Sl) (Q : Bool → K) (w : World) (h : ref05_Rising list0 Q w) : ref05_Rising.call list0 Q w := by
  have hL2 : ∀ (list0_1 : Sl), LH 2 (fun x : Int => [(0, (Sl.val list0_1)), (3, (.int .i64 x))]) (fun X x => ref05_Rising.b1 Q X list0_1 x) := by intros; exact ⟨⟩
  exact g_walk 20 h Tryz.func33
def ref05_In.b1 (Q : Bool → K)  (X1 : Int → K) (list0_1 : Sl) (key1_1 : ByteArray) (i5_1 : Int) : K :=
  Ite (decide (i5_1 < (list0_1.n : Int)))
    (Idx list0_1 i5_1 1 fun t14 =>
    Ld t14 Value.string fun t15 =>
    Ite (t15.toList == key1_1.toList)
      (Q true)
      (Ar (IntKind.wrap .i64 (i5_1 + 1)) fun t11 =>
      X1 t11))
    (Q false)
def ref05_In (list0 : Sl) (key1 : ByteArray) (Q : Bool → K) : K :=
  LoopK (α := Int) (fun X x => ref05_In.b1 Q X list0 key1 x) 0
theorem ref05_In_ok (list0 : Sl) (key1 : ByteArray) (Q : Bool → K) (w : World) (h : ref05_In list0 key1 Q w) : ref05_In.call list0 key1 Q w := by
  have hL2 : ∀ (list0_1 : Sl) (key1_1 : ByteArray), LH 2 (fun x : Int => [(0, (Sl.val list0_1)), (1, (.string key1_1)), (5, (.int .i64 x))]) (fun X x => ref05_In.b1 Q X list0_1 key1_1 x) := by intros; exact ⟨⟩
  exact g_walk 18 h Tryz.func34
def ref05_op.s2 (Q : Bool → K)  (t4_2 : Bool) : K :=
  Q t4_2
def ref05_op.s5 (Q : Bool → K)  (t4_5 : Bool) : K :=
  Q t4_5
def ref05_op.s4 (Q : Bool → K)  (o3_4 : Addr) (t66_4 : Bool) : K :=
  Ite t66_4
    (Q false)
    (Ld o3_4 (Value.int .i64) fun t68 =>
    Ite (decide (t68 = 2))
      (ref05_op.s5 Q true)
      (Ld o3_4 (Value.int .i64) fun t72 =>
      Ite (decide (t72 = 4))
        (ref05_op.s5 Q true)
        (Ld (o3_4.add 2) Sl.val fun t77 =>
        ref05_op.s5 Q (decide ((t77.n : Int) = 0)))))
def ref05_op.s3 (Q : Bool → K)  (o3_3 : Addr) (t58_3 : Bool) : K :=
  Ite t58_3
    (Q false)
    (Ld o3_3 (Value.int .i64) fun t60 =>
    Ite (decide (t60 ≠ 6))
      (Ld (o3_3.add 3) (Value.int .i64) fun t64 =>
      ref05_op.s4 Q o3_3 (decide (t64 ≠ 0)))
      (ref05_op.s4 Q o3_3 false))
def ref05_op.s1 (Q : Bool → K)  (t2_1 : Addr) (o3_1 : Addr) (t18_1 : Bool) : K :=
  Ite t18_1
    (Q false)
    (Ld o3_1 (Value.int .i64) fun t20 =>
    Ite (decide (t20 = 7))
      (Ld (o3_1.add 1) Value.string fun t23 =>
      Ite (t23.toList == (⟨#[]⟩ : ByteArray).toList)
        (Ld (o3_1.add 3) (Value.int .i64) fun t27 =>
        ref05_op.s2 Q (decide (t27 = 0)))
        (ref05_op.s2 Q false))
      (Ld (t2_1.add 2) Sl.val fun t31 =>
      Ld (o3_1.add 1) Value.string fun t33 =>
      ref05_In.call t31 t33 fun t34 =>
      Ite (!t34)
        (Ld (t2_1.add 1) Sl.val fun t38 =>
        Ld (o3_1.add 1) Value.string fun t40 =>
        ref05_In.call t38 t40 fun t41 =>
        Ite (!t41)
          (ref05_op.s3 Q o3_1 true)
          (Ld o3_1 (Value.int .i64) fun t45 =>
          Ite (decide (t45 = 2))
            (ref05_op.s3 Q o3_1 true)
            (Ld o3_1 (Value.int .i64) fun t50 =>
            Ite (decide (t50 = 3))
              (ref05_op.s3 Q o3_1 true)
              (Ld o3_1 (Value.int .i64) fun t55 =>
              ref05_op.s3 Q o3_1 (decide (t55 = 6))))))
        (ref05_op.s3 Q o3_1 false)))
def ref05_op (t0 : (Array Value)) (o1 : (Array Value)) (Q : Bool → K) : K :=
  New 26 t0 fun t2 =>
  New 66 o1 fun o3 =>
  Ld (o3.add 2) Sl.val fun t6 =>
  Ite (decide ((32 : Int) < (t6.n : Int)))
    (ref05_op.s1 Q t2 o3 true)
    (Ld o3 (Value.int .i64) fun t11 =>
    Ite (decide (t11 < 1))
      (ref05_op.s1 Q t2 o3 true)
      (Ld o3 (Value.int .i64) fun t16 =>
      ref05_op.s1 Q t2 o3 (decide ((7 : Int) < t16))))
theorem ref05_op_ok (t0 : (Array Value)) (o1 : (Array Value)) (Q : Bool → K) (w : World) (h : ref05_op t0 o1 Q w) : ref05_op.call t0 o1 Q w := by
  have hJ1000004 : JH 1000004 fun D => D [] (fun C => ∀ (t4_2 : Bool), C [(4, (.bool t4_2))] (ref05_op.s2 Q t4_2)) := by intros; exact ⟨fun _ h => ⟨_, _, h⟩⟩
  have hJ1000009 : JH 1000009 fun D => D [] (fun C => ∀ (t4_5 : Bool), C [(4, (.bool t4_5))] (ref05_op.s5 Q t4_5)) := by intros; exact ⟨fun _ h => ⟨_, _, h⟩⟩
  have hJ8 : JH 8 fun D => ∃ (o3_4 : Addr), D [(3, (.pointer (some o3_4)))] (fun C => ∀ (t66_4 : Bool), C [(3, (.pointer (some o3_4))), (66, (.bool t66_4))] (ref05_op.s4 Q o3_4 t66_4)) := by intros; exact ⟨fun _ ⟨_, h⟩ => ⟨_, _, h⟩⟩
  have hJ6 : JH 6 fun D => ∃ (o3_3 : Addr), D [(3, (.pointer (some o3_3)))] (fun C => ∀ (t58_3 : Bool), C [(3, (.pointer (some o3_3))), (58, (.bool t58_3))] (ref05_op.s3 Q o3_3 t58_3)) := by intros; exact ⟨fun _ ⟨_, h⟩ => ⟨_, _, h⟩⟩
  have hJ2 : JH 2 fun D => ∃ (t2_1 : Addr) (o3_1 : Addr), D [(2, (.pointer (some t2_1))), (3, (.pointer (some o3_1)))] (fun C => ∀ (t18_1 : Bool), C [(2, (.pointer (some t2_1))), (3, (.pointer (some o3_1))), (18, (.bool t18_1))] (ref05_op.s1 Q t2_1 o3_1 t18_1)) := by intros; exact ⟨fun _ ⟨_, _, h⟩ => ⟨_, _, h⟩⟩
  exact g_walk 81 h Tryz.func35
def ref05_Keys.s2 (Q : Sl → K) (X1 : Sl → Int → K) (out3_2 : Sl) (all4_2 : Sl) (i5_2 : Int) : K :=
  Ar (IntKind.wrap .i64 (i5_2 + 1)) fun t21 =>
  X1 out3_2 t21
def ref05_Keys.s4 (Q : Sl → K) (X1 : Sl → Int → K) (X3 : Int → K) (out3_4 : Sl) (all4_4 : Sl) (i5_4 : Int) (k6_4 : Int) (t51_4 : Bool) : K :=
  Ite t51_4
    (Idx out3_4 k6_4 1 fun t56 =>
    Ld t56 Value.string fun t57 =>
    Ar (IntKind.wrap .i64 (k6_4 - 1)) fun t62 =>
    Idx out3_4 t62 1 fun t63 =>
    Ld t63 Value.string fun t64 =>
    Idx out3_4 k6_4 1 fun t65 =>
    St t65 (.string t64) <|
    Ar (IntKind.wrap .i64 (k6_4 - 1)) fun t68 =>
    Idx out3_4 t68 1 fun t70 =>
    St t70 (.string t57) <|
    Ar (IntKind.wrap .i64 (k6_4 - 1)) fun t53 =>
    X3 t53)
    (ref05_Keys.s2 Q X1 out3_4 all4_4 i5_4)
def ref05_Keys.b3 (Q : Sl → K) (X1 : Sl → Int → K) (X3 : Int → K) (out3_3 : Sl) (all4_3 : Sl) (i5_3 : Int) (k6_3 : Int) : K :=
  Dr <|
  Ite (decide ((0 : Int) < k6_3))
    (Idx out3_3 k6_3 1 fun t43 =>
    Ld t43 Value.string fun t44 =>
    Ar (IntKind.wrap .i64 (k6_3 - 1)) fun t47 =>
    Idx out3_3 t47 1 fun t48 =>
    Ld t48 Value.string fun t49 =>
    ref05_Keys.s4 Q X1 X3 out3_3 all4_3 i5_3 k6_3 (Op.bytesLess t44.toList t49.toList))
    (ref05_Keys.s4 Q X1 X3 out3_3 all4_3 i5_3 k6_3 false)
def ref05_Keys.b1 (Q : Sl → K)  (X1 : Sl → Int → K) (all4_1 : Sl) (out3_1 : Sl) (i5_1 : Int) : K :=
  Ite (decide (i5_1 < (all4_1.n : Int)))
    (Idx all4_1 i5_1 1 fun t25 =>
    Ld t25 Value.string fun t26 =>
    ref05_In.call out3_1 t26 fun t27 =>
    Ite t27
      (ref05_Keys.s2 Q X1 out3_1 all4_1 i5_1)
      (Idx all4_1 i5_1 1 fun t31 =>
      Ld t31 Value.string fun t32 =>
      New 9 #[(.string t32)] fun t33 =>
      Do Tryz.prog (Builtin.append_ #[23, 23] 23 #[(Sl.val out3_1), (Sl.val (Sl.mk (some t33) 1 1))]) Sl.val fun t34 =>
      Ar (IntKind.wrap .i64 ((t34.n : Int) - 1)) fun t37 =>
      LoopK (α := Int) (fun X x => ref05_Keys.b3 Q X1 X t34 all4_1 i5_1 x) t37))
    (Q out3_1)
def ref05_Keys (t0 : (Array Value)) (Q : Sl → K) : K :=
  New 26 t0 fun t1 =>
  New 9 #[] fun t8 =>
  Dr <| WithS fun S =>
  LdS S (t1.add 1) Sl.val fun t11 =>
  LdS S (t1.add 2) Sl.val fun t14 =>
  New 9 #[] fun t9 =>
  Sv S <|
  Do Tryz.prog (Builtin.append_ #[23, 23] 23 #[(Sl.val (Sl.mk (some t9) 0 0)), (Sl.val t11)]) Sl.val fun t12 =>
  Sv S <|
  Do Tryz.prog (Builtin.append_ #[23, 23] 23 #[(Sl.val t12), (Sl.val t14)]) Sl.val fun t15 =>
  LoopK (α := Sl × Int) (fun X x => ref05_Keys.b1 Q (fun out3_1 i5_1 => X (out3_1, i5_1)) t15 x.1 x.2) ((Sl.mk (some t8) 0 0), 0)
theorem ref05_Keys_ok (t0 : (Array Value)) (Q : Sl → K) (w : World) (h : ref05_Keys t0 Q w) : ref05_Keys.call t0 Q w := by
  have hJ5 : ∀ (X1 : (Sl × Int) → K), XH 4 X1 → JH 5 fun D => ∃ (all4_2 : Sl) (i5_2 : Int), D [(4, (Sl.val all4_2)), (5, (.int .i64 i5_2))] (fun C => ∀ (out3_2 : Sl), C [(3, (Sl.val out3_2)), (4, (Sl.val all4_2)), (5, (.int .i64 i5_2))] (ref05_Keys.s2 Q (fun out3_1 i5_1 => X1 (out3_1, i5_1)) out3_2 all4_2 i5_2)) := by intros; exact ⟨fun _ ⟨_, _, h⟩ => ⟨_, _, h⟩⟩
  have hJ1000009 : ∀ (X1 : (Sl × Int) → K), XH 4 X1 → ∀ (X3 : Int → K), XH 9 X3 → JH 1000009 fun D => ∃ (out3_4 : Sl) (all4_4 : Sl) (i5_4 : Int) (k6_4 : Int), D [(3, (Sl.val out3_4)), (4, (Sl.val all4_4)), (5, (.int .i64 i5_4)), (6, (.int .i64 k6_4))] (fun C => ∀ (t51_4 : Bool), C [(3, (Sl.val out3_4)), (4, (Sl.val all4_4)), (5, (.int .i64 i5_4)), (6, (.int .i64 k6_4)), (51, (.bool t51_4))] (ref05_Keys.s4 Q (fun out3_1 i5_1 => X1 (out3_1, i5_1)) X3 out3_4 all4_4 i5_4 k6_4 t51_4)) := by intros; exact ⟨fun _ ⟨_, _, _, _, h⟩ => ⟨_, _, h⟩⟩
  have hL9 : ∀ (X1 : (Sl × Int) → K), XH 4 X1 → ∀ (out3_3 : Sl) (all4_3 : Sl) (i5_3 : Int), LH 9 (fun x : Int => [(3, (Sl.val out3_3)), (4, (Sl.val all4_3)), (5, (.int .i64 i5_3)), (6, (.int .i64 x))]) (fun X x => ref05_Keys.b3 Q (fun out3_1 i5_1 => X1 (out3_1, i5_1)) X out3_3 all4_3 i5_3 x) := by intros; exact ⟨⟩
  have hL4 : ∀ (all4_1 : Sl), LH 4 (fun x : Sl × Int => [(3, (Sl.val x.1)), (4, (Sl.val all4_1)), (5, (.int .i64 x.2))]) (fun X x => ref05_Keys.b1 Q (fun out3_1 i5_1 => X (out3_1, i5_1)) all4_1 x.1 x.2) := by intros; exact ⟨⟩
  have hD2 : DH 2 2 [6] (.s [1, 4, 2, 5] (.a [(0, 1, .a [(3, 1, .a [(6, 0, .s [7] .e)])])])) := by intros; exact ⟨⟩
  exact g_walk 72 h Tryz.func39
end Go.Proofs.YtinpgiafjjibnaaGreat
/- The document's transactions: In, SameTexts, Keys, Great, Same. -/
namespace Go.Proofs.YtinpgiafjjibnaaGreat
open Go Go.Sep
set_option linter.unusedSimpArgs false
set_option linter.unusedVariables false
set_option maxRecDepth 100000

/-- All keys, rising, each once. -/
def keysT (L : List TX) : List TX := cmpct (sortL L)
theorem keysT_rises (L : List TX) : (keysT L).Pairwise (· < ·) := cmpct_rises _ (sortL_le L)
theorem keysT_mem {L : List TX} {x : TX} : x ∈ keysT L ↔ x ∈ L := by unfold keysT; rw [cmpct_mem, sortL_mem]
theorem keysT_len (L : List TX) : (keysT L).length ≤ L.length := by
  have := cmpct_len (sortL L)
  rwa [sortL_len] at this
theorem keysT_eq {L M : List TX} (h : M.Pairwise (· < ·)) (hm : ∀ x, x ∈ M ↔ x ∈ L) : M = keysT L := rises_eq h (keysT_rises L) fun x => by rw [hm, keysT_mem]
section
variable {B : World} {Γ Δ : List HProp} {k : K}
theorem s_str {s : Sl} {xs : List UInt8} {q : ByteArray → K} (hr : ∀ w, Holds B Γ w → RdB w s xs) (h : HG B Γ (q (bs xs))) : HG B Γ (Rd Tryz.prog (convert ty_s_uint8 ty_string s.val) Value.string q) := fun w hw => r_str (by kernel_rfl) (hr w hw) (h w hw)
theorem in05_hg {s : Sl} {L : List TX} {key : TX} {Q : Bool → K} (hL : L.length < 1000000000) (hr : ∀ w, Holds B Γ w → RdC w s 1 (L.map strV)) (h : HG B Γ (Q (decide (key ∈ L)))) : HG B Γ (ref05_In.call s (bs key) Q) := fun w hw => by
  refine ref05_In_ok _ _ _ _ ?_
  have hn : s.n = L.length := by have := (hr w hw).len; simpa using this.symm
  refine Sep.hg hw ?_
  clear hw w
  unfold ref05_In
  refine s_loopC (α := Int) (fun x => ∃ i : Nat, x = (i : Int) ∧ i ≤ L.length ∧ key ∉ L.take i) (fun x => L.length - x.toNat) ⟨0, rfl, Nat.zero_le _, by simp⟩ fun k' x hx hk' => ?_
  obtain ⟨i, rfl, hi, hno⟩ := hx
  unfold ref05_In.b1
  refine s_ite (fun hb => ?_) fun hb => ?_
  · have hil : i < L.length := by simp only [decide_eq_true_eq] at hb; omega
    have hge : L[i]? = some L[i] := List.getElem?_eq_getElem hil
    have hmem : L[i] ∈ L := List.getElem_mem hil
    have htk : L.take (i + 1) = L.take i ++ [L[i]] := List.take_succ_eq_append_getElem hil
    generalize L[i] = x at hge hmem htk
    refine s_idxS hr hge ?_
    rw [bs_list, bs_list]
    refine s_ite (fun he => ?_) fun he => ?_
    · have he' : x = key := by simpa using he
      rw [show decide (key ∈ L) = true by rw [← he']; simpa using hmem] at h
      exact h
    · have he' : ¬ x = key := by simpa using he
      refine s_ai ?_
      refine hk' _ ⟨i + 1, by simp, hil, ?_⟩ (by omega)
      rw [htk]
      simp only [List.mem_append, List.mem_singleton, not_or]
      exact ⟨hno, fun e => he' e.symm⟩
  · have hil : i = L.length := by simp only [decide_eq_false_iff_not] at hb; omega
    rw [hil, List.take_length] at hno
    rw [show decide (key ∈ L) = false by simpa using hno] at h
    exact h
theorem texts05_hg {a b : Sl} {La Lb : List TX} {Q : Bool → K} (hL : La.length < 1000000000) (ha : ∀ w, Holds B Γ w → RdC w a 1 (La.map strV)) (hb : ∀ w, Holds B Γ w → RdC w b 1 (Lb.map strV)) (h : HG B Γ (Q (decide (La = Lb)))) : HG B Γ (ref05_SameTexts.call a b Q) := fun w hw => by
  refine ref05_SameTexts_ok _ _ _ _ ?_
  have han : a.n = La.length := by have := (ha w hw).len; simpa using this.symm
  have hbn : b.n = Lb.length := by have := (hb w hw).len; simpa using this.symm
  refine Sep.hg hw ?_
  clear hw w
  unfold ref05_SameTexts
  refine s_ite (fun hc => ?_) fun hc => ?_
  · have hne : La.length ≠ Lb.length := by simp only [decide_eq_true_eq] at hc; omega
    rw [show decide (La = Lb) = false by simpa using fun e => hne (by rw [e])] at h
    exact h
  have hll : La.length = Lb.length := by simp only [decide_eq_false_iff_not] at hc; omega
  refine s_loopC (α := Int) (fun x => ∃ i : Nat, x = (i : Int) ∧ i ≤ La.length ∧ La.take i = Lb.take i) (fun x => La.length - x.toNat) ⟨0, rfl, Nat.zero_le _, by simp⟩ fun k' x hx hk' => ?_
  obtain ⟨i, rfl, hi, he⟩ := hx
  unfold ref05_SameTexts.b1
  refine s_ite (fun hc2 => ?_) fun hc2 => ?_
  · have hil : i < La.length := by simp only [decide_eq_true_eq] at hc2; omega
    have hil2 : i < Lb.length := by omega
    have t1 := List.take_succ_eq_append_getElem hil
    have t2 := List.take_succ_eq_append_getElem hil2
    have g1 : La[i]? = some La[i] := List.getElem?_eq_getElem hil
    have g2 : Lb[i]? = some Lb[i] := List.getElem?_eq_getElem hil2
    generalize La[i] = x at t1 g1
    generalize Lb[i] = y at t2 g2
    repeat refine s_nx ?_
    refine s_idxS ha g1 ?_
    refine s_idxS hb g2 ?_
    rw [bs_list, bs_list]
    refine s_ite (fun hp => ?_) fun hp => ?_
    · have hp' : ¬ x = y := by simpa using hp
      rw [show decide (La = Lb) = false by simp only [decide_eq_false_iff_not]; rintro rfl; rw [g1] at g2; exact hp' (Option.some.inj g2)] at h
      exact h
    · have hp' : x = y := by simpa using hp
      refine s_ai ?_
      exact hk' _ ⟨i + 1, by simp, hil, by rw [t1, t2, he, hp']⟩ (by omega)
  · have hil : i = La.length := by simp only [decide_eq_false_iff_not] at hc2; omega
    rw [hil, List.take_length, hll, List.take_length] at he
    rw [show decide (La = Lb) = true by simpa using he] at h
    exact h
/-- A text goes to its place. -/
theorem bubble_hg {s all : Sl} {A : List TX} {x : TX} {X1 : Sl → Int → K} {Q : Sl → K} {i : Int} (hA : A.Pairwise (· < ·)) (hx : x ∉ A) (hL : A.length < 100000000)
    (h : ∀ M, M.Pairwise (· < ·) → (∀ y, y ∈ M ↔ y = x ∨ y ∈ A) → M.length = A.length + 1 → HG B (SlS s M :: Γ) (ref05_Keys.s2 Q X1 s all i)) :
    HG B (SlS s (A ++ [x]) :: Γ) (LoopK (α := Int) (fun X y => ref05_Keys.b3 Q X1 X s all i y) (A.length : Int)) := by
  refine s_loop (α := Int) (ι := List TX × List TX) (fun y i => y = (i.1.length : Int) ∧ A = i.1 ++ i.2 ∧ ∀ z ∈ i.2, x < z) (fun y i => SlS s (i.1 ++ x :: i.2) :: Γ) (fun y i => i.1.length) (A, []) ⟨rfl, by simp, by simp⟩ ?_
  rintro k' _ ⟨A1, A2⟩ ⟨rfl, rfl, h2⟩ hk'
  simp only at h2 hk' ⊢
  have hpw := List.pairwise_append.1 hA
  have hlen : (A1 ++ A2).length = A1.length + A2.length := List.length_append
  have stop : (∀ z ∈ A1, z < x) → HG B (SlS s (A1 ++ x :: A2) :: Γ) (ref05_Keys.s4 Q X1 k' s all i (A1.length : Int) false) := fun h1 => by
    unfold ref05_Keys.s4
    refine s_f ?_
    refine h (A1 ++ x :: A2) (List.pairwise_append.2 ⟨hpw.1, List.pairwise_cons.2 ⟨h2, hpw.2.1⟩, fun a ha b hb => ?_⟩) (fun y => by simp only [List.mem_append, List.mem_cons]; constructor <;> (intro h; rcases h with h | h | h <;> simp [h])) (by simp; omega)
    rcases List.mem_cons.1 hb with rfl | hb
    · exact h1 a ha
    · exact hpw.2.2 a ha b hb
  unfold ref05_Keys.b3
  refine s_cap s fun a1 a2 a3 a4 => ?_
  have hn : s.n = A1.length + (A2.length + 1) := by simpa using a1.symm
  repeat refine s_nx ?_
  rcases List.eq_nil_or_concat A1 with rfl | ⟨A1, y, rfl⟩
  · refine s_f ?_
    exact stop (by simp)
  simp only [List.concat_eq_append] at *
  have hl1 : (A1 ++ [y]).length = A1.length + 1 := by simp
  rw [hl1] at hn hlen hk' ⊢
  refine s_t ?_ (by simp)
  have e1 : ((A1 ++ [y]) ++ x :: A2)[A1.length + 1]? = some x := by rw [List.getElem?_append_right (by simp), hl1]; simp
  have e2 : ((A1 ++ [y]) ++ x :: A2)[A1.length]? = some y := by rw [List.append_assoc]; simp
  refine s_idxS (L := (A1 ++ [y]) ++ x :: A2) (j := A1.length + 1) (fun w hw => (own_rd (s := s) hw).1) e1 ?_ rfl
  refine s_ai ?_
  refine s_idxS (L := (A1 ++ [y]) ++ x :: A2) (j := A1.length) (fun w hw => (own_rd (s := s) hw).1) e2 ?_ (by omega)
  rw [bs_list, bs_list, bytesLess_dec]
  by_cases hxy : x < y
  · rw [show decide (x < y) = true by simpa using hxy]
    unfold ref05_Keys.s4
    refine s_t ?_
    refine s_idxS (L := (A1 ++ [y]) ++ x :: A2) (j := A1.length + 1) (fun w hw => (own_rd (s := s) hw).1) e1 ?_ rfl
    refine s_ai ?_
    refine s_idxS (L := (A1 ++ [y]) ++ x :: A2) (j := A1.length) (fun w hw => (own_rd (s := s) hw).1) e2 ?_ (by omega)
    refine s_idx (s := s) (i := A1.length + 1) ?_
    rw [← add0 (elA s (A1.length + 1) 1)]
    refine s_stE (s := s) ?_ (by simp)
    refine s_ai ?_
    refine s_idx (s := s) (i := A1.length) ?_
    rw [← add0 (elA s A1.length 1)]
    refine s_stE (s := s) ?_ (by simp)
    refine s_ai ?_
    have e3 : ((((A1 ++ [y]) ++ x :: A2).map strV).set ((A1.length + 1) * 1 + 0) (strV y)).set (A1.length * 1 + 0) (strV x) = (A1 ++ x :: (y :: A2)).map strV := by
      rw [show (A1.length + 1) * 1 + 0 = (A1 ++ [y]).length by simp, show A1.length * 1 + 0 = A1.length by omega, ← List.map_set, ← List.map_set]
      rw [List.set_append_right _ _ (Nat.le_refl _), Nat.sub_self, List.set_cons_zero, List.append_assoc, List.set_append_right _ _ (Nat.le_refl _), Nat.sub_self]
      rfl
    rw [show ((A1 ++ [y] ++ x :: A2).map strV).set ((A1.length + 1) * 1 + 0) (Value.string (bs y)) = ((A1 ++ [y] ++ x :: A2).map strV).set ((A1.length + 1) * 1 + 0) (strV y) from rfl, show Value.string (bs x) = strV x from rfl, e3]
    refine hk' _ (A1, y :: A2) ⟨by simp, by simp, fun z hz => ?_⟩ (by simp)
    rcases List.mem_cons.1 hz with rfl | hz
    · exact hxy
    · exact h2 z hz
  · rw [show decide (x < y) = false by simpa using hxy]
    have := stop fun z hz => by
      have hyx : y < x := by
        have h4 : y ≤ x := List.not_lt.1 hxy
        rcases List.le_iff_lt_or_eq.1 h4 with h5 | h5
        · exact h5
        · exact absurd (by rw [← h5]; simp) hx
      rcases List.mem_append.1 hz with hz | hz
      · exact List.lt_trans ((List.pairwise_append.1 hpw.1).2.2 z hz y (by simp)) hyx
      · rw [List.mem_singleton.1 hz]; exact hyx
    rw [hl1] at this
    exact this
theorem keys05_hg {t : TxX} {Q : Sl → K} (hr1 : ∀ w, Holds B Γ w → RdC w t.rs 1 (t.reads.map strV)) (hr2 : ∀ w, Holds B Γ w → RdC w t.ws 1 (t.writes.map strV)) (hl : t.reads.length ≤ 10000000) (hl2 : t.writes.length ≤ 10000000) (h : ∀ s, HG B (SlS s (keysT (t.reads ++ t.writes)) :: Γ) (Q s)) : HG B Γ (ref05_Keys.call (txL t).toArray Q) := fun w hw => by
  refine ref05_Keys_ok _ _ _ ?_
  have hn1 : t.rs.n = t.reads.length := by have := (hr1 w hw).len; simpa using this.symm
  have hn2 : t.ws.n = t.writes.length := by have := (hr2 w hw).len; simpa using this.symm
  refine Sep.hg hw ?_
  clear hw w
  unfold ref05_Keys
  refine s_new fun t1 => ?_
  refine s_new fun t8 => ?_
  refine s_conv (A' := SlS ⟨some ⟨t8, 0, none⟩, 0, 0⟩ []) (blk_SlC (vs := []) rfl (by simp)) ?_
  refine s_dr ?_
  refine s_wsD [blk t1 (.cells (txL t).toArray ty_api_Txn (0, 0))] ?_
  repeat refine s_nx ?_
  refine s_new fun t9 => ?_
  refine s_conv (A' := SlC ty_string 1 ⟨some ⟨t9, 0, none⟩, 0, 0⟩ []) (blk_SlC (vs := []) rfl (by simp)) ?_
  repeat refine s_nx ?_
  refine s_append (s := ⟨some ⟨t9, 0, none⟩, 0, 0⟩) (us := t.reads.map strV) (fun w hw => hr1 w hw.drops) (fun v hv => by obtain ⟨y, _, rfl⟩ := List.mem_map.1 hv; rfl) (by simp only; omega) fun a1 ha1 => ?_
  repeat refine s_nx ?_
  refine s_append (s := a1) (us := t.writes.map strV) (fun w hw => hr2 w hw.drops) (fun v hv => by obtain ⟨y, _, rfl⟩ := List.mem_map.1 hv; rfl) (by simp only at ha1; omega) fun all hall => ?_
  rw [show [] ++ t.reads.map strV ++ t.writes.map strV = (t.reads ++ t.writes).map strV by simp]
  have hln : (t.reads ++ t.writes).length = t.reads.length + t.writes.length := List.length_append
  generalize hLL : t.reads ++ t.writes = L at *
  have halln : all.n = L.length := by simp only at ha1; omega
  refine s_end (Δ := SlS ⟨some ⟨t8, 0, none⟩, 0, 0⟩ [] :: SlS all L :: Γ) ?_
  refine s_loop (α := Sl × Int) (ι := Nat × List TX) (fun y i => y.2 = (i.1 : Int) ∧ i.1 ≤ L.length ∧ i.2.Pairwise (· < ·) ∧ (∀ z, z ∈ i.2 ↔ z ∈ L.take i.1) ∧ i.2.length ≤ i.1) (fun y i => SlS y.1 i.2 :: SlS all L :: Γ) (fun y i => L.length - i.1) (0, []) ⟨rfl, Nat.zero_le _, List.Pairwise.nil, by simp, by simp⟩ ?_
  rintro k' ⟨o, _⟩ ⟨i, M⟩ ⟨rfl, hi, hM, hm, hMl⟩ hk'
  simp only at hi hM hm hMl hk' ⊢
  unfold ref05_Keys.b1
  refine s_cap o fun b1 b2 b3 b4 => ?_
  rw [List.length_map, Nat.mul_one] at b1
  refine s_ite (fun hb => ?_) fun hb => ?_
  · have hil : i < L.length := by simp only [decide_eq_true_eq] at hb; omega
    have hge : L[i]? = some L[i] := List.getElem?_eq_getElem hil
    have htk : L.take (i + 1) = L.take i ++ [L[i]] := List.take_succ_eq_append_getElem hil
    generalize L[i] = x at hge htk
    refine s_idxS (L := L) (fun w hw => (own_rd (s := all) hw).1) hge ?_
    refine in05_hg (L := M) (by omega) (fun w hw => (own_rd (s := o) hw).1) ?_
    refine s_ite (fun he => ?_) fun he => ?_
    · have hxM : x ∈ M := by simpa using he
      unfold ref05_Keys.s2
      refine s_ai ?_
      refine hk' (o, (i : Int) + 1) (i + 1, M) ⟨by simp, hil, hM, fun z => ?_, by simp only; omega⟩ (by simp only; omega)
      rw [htk, List.mem_append, ← hm]
      simp only [List.mem_singleton]
      constructor
      · exact fun h => .inl h
      · rintro (h | rfl)
        · exact h
        · exact hxM
    · have hxM : x ∉ M := by simpa using he
      refine s_idxS (L := L) (fun w hw => (own_rd (s := all) hw).1) hge ?_
      refine s_new fun t33 => ?_
      refine s_append (s := o) (us := [strV x]) (blk_rd rfl) (by simp [flatV]) (by simp only; omega) fun o2 ho2 => ?_
      rw [show M.map strV ++ [strV x] = (M ++ [x]).map strV by simp]
      refine s_ar (e' := (M.length : Int)) (by simp only at ho2; rw [wrap64 (by omega) (by omega)]; omega) ?_
      refine bubble_hg hM hxM (by omega) fun M2 h1 h2 h3 => ?_
      unfold ref05_Keys.s2
      refine s_ai ?_
      refine s_end (hk' (o2, (i : Int) + 1) (i + 1, M2) ⟨by simp, hil, h1, fun z => ?_, by simp only; omega⟩ (by simp only; omega))
      rw [h2, htk, List.mem_append, ← hm]
      simp only [List.mem_singleton]
      exact or_comm
  · have hil : i = L.length := by simp only [decide_eq_false_iff_not] at hb; omega
    rw [hil, List.take_length] at hm
    rw [keysT_eq hM hm]
    exact s_end (h o)
end
end Go.Proofs.YtinpgiafjjibnaaGreat
/- The document's transactions: Great, Same. -/
namespace Go.Proofs.YtinpgiafjjibnaaGreat
open Go Go.Sep
set_option linter.unusedSimpArgs false
set_option linter.unusedVariables false
set_option maxRecDepth 100000

abbrev GreatP (t : TxX) : Prop := 40 < t.reads.length ∨ 40 < t.writes.length ∨ 60 < t.ops.length ∨ (∃ k ∈ t.reads, 200 < k.length) ∨ (∃ k ∈ t.writes, 200 < k.length) ∨ ∃ x ∈ t.ops, 200 < x.1.key.length ∨ 200 < x.1.val.length
abbrev SameP (a b : TxX) : Prop := a.kind = b.kind ∧ a.to = b.to ∧ a.reads = b.reads ∧ a.writes = b.writes ∧ a.ops.map Prod.fst = b.ops.map Prod.fst
section
variable {B : World} {Γ Γ0 Δ : List HProp} {k : K}
/-- An element is looked at in every state that bears this. -/
theorem s_idxNS {α : Type} (f : α → List Value) {esz : Nat} {L : List α} {s : Sl} {j : Nat} {jj : Int} {x : α} {k : Array Value → K} (hf : ∀ x, (f x).length = esz) (he : 0 < esz) (hr : ∀ w, Holds B Γ w → RdC w s esz (L.flatMap f)) (hr0 : ∀ w, Holds B Γ0 w → RdC w s esz (L.flatMap f)) (hx : L[j]? = some x) (h : HG B Γ (k (f x).toArray)) (hj : jj = (j : Int) := by first | rfl | omega) :
    HG B Γ (Idx s jj esz fun t => LdNS (Holds B Γ0) t esz k) := fun w hw => by
  subst hj
  have hrw := hr w hw
  have hj : j < L.length := (List.getElem?_eq_some_iff.1 hx).1
  have hn : L.length = s.n := by
    have := hrw.len; rw [flatMap_len f esz hf] at this
    exact Nat.eq_of_mul_eq_mul_right he this
  cases ha : s.a with
  | none => have := hrw.nil ha; omega
  | some a =>
    refine ⟨a, _, ha, by omega, by omega, rfl, _, by simp [hf], fun w' hw' => ?_, h w hw⟩
    simp only [Int.toNat_natCast]
    exact flat_at f esz hf (hr0 w' hw') ha hx
/-- A part of an element. -/
theorem s_idxF1 {α β : Type} (f : α → List Value) {esz off : Nat} {L : List α} {s : Sl} {j : Nat} {jj : Int} {x : α} {c : β → Value} {v : β} {k : β → K} (hf : ∀ x, (f x).length = esz) (hr : ∀ w, Holds B Γ w → RdC w s esz (L.flatMap f)) (hx : L[j]? = some x) (hv : (f x)[off]? = some (c v)) (h : HG B Γ (k v)) (hj : jj = (j : Int) := by first | rfl | omega) :
    HG B Γ (Idx s jj esz fun t => Ld (t.add off) c k) := fun w hw => by
  subst hj
  have hrw := hr w hw
  have hj : j < L.length := (List.getElem?_eq_some_iff.1 hx).1
  have ho : off < esz := by rw [← hf x]; exact (List.getElem?_eq_some_iff.1 hv).1
  have hn : L.length = s.n := by
    have := hrw.len; rw [flatMap_len f esz hf] at this
    exact Nat.eq_of_mul_eq_mul_right (by omega) this
  cases ha : s.a with
  | none => have := hrw.nil ha; omega
  | some a =>
    refine ⟨a, _, ha, by omega, by omega, rfl, v, ?_, h w hw⟩
    simp only [Int.toNat_natCast]
    have h2 := flat_at f esz hf hrw ha hx off (by simpa [hf] using ho)
    rw [h2]
    simpa using hv
theorem s_idxF0 {α β : Type} (f : α → List Value) {esz : Nat} {L : List α} {s : Sl} {j : Nat} {jj : Int} {x : α} {c : β → Value} {v : β} {k : β → K} (hf : ∀ x, (f x).length = esz) (hr : ∀ w, Holds B Γ w → RdC w s esz (L.flatMap f)) (hx : L[j]? = some x) (hv : (f x)[0]? = some (c v)) (h : HG B Γ (k v)) (hj : jj = (j : Int) := by first | rfl | omega) :
    HG B Γ (Idx s jj esz fun t => Ld t c k) := fun w hw => by
  obtain ⟨a, t, h1, h2, h3, h4, h5⟩ := s_idxF1 f (off := 0) hf hr hx hv h hj w hw
  rw [add0] at h5
  exact ⟨a, t, h1, h2, h3, h4, h5⟩
theorem tx_lens {w : World} {t : TxX} (h : txRd w t) : t.rs.n = t.reads.length ∧ t.ws.n = t.writes.length ∧ t.os.n = t.ops.length :=
  ⟨by have := h.1.len; simpa using this.symm, by have := h.2.1.len; simpa using this.symm, rd_len opF_len (by omega) h.2.2.1⟩
theorem great05_hg {t : TxX} {Q : Bool → K} (hr : ∀ w, Holds B Γ w → txRd w t) (h : HG B Γ (Q (decide (GreatP t)))) : HG B Γ (ref05_Great.call (txL t).toArray Q) := fun w hw => by
  refine ref05_Great_ok _ _ _ ?_
  obtain ⟨n1, n2, n3⟩ := tx_lens (hr w hw)
  refine Sep.hg hw ?_
  clear hw w
  unfold ref05_Great
  refine s_new fun t1 => ?_
  have yes : GreatP t → HG B (blk t1 (.cells (txL t).toArray ty_api_Txn (0, 0)) :: Γ) (Q true) := fun hg => by
    rw [show decide (GreatP t) = true from decide_eq_true hg] at h
    exact s_end h
  repeat refine s_nx ?_
  refine s_ite (fun hb => ?_) fun hb => ?_
  · unfold ref05_Great.s1
    exact s_t (yes (.inl (by simp only [decide_eq_true_eq] at hb; omega)))
  repeat refine s_nx ?_
  refine s_ite (fun hb2 => ?_) fun hb2 => ?_
  · unfold ref05_Great.s1
    exact s_t (yes (.inr (.inl (by simp only [decide_eq_true_eq] at hb2; omega))))
  repeat refine s_nx ?_
  by_cases hb3 : 60 < t.os.n
  · rw [show decide ((60 : Int) < (t.os.n : Int)) = true by simp; omega]
    unfold ref05_Great.s1
    exact s_t (yes (.inr (.inr (.inl (by omega)))))
  rw [show decide ((60 : Int) < (t.os.n : Int)) = false by simp; omega]
  simp only [decide_eq_false_iff_not] at hb hb2
  unfold ref05_Great.s1
  repeat refine s_nx ?_
  refine s_loopC (α := Int) (fun x => ∃ i : Nat, x = (i : Int) ∧ i ≤ t.reads.length ∧ ∀ k ∈ t.reads.take i, k.length ≤ 200) (fun x => t.reads.length - x.toNat) ⟨0, rfl, Nat.zero_le _, by simp⟩ fun k1 x hx hk1 => ?_
  obtain ⟨i, rfl, hi, hs1⟩ := hx
  unfold ref05_Great.b2
  repeat refine s_nx ?_
  refine s_ite (fun hc => ?_) fun hc => ?_
  · have hil : i < t.reads.length := by simp only [decide_eq_true_eq] at hc; omega
    have hge : t.reads[i]? = some t.reads[i] := List.getElem?_eq_getElem hil
    have hmem : t.reads[i] ∈ t.reads := List.getElem_mem hil
    have htk : t.reads.take (i + 1) = t.reads.take i ++ [t.reads[i]] := List.take_succ_eq_append_getElem hil
    generalize t.reads[i] = x at hge hmem htk
    repeat refine s_nx ?_
    refine s_idxS (L := t.reads) (fun w hw => (hr w hw.tail).1) hge ?_
    have hsz : (bs x).size = x.length := rfl
    refine s_ite (fun hd => ?_) fun hd => ?_
    · exact yes (.inr (.inr (.inr (.inl ⟨x, hmem, by simp only [decide_eq_true_eq] at hd; omega⟩))))
    · refine s_ai ?_
      refine hk1 _ ⟨i + 1, by simp, hil, fun y hy => ?_⟩ (by omega)
      rw [htk] at hy
      rcases List.mem_append.1 hy with hy | hy
      · exact hs1 y hy
      · rw [List.mem_singleton.1 hy]; simp only [decide_eq_false_iff_not] at hd; omega
  have hil : i = t.reads.length := by simp only [decide_eq_false_iff_not] at hc; omega
  rw [hil, List.take_length] at hs1
  refine s_loopC (α := Int) (fun x => ∃ i : Nat, x = (i : Int) ∧ i ≤ t.writes.length ∧ ∀ k ∈ t.writes.take i, k.length ≤ 200) (fun x => t.writes.length - x.toNat) ⟨0, rfl, Nat.zero_le _, by simp⟩ fun k2 x hx hk2 => ?_
  obtain ⟨j, rfl, hj, hs2⟩ := hx
  unfold ref05_Great.b3
  repeat refine s_nx ?_
  refine s_ite (fun hc2 => ?_) fun hc2 => ?_
  · have hil : j < t.writes.length := by simp only [decide_eq_true_eq] at hc2; omega
    have hge : t.writes[j]? = some t.writes[j] := List.getElem?_eq_getElem hil
    have hmem : t.writes[j] ∈ t.writes := List.getElem_mem hil
    have htk : t.writes.take (j + 1) = t.writes.take j ++ [t.writes[j]] := List.take_succ_eq_append_getElem hil
    generalize t.writes[j] = x at hge hmem htk
    repeat refine s_nx ?_
    refine s_idxS (L := t.writes) (fun w hw => (hr w hw.tail).2.1) hge ?_
    have hsz : (bs x).size = x.length := rfl
    refine s_ite (fun hd => ?_) fun hd => ?_
    · exact yes (.inr (.inr (.inr (.inr (.inl ⟨x, hmem, by simp only [decide_eq_true_eq] at hd; omega⟩)))))
    · refine s_ai ?_
      refine hk2 _ ⟨j + 1, by simp, hil, fun y hy => ?_⟩ (by omega)
      rw [htk] at hy
      rcases List.mem_append.1 hy with hy | hy
      · exact hs2 y hy
      · rw [List.mem_singleton.1 hy]; simp only [decide_eq_false_iff_not] at hd; omega
  have hjl : j = t.writes.length := by simp only [decide_eq_false_iff_not] at hc2; omega
  rw [hjl, List.take_length] at hs2
  refine s_loopC (α := Int) (fun x => ∃ i : Nat, x = (i : Int) ∧ i ≤ t.ops.length ∧ ∀ y ∈ t.ops.take i, y.1.key.length ≤ 200 ∧ y.1.val.length ≤ 200) (fun x => t.ops.length - x.toNat) ⟨0, rfl, Nat.zero_le _, by simp⟩ fun k3 x hx hk3 => ?_
  obtain ⟨m, rfl, hm, hs3⟩ := hx
  unfold ref05_Great.b4
  repeat refine s_nx ?_
  refine s_ite (fun hc3 => ?_) fun hc3 => ?_
  · have hil : m < t.ops.length := by simp only [decide_eq_true_eq] at hc3; omega
    have hge : t.ops[m]? = some t.ops[m] := List.getElem?_eq_getElem hil
    have hmem : t.ops[m] ∈ t.ops := List.getElem_mem hil
    have htk : t.ops.take (m + 1) = t.ops.take m ++ [t.ops[m]] := List.take_succ_eq_append_getElem hil
    generalize t.ops[m] = x at hge hmem htk
    repeat refine s_nx ?_
    refine s_idxF1 opF (off := 1) (c := Value.string) (x := x) (v := bs x.1.key) opF_len (fun w hw => (hr w hw.tail).2.2.1) hge rfl ?_
    have hsz : (bs x.1.key).size = x.1.key.length := rfl
    unfold ref05_Great.s5
    refine s_ite (fun hd => ?_) fun hd => ?_
    · refine s_t ?_
      exact yes (.inr (.inr (.inr (.inr (.inr ⟨x, hmem, .inl (by simp only [decide_eq_true_eq] at hd; omega)⟩)))))
    · repeat refine s_nx ?_
      refine fun w hw => ?_
      have hxl : x.2.n = x.1.val.length := by have := ((hr w hw.tail).2.2.2 x hmem).len; simpa using this.symm
      refine Sep.hg hw ?_
      clear hw w
      refine s_idxF1 opF (off := 2) (c := Sl.val) (x := x) (v := x.2) opF_len (fun w hw => (hr w hw.tail).2.2.1) hge rfl ?_
      refine s_ite (fun he => ?_) fun he => ?_
      · exact yes (.inr (.inr (.inr (.inr (.inr ⟨x, hmem, .inr (by simp only [decide_eq_true_eq] at he; omega)⟩)))))
      · refine s_ai ?_
        refine hk3 _ ⟨m + 1, by simp, hil, fun y hy => ?_⟩ (by omega)
        rw [htk] at hy
        rcases List.mem_append.1 hy with hy | hy
        · exact hs3 y hy
        · rw [List.mem_singleton.1 hy]; simp only [decide_eq_false_iff_not] at hd he; omega
  · have hml : m = t.ops.length := by simp only [decide_eq_false_iff_not] at hc3; omega
    rw [hml, List.take_length] at hs3
    rw [show decide (GreatP t) = false by
      simp only [decide_eq_false_iff_not]
      rintro (g | g | g | ⟨k, hk, g⟩ | ⟨k, hk, g⟩ | ⟨x, hx, g⟩)
      · omega
      · omega
      · omega
      · have := hs1 k hk; omega
      · have := hs2 k hk; omega
      · have := hs3 x hx; omega] at h
    exact s_end h
theorem same05_hg {a b : TxX} {Q : Bool → K} (ha : ∀ w, Holds B Γ w → txRd w a) (hb : ∀ w, Holds B Γ w → txRd w b) (hl : a.reads.length < 100000000 ∧ a.writes.length < 100000000 ∧ a.ops.length < 100000000) (h : HG B Γ (Q (decide (SameP a b)))) : HG B Γ (ref05_Same.call (txL a).toArray (txL b).toArray Q) := fun w hw => by
  refine ref05_Same_ok _ _ _ _ ?_
  obtain ⟨n1, n2, n3⟩ := tx_lens (ha w hw)
  obtain ⟨m1, m2, m3⟩ := tx_lens (hb w hw)
  refine Sep.hg hw ?_
  clear hw w
  unfold ref05_Same
  refine s_new fun a2 => ?_
  refine s_new fun b3 => ?_
  have no : ¬ SameP a b → HG B (blk b3 (.cells (txL b).toArray ty_api_Txn (0, 0)) :: blk a2 (.cells (txL a).toArray ty_api_Txn (0, 0)) :: Γ) (ref05_Same.s1 Q ⟨a2, 0, none⟩ ⟨b3, 0, none⟩ true) := fun hn => by
    rw [show decide (SameP a b) = false from decide_eq_false hn] at h
    unfold ref05_Same.s1
    exact s_t (s_end h)
  repeat refine s_nx ?_
  refine s_ite (fun hc1 => no fun hs => by simp [hs.1] at hc1) fun hc1 => ?_
  repeat refine s_nx ?_
  refine s_ite (fun hc2 => no fun hs => by simp [hs.2.1] at hc2) fun hc2 => ?_
  repeat refine s_nx ?_
  refine texts05_hg (La := a.reads) (Lb := b.reads) (by omega) (fun w hw => (ha w hw.drops).1) (fun w hw => (hb w hw.drops).1) ?_
  refine s_ite (fun hc3 => no fun hs => by simp [hs.2.2.1] at hc3) fun hc3 => ?_
  repeat refine s_nx ?_
  refine texts05_hg (La := a.writes) (Lb := b.writes) (by omega) (fun w hw => (ha w hw.drops).2.1) (fun w hw => (hb w hw.drops).2.1) ?_
  refine s_ite (fun hc4 => no fun hs => by simp [hs.2.2.2.1] at hc4) fun hc4 => ?_
  repeat refine s_nx ?_
  by_cases hc5 : a.os.n = b.os.n
  rotate_left
  · rw [show decide ((a.os.n : Int) ≠ (b.os.n : Int)) = true by simp; omega]
    refine no fun hs => ?_
    have := congrArg List.length hs.2.2.2.2
    simp only [List.length_map] at this
    omega
  rw [show decide ((a.os.n : Int) ≠ (b.os.n : Int)) = false by simp; omega]
  have hab : a.kind = b.kind ∧ a.to = b.to ∧ a.reads = b.reads ∧ a.writes = b.writes := ⟨by simpa using hc1, by simpa using hc2, by simpa using hc3, by simpa using hc4⟩
  have hll : a.ops.length = b.ops.length := by omega
  unfold ref05_Same.s1
  repeat refine s_nx ?_
  refine s_loopC (α := Int) (fun x => ∃ i : Nat, x = (i : Int) ∧ i ≤ a.ops.length ∧ (a.ops.take i).map Prod.fst = (b.ops.take i).map Prod.fst) (fun x => a.ops.length - x.toNat) ⟨0, rfl, Nat.zero_le _, by simp⟩ fun k' x hx hk' => ?_
  obtain ⟨i, rfl, hi, he⟩ := hx
  unfold ref05_Same.b2
  repeat refine s_nx ?_
  refine s_ite (fun hc6 => ?_) fun hc6 => ?_
  · have hil : i < a.ops.length := by simp only [decide_eq_true_eq] at hc6; omega
    have hil2 : i < b.ops.length := by omega
    have t1 := List.take_succ_eq_append_getElem hil
    have t2 := List.take_succ_eq_append_getElem hil2
    have g1 : a.ops[i]? = some a.ops[i] := List.getElem?_eq_getElem hil
    have g2 : b.ops[i]? = some b.ops[i] := List.getElem?_eq_getElem hil2
    have m1' : a.ops[i] ∈ a.ops := List.getElem_mem hil
    have m2' : b.ops[i] ∈ b.ops := List.getElem_mem hil2
    generalize a.ops[i] = x at t1 g1 m1'
    generalize b.ops[i] = y at t2 g2 m2'
    have fin : ∀ x6 y7, HG B (blk x6 (.cells (opF x).toArray ty_api_Op (0, 0)) :: blk y7 (.cells (opF y).toArray ty_api_Op (0, 0)) :: blk b3 (.cells (txL b).toArray ty_api_Txn (0, 0)) :: blk a2 (.cells (txL a).toArray ty_api_Txn (0, 0)) :: Γ) (ref05_Same.s3 Q k' ⟨a2, 0, none⟩ ⟨b3, 0, none⟩ (i : Int) ⟨x6, 0, none⟩ ⟨y7, 0, none⟩) := fun x6 y7 => by
      have bad : x.1 ≠ y.1 → HG B (blk x6 (.cells (opF x).toArray ty_api_Op (0, 0)) :: blk y7 (.cells (opF y).toArray ty_api_Op (0, 0)) :: blk b3 (.cells (txL b).toArray ty_api_Txn (0, 0)) :: blk a2 (.cells (txL a).toArray ty_api_Txn (0, 0)) :: Γ) (ref05_Same.s4 Q k' ⟨a2, 0, none⟩ ⟨b3, 0, none⟩ (i : Int) true) := fun hne => by
        have hn : ¬ SameP a b := fun hs => by
          have := congrArg (·[i]?) hs.2.2.2.2
          simp only [List.getElem?_map, g1, g2, Option.map_some, Option.some.injEq] at this
          exact hne this
        rw [show decide (SameP a b) = false from decide_eq_false hn] at h
        unfold ref05_Same.s4
        exact s_t (s_end h)
      unfold ref05_Same.s3
      repeat refine s_nx ?_
      refine s_ite (fun hd1 => bad fun e => by simp [e] at hd1) fun hd1 => ?_
      repeat refine s_nx ?_
      rw [bs_list, bs_list]
      refine s_ite (fun hd2 => bad fun e => by simp [e] at hd2) fun hd2 => ?_
      repeat refine s_nx ?_
      refine s_ite (fun hd3 => bad fun e => by simp [e] at hd3) fun hd3 => ?_
      repeat refine s_nx ?_
      refine s_str (xs := x.1.val) (fun w hw => (ha w hw.drops).2.2.2 x m1') ?_
      repeat refine s_nx ?_
      refine s_str (xs := y.1.val) (fun w hw => (hb w hw.drops).2.2.2 y m2') ?_
      rw [bs_list, bs_list]
      by_cases hd4 : x.1.val = y.1.val
      rotate_left
      · rw [show (!(x.1.val == y.1.val)) = true by simpa using hd4]
        exact bad fun e => hd4 (by rw [e])
      rw [show (!(x.1.val == y.1.val)) = false by simpa using hd4]
      unfold ref05_Same.s4
      repeat refine s_nx ?_
      refine s_ai ?_
      refine s_end (hk' _ ⟨i + 1, by simp, hil, ?_⟩ (by omega))
      rw [t1, t2, List.map_append, List.map_append, he]
      have hxy : x.1 = y.1 := by
        obtain ⟨⟨x1, x2, x3, x4⟩, x5⟩ := x
        obtain ⟨⟨y1, y2, y3, y4⟩, y5⟩ := y
        simp only [OpM.mk.injEq] at hd4 ⊢
        exact ⟨by simpa using hd1, by simpa using hd2, hd4, by simpa using hd3⟩
      simp [hxy]
    refine s_dr ?_
    refine s_ws ?_
    repeat refine s_nx ?_
    refine s_idxNS opF opF_len (by omega) (fun w hw => (ha w hw.drops).2.2.1) (fun w hw => (ha w hw.drops).2.2.1) g1 ?_
    repeat refine s_nx ?_
    refine s_idxNS opF opF_len (by omega) (fun w hw => (hb w hw.drops).2.2.1) (fun w hw => (hb w hw.drops).2.2.1) g2 ?_
    refine s_all2 ?_ ?_
    · refine s_new fun x6 => ?_
      repeat refine s_nx ?_
      refine s_new fun y7 => ?_
      repeat refine s_nx ?_
      exact s_end (fin x6 y7)
    · refine s_new fun y7 => ?_
      repeat refine s_nx ?_
      refine s_new fun x6 => ?_
      repeat refine s_nx ?_
      exact s_end (fin x6 y7)
  · have hil : i = a.ops.length := by simp only [decide_eq_false_iff_not] at hc6; omega
    rw [hil, List.take_length, hll, List.take_length] at he
    rw [show decide (SameP a b) = true by simpa using ⟨hab.1, hab.2.1, hab.2.2.1, hab.2.2.2, he⟩] at h
    exact s_end h
end
end Go.Proofs.YtinpgiafjjibnaaGreat
/- Plain forms of functions, and that their code comes to them (package ref06). -/
namespace Go.Proofs.YtinpgiafjjibnaaGreat
open Go Go.Sep
set_option linter.unusedVariables false
set_option linter.unusedSimpArgs false
set_option maxRecDepth 100000
set_option maxHeartbeats 4000000
attribute [local irreducible] G Gp Cx Tx Ex Sx Dx Ox Ax Lx Rx Fx Bx Bj Al Do Ld LdN St StN New CallF Ar DoU Rd Rd2 Pu Cd Ite Fv CallV CallY Ans0 Ans1 Ans2 Ans3 Ans4 Ans5 Ext Dead Dr WithS Sv LdS LdNS RdS Rd2S Nn Idx IdxA IdxS Fld Bld Slc SlcS Cat All LoopK RangeF RangeJ TakeD
namespace F_IRRef06
instance at_57 : AT Tryz.prog 57 4 := ⟨by kernel_rfl⟩
instance at_59 : AT Tryz.prog 59 5 := ⟨by kernel_rfl⟩
instance cb_29 : CB Tryz.prog 29 := ⟨by kernel_rfl⟩
instance cb_37 : CB Tryz.prog 37 := ⟨by kernel_rfl⟩
instance cb_42 : CB Tryz.prog 42 := ⟨by kernel_rfl⟩
instance cb_54 : CB Tryz.prog 54 := ⟨by kernel_rfl⟩
instance ct_3 : CT Tryz.prog 3 := ⟨by kernel_rfl⟩
instance ct_39 : CT Tryz.prog 39 := ⟨by kernel_rfl⟩
instance ct_4 : CT Tryz.prog 4 := ⟨by kernel_rfl⟩
instance ct_52 : CT Tryz.prog 52 := ⟨by kernel_rfl⟩
instance ct_55 : CT Tryz.prog 55 := ⟨by kernel_rfl⟩
instance ct_9 : CT Tryz.prog 9 := ⟨by kernel_rfl⟩
instance ft_45_0 : FT Tryz.prog 45 0 0 1 := ⟨by kernel_rfl⟩
instance ft_45_1 : FT Tryz.prog 45 1 1 1 := ⟨by kernel_rfl⟩
instance ft_57_0 : FT Tryz.prog 57 0 0 1 := ⟨by kernel_rfl⟩
instance ft_57_1 : FT Tryz.prog 57 1 1 1 := ⟨by kernel_rfl⟩
instance ft_57_2 : FT Tryz.prog 57 2 2 1 := ⟨by kernel_rfl⟩
instance ft_57_3 : FT Tryz.prog 57 3 3 1 := ⟨by kernel_rfl⟩
instance ft_59_0 : FT Tryz.prog 59 0 0 1 := ⟨by kernel_rfl⟩
instance ft_59_1 : FT Tryz.prog 59 1 1 4 := ⟨by kernel_rfl⟩
instance in_3 : INT Tryz.prog 3 .i64 := ⟨by kernel_rfl⟩
instance in_5 : INT Tryz.prog 5 .u8 := ⟨by kernel_rfl⟩
instance in_55 : INT Tryz.prog 55 .u64 := ⟨by kernel_rfl⟩
instance mx : MX Tryz.prog := ⟨mixed⟩
instance pl_45 : PLT Tryz.prog 45 [(0, 1), (1, 1)] := ⟨_, Tryz.underlying45, by kernel_rfl⟩
instance pl_57 : PLT Tryz.prog 57 [(0, 1), (1, 1), (2, 1), (3, 1)] := ⟨_, Tryz.underlying57, by kernel_rfl⟩
instance pl_59 : PLT Tryz.prog 59 [(0, 1), (1, 4)] := ⟨_, Tryz.underlying59, by kernel_rfl⟩
instance sl_39 : SLT Tryz.prog 39 59 5 := ⟨by kernel_rfl⟩
instance sl_52 : SLT Tryz.prog 52 5 1 := ⟨by kernel_rfl⟩
instance st_9 : STT Tryz.prog 9 := ⟨by kernel_rfl⟩
instance sz_3 : SZ Tryz.prog 3 1 := ⟨by kernel_rfl⟩
instance sz_39 : SZ Tryz.prog 39 1 := ⟨by kernel_rfl⟩
instance sz_55 : SZ Tryz.prog 55 1 := ⟨by kernel_rfl⟩
instance sz_57 : SZ Tryz.prog 57 4 := ⟨by kernel_rfl⟩
instance un_4 : UN Tryz.prog 4 .bool := ⟨Tryz.underlying4⟩
instance zt_45 : ZT Tryz.prog 45 (.agg #[(.int .i64 0), (Sl.val ⟨none, 0, 0⟩)]) := ⟨Tryz.t45, by kernel_rfl, by kernel_rfl⟩
instance zt_5 : ZT Tryz.prog 5 (.int .u8 0) := ⟨Tryz.t5, by kernel_rfl, by kernel_rfl⟩
instance zt_57 : ZT Tryz.prog 57 (.agg #[(.bool false), (Sl.val ⟨none, 0, 0⟩), (.int .i64 0), (.int .u64 0)]) := ⟨Tryz.t57, by kernel_rfl, by kernel_rfl⟩
instance zt_59 : ZT Tryz.prog 59 (.agg #[(.string ⟨#[]⟩), (.bool false), (Sl.val ⟨none, 0, 0⟩), (.int .i64 0), (.int .u64 0)]) := ⟨Tryz.t59, by kernel_rfl, by kernel_rfl⟩
end F_IRRef06
def ref06_Same.s2 (Q : Bool → K) (X1 : Int → K) (a0_2 : Sl) (b1_2 : Sl) (i5_2 : Int) (t41_2 : Bool) : K :=
  Ite t41_2
    (Q false)
    (Ar (IntKind.wrap .i64 (i5_2 + 1)) fun t16 =>
    X1 t16)
def ref06_Same.b1 (Q : Bool → K)  (X1 : Int → K) (a0_1 : Sl) (b1_1 : Sl) (i5_1 : Int) : K :=
  Ite (decide (i5_1 < (a0_1.n : Int)))
    (Dr <|
    Idx a0_1 i5_1 5 fun t19 =>
    Idx b1_1 i5_1 5 fun t24 =>
    Ld t19 Value.string fun t21 =>
    Ld t24 Value.string fun t26 =>
    Ite (!(t21.toList == t26.toList))
      (ref06_Same.s2 Q X1 a0_1 b1_1 i5_1 true)
      (Idx a0_1 i5_1 5 fun t31 =>
      Idx b1_1 i5_1 5 fun t36 =>
      LdN (t31.add 1) 4 fun t33 =>
      LdN (t36.add 1) 4 fun t38 =>
      ref06_SameRecord.call t33 t38 fun t39 =>
      ref06_Same.s2 Q X1 a0_1 b1_1 i5_1 (!t39)))
    (Q true)
def ref06_Same (a0 : Sl) (b1 : Sl) (Q : Bool → K) : K :=
  Ite (decide ((a0.n : Int) ≠ (b1.n : Int)))
    (Q false)
    (LoopK (α := Int) (fun X x => ref06_Same.b1 Q X a0 b1 x) 0)
theorem ref06_Same_ok (a0 : Sl) (b1 : Sl) (Q : Bool → K) (w : World) (h : ref06_Same a0 b1 Q w) : ref06_Same.call a0 b1 Q w := by
  have hJ7 : ∀ (X1 : Int → K), XH 4 X1 → JH 7 fun D => ∃ (a0_2 : Sl) (b1_2 : Sl) (i5_2 : Int), D [(0, (Sl.val a0_2)), (1, (Sl.val b1_2)), (5, (.int .i64 i5_2))] (fun C => ∀ (t41_2 : Bool), C [(0, (Sl.val a0_2)), (1, (Sl.val b1_2)), (5, (.int .i64 i5_2)), (41, (.bool t41_2))] (ref06_Same.s2 Q X1 a0_2 b1_2 i5_2 t41_2)) := by intros; exact ⟨fun _ ⟨_, _, _, h⟩ => ⟨_, _, h⟩⟩
  have hD6 : DH 6 1 [22] (.s [0, 1, 2, 3, 5, 6, 7, 8, 4, 9, 10, 11] (.i (.s [12, 13, 14, 15, 16, 17, 18, 19, 20, 21, 22, 23, 24] .e) (.s [12, 13, 14, 15, 17, 18, 19, 20, 16, 21] (.a [(22, 0, .s [23, 24] .e)])))) := by intros; exact ⟨⟩
  have hL4 : ∀ (a0_1 : Sl) (b1_1 : Sl), LH 4 (fun x : Int => [(0, (Sl.val a0_1)), (1, (Sl.val b1_1)), (5, (.int .i64 x))]) (fun X x => ref06_Same.b1 Q X a0_1 b1_1 x) := by intros; exact ⟨⟩
  exact g_walk 42 h Tryz.func11
def ref06_New (regions0 : Int) (Q : (Option Addr) → K) : K :=
  New 45 #[(.int .i64 regions0), (Sl.val ⟨none, 0, 0⟩)] fun t5 =>
  Q (some t5)
theorem ref06_New_ok (regions0 : Int) (Q : (Option Addr) → K) (w : World) (h : ref06_New regions0 Q w) : ref06_New.call regions0 Q w := by
  exact g_walk 6 h Tryz.func20
def ref06_Store_Put (s0 : (Option Addr)) (key1 : ByteArray) (value2 : Sl) (Q : K) : K :=
  ref06_Store_Get.call s0 key1 fun t9 =>
  New 57 #[(.bool false), (Sl.val ⟨none, 0, 0⟩), (.int .i64 0), (.int .u64 0)] fun r6 =>
  StN r6 4 t9 <|
  Dr <| WithS fun S =>
  LdS S (r6.add 2) (Value.int .i64) fun t16 =>
  LdS S (r6.add 3) (Value.int .u64) fun t18 =>
  New 5 #[] fun t12 =>
  Sv S <|
  Do Tryz.prog (Builtin.append_ #[52, 52] 52 #[(Sl.val (Sl.mk (some t12) 0 0)), (Sl.val value2)]) Sl.val fun t14 =>
  Sv S <|
  ref06_Store_Set.call s0 key1 #[(.bool true), (Sl.val t14), (.int .i64 t16), (.int .u64 t18)] <|
  Q
theorem ref06_Store_Put_ok (s0 : (Option Addr)) (key1 : ByteArray) (value2 : Sl) (Q : K) (w : World) (h : ref06_Store_Put s0 key1 value2 Q w) : ref06_Store_Put.call s0 key1 value2 Q w := by
  have hD1 : DH 1 2 [10] (.s [0, 1, 3, 5, 7, 6, 8] (.a [(2, 1, .a [(4, 1, .s [9] (.a [(10, 0, .e)]))])])) := by intros; exact ⟨⟩
  exact g_walk 21 h Tryz.func22
def ref06_Store_Move.s1 (Q : Int → K)  (s0_1 : (Option Addr)) (key1_1 : ByteArray) (home2_1 : Int) (t17_1 : Bool) : K :=
  Ite t17_1
    (Q 1)
    (ref06_Store_Get.call s0_1 key1_1 fun t20 =>
    New 57 #[(.bool false), (Sl.val ⟨none, 0, 0⟩), (.int .i64 0), (.int .u64 0)] fun r7 =>
    StN r7 4 t20 <|
    Ld (r7.add 3) (Value.int .u64) fun t22 =>
    Ite (decide (t22 = 18446744073709551615))
      (Q 111)
      (St (r7.add 2) (.int .i64 home2_1) <|
      Ld (r7.add 3) (Value.int .u64) fun t27 =>
      Ar (IntKind.wrap .u64 (t27 + 1)) fun t28 =>
      St (r7.add 3) (.int .u64 t28) <|
      LdN r7 4 fun t32 =>
      ref06_Store_Set.call s0_1 key1_1 t32 <|
      Q 0))
def ref06_Store_Move (s0 : (Option Addr)) (key1 : ByteArray) (home2 : Int) (Q : Int → K) : K :=
  Ite (decide (home2 < 0))
    (ref06_Store_Move.s1 Q s0 key1 home2 true)
    (Nn s0 fun t13 =>
    Ld t13 (Value.int .i64) fun t15 =>
    ref06_Store_Move.s1 Q (some t13) key1 home2 (decide (t15 ≤ home2)))
theorem ref06_Store_Move_ok (s0 : (Option Addr)) (key1 : ByteArray) (home2 : Int) (Q : Int → K) (w : World) (h : ref06_Store_Move s0 key1 home2 Q w) : ref06_Store_Move.call s0 key1 home2 Q w := by
  have hJ2 : JH 2 fun D => ∃ (s0_1 : (Option Addr)) (key1_1 : ByteArray) (home2_1 : Int), D [(0, (.pointer s0_1)), (1, (.string key1_1)), (2, (.int .i64 home2_1))] (fun C => ∀ (t17_1 : Bool), C [(0, (.pointer s0_1)), (1, (.string key1_1)), (2, (.int .i64 home2_1)), (17, (.bool t17_1))] (ref06_Store_Move.s1 Q s0_1 key1_1 home2_1 t17_1)) := by intros; exact ⟨fun _ ⟨_, _, _, h⟩ => ⟨_, _, h⟩⟩
  exact g_walk 34 h Tryz.func24
def ref06_SameRecord.s1 (Q : Bool → K)  (t4_1 : Bool) : K :=
  Q t4_1
def ref06_SameRecord (a0 : (Array Value)) (b1 : (Array Value)) (Q : Bool → K) : K :=
  New 57 a0 fun a2 =>
  New 57 b1 fun b3 =>
  Ld a2 Value.bool fun t6 =>
  Ld b3 Value.bool fun t8 =>
  Ite (t6 == t8)
    (Ld (a2.add 1) Sl.val fun t12 =>
    Rd Tryz.prog (convert 52 9 (Sl.val t12)) Value.string fun t13 =>
    Ld (b3.add 1) Sl.val fun t15 =>
    Rd Tryz.prog (convert 52 9 (Sl.val t15)) Value.string fun t16 =>
    Ite (t13.toList == t16.toList)
      (Ld (a2.add 2) (Value.int .i64) fun t21 =>
      Ld (b3.add 2) (Value.int .i64) fun t23 =>
      Ite (decide (t21 = t23))
        (Ld (a2.add 3) (Value.int .u64) fun t28 =>
        Ld (b3.add 3) (Value.int .u64) fun t30 =>
        ref06_SameRecord.s1 Q (decide (t28 = t30)))
        (ref06_SameRecord.s1 Q false))
      (ref06_SameRecord.s1 Q false))
    (ref06_SameRecord.s1 Q false)
theorem ref06_SameRecord_ok (a0 : (Array Value)) (b1 : (Array Value)) (Q : Bool → K) (w : World) (h : ref06_SameRecord a0 b1 Q w) : ref06_SameRecord.call a0 b1 Q w := by
  have hJ1000001 : JH 1000001 fun D => D [] (fun C => ∀ (t4_1 : Bool), C [(4, (.bool t4_1))] (ref06_SameRecord.s1 Q t4_1)) := by intros; exact ⟨fun _ h => ⟨_, _, h⟩⟩
  exact g_walk 33 h Tryz.func29
def ref06_Store_Copy (s0 : (Option Addr)) (Q : (Option Addr) → K) : K :=
  Dr <| WithS fun S =>
  Nn s0 fun t4 =>
  LdS S t4 (Value.int .i64) fun t6 =>
  LdS S (t4.add 1) Sl.val fun t11 =>
  New 59 #[] fun t7 =>
  Sv S <|
  Do Tryz.prog (Builtin.append_ #[39, 39] 39 #[(Sl.val (Sl.mk (some t7) 0 0)), (Sl.val t11)]) Sl.val fun t12 =>
  Sv S <|
  New 45 #[(.int .i64 t6), (Sl.val t12)] fun t14 =>
  Q (some t14)
theorem ref06_Store_Copy_ok (s0 : (Option Addr)) (Q : (Option Addr) → K) (w : World) (h : ref06_Store_Copy s0 Q w) : ref06_Store_Copy.call s0 Q w := by
  have hD1 : DH 1 2 [11] (.s [0, 1, 2, 5, 6, 7, 3, 8] (.a [(4, 1, .a [(9, 1, .s [10] (.a [(11, 0, .s [12] .e)]))])])) := by intros; exact ⟨⟩
  exact g_walk 15 h Tryz.func36
def ref06_Store_Get.b1 (Q : (Array Value) → K)  (X1 : Int → K) (s0_1 : (Option Addr)) (key1_1 : ByteArray) (t4_1 : Addr) (i5_1 : Int) : K :=
  Nn s0_1 fun t8 =>
  Ld (t8.add 1) Sl.val fun t10 =>
  Ite (decide (i5_1 < (t10.n : Int)))
    (Ld (t8.add 1) Sl.val fun t18 =>
    Idx t18 i5_1 5 fun t20 =>
    Ld t20 Value.string fun t22 =>
    Ite (t22.toList == key1_1.toList)
      (Ld (t8.add 1) Sl.val fun t28 =>
      Idx t28 i5_1 5 fun t30 =>
      LdN (t30.add 1) 4 fun t32 =>
      StN t4_1 4 t32 <|
      LdN t4_1 4 fun r0 =>
      Q r0)
      (Ar (IntKind.wrap .i64 (i5_1 + 1)) fun t14 =>
      X1 t14))
    (Ld t8 (Value.int .i64) fun t37 =>
    ref06_Default.call key1_1 t37 fun t38 =>
    StN t4_1 4 #[(.bool false), (Sl.val ⟨none, 0, 0⟩), (.int .i64 t38), (.int .u64 0)] <|
    LdN t4_1 4 fun r0 =>
    Q r0)
def ref06_Store_Get (s0 : (Option Addr)) (key1 : ByteArray) (Q : (Array Value) → K) : K :=
  New 57 #[(.bool false), (Sl.val ⟨none, 0, 0⟩), (.int .i64 0), (.int .u64 0)] fun t4 =>
  LoopK (α := Int) (fun X x => ref06_Store_Get.b1 Q X s0 key1 t4 x) 0
theorem ref06_Store_Get_ok (s0 : (Option Addr)) (key1 : ByteArray) (Q : (Array Value) → K) (w : World) (h : ref06_Store_Get s0 key1 Q w) : ref06_Store_Get.call s0 key1 Q w := by
  have hL2 : ∀ (s0_1 : (Option Addr)) (key1_1 : ByteArray) (t4_1 : Addr), LH 2 (fun x : Int => [(0, (.pointer s0_1)), (1, (.string key1_1)), (4, (.pointer (some t4_1))), (5, (.int .i64 x))]) (fun X x => ref06_Store_Get.b1 Q X s0_1 key1_1 t4_1 x) := by intros; exact ⟨⟩
  exact g_walk 40 h Tryz.func37
def ref06_Store_Set.s3 (Q : K) (X2 : Sl → Bool → Int → K) (s0_3 : Addr) (key1_3 : ByteArray) (r5_3 : Addr) (out6_3 : Sl) (keep7_3 : Bool) (i8_3 : Int) : K :=
  Ar (IntKind.wrap .i64 (i8_3 + 1)) fun t25 =>
  X2 out6_3 keep7_3 t25
def ref06_Store_Set.s4 (Q : K) (X2 : Sl → Bool → Int → K) (s0_4 : Addr) (key1_4 : ByteArray) (r5_4 : Addr) (out6_4 : Sl) (keep7_4 : Bool) (i8_4 : Int) : K :=
  Ld (s0_4.add 1) Sl.val fun t48 =>
  Idx t48 i8_4 5 fun t50 =>
  Ld t50 Value.string fun t52 =>
  Ite (!(t52.toList == key1_4.toList))
    (Ld (s0_4.add 1) Sl.val fun t59 =>
    Idx t59 i8_4 5 fun t61 =>
    LdN t61 5 fun t62 =>
    Bld #[(.string ⟨#[]⟩), (.bool false), (Sl.val ⟨none, 0, 0⟩), (.int .i64 0), (.int .u64 0)] (fun i => some (i * 5, 5)) [(0, (.agg t62))] fun ct63 =>
    New 59 ct63 fun t63 =>
    Do Tryz.prog (Builtin.append_ #[39, 39] 39 #[(Sl.val out6_4), (Sl.val (Sl.mk (some t63) 1 1))]) Sl.val fun t64 =>
    ref06_Store_Set.s3 Q X2 s0_4 key1_4 r5_4 t64 keep7_4 i8_4)
    (ref06_Store_Set.s3 Q X2 s0_4 key1_4 r5_4 out6_4 keep7_4 i8_4)
def ref06_Store_Set.s5 (Q : K) (X2 : Sl → Bool → Int → K) (s0_5 : Addr) (key1_5 : ByteArray) (r5_5 : Addr) (out6_5 : Sl) (keep7_5 : Bool) (i8_5 : Int) (t38_5 : Bool) : K :=
  Ite t38_5
    (LdN r5_5 4 fun t41 =>
    Bld #[(.string ⟨#[]⟩), (.bool false), (Sl.val ⟨none, 0, 0⟩), (.int .i64 0), (.int .u64 0)] ([(0, 1), (1, 4)][·]?) [(0, (.string key1_5)), (1, (.agg t41))] fun t42 =>
    Bld #[(.string ⟨#[]⟩), (.bool false), (Sl.val ⟨none, 0, 0⟩), (.int .i64 0), (.int .u64 0)] (fun i => some (i * 5, 5)) [(0, (.agg t42))] fun ct43 =>
    New 59 ct43 fun t43 =>
    Do Tryz.prog (Builtin.append_ #[39, 39] 39 #[(Sl.val out6_5), (Sl.val (Sl.mk (some t43) 1 1))]) Sl.val fun t44 =>
    ref06_Store_Set.s4 Q X2 s0_5 key1_5 r5_5 t44 false i8_5)
    (ref06_Store_Set.s4 Q X2 s0_5 key1_5 r5_5 out6_5 keep7_5 i8_5)
def ref06_Store_Set.s6 (Q : K) (X2 : Sl → Bool → Int → K) (s0_6 : Addr) (out6_6 : Sl) : K :=
  St (s0_6.add 1) (Sl.val out6_6) <|
  Q
def ref06_Store_Set.b2 (Q : K)  (X2 : Sl → Bool → Int → K) (s0_2 : (Option Addr)) (key1_2 : ByteArray) (r5_2 : Addr) (out6_2 : Sl) (keep7_2 : Bool) (i8_2 : Int) : K :=
  Nn s0_2 fun t19 =>
  Ld (t19.add 1) Sl.val fun t21 =>
  Ite (decide (i8_2 < (t21.n : Int)))
    (Ite keep7_2
      (Ld (t19.add 1) Sl.val fun t31 =>
      Idx t31 i8_2 5 fun t33 =>
      Ld t33 Value.string fun t35 =>
      ref06_Store_Set.s5 Q X2 t19 key1_2 r5_2 out6_2 true i8_2 (!(Op.bytesLess t35.toList key1_2.toList || t35.toList == key1_2.toList)))
      (ref06_Store_Set.s5 Q X2 t19 key1_2 r5_2 out6_2 false i8_2 false))
    (Ite keep7_2
      (LdN r5_2 4 fun t68 =>
      Bld #[(.string ⟨#[]⟩), (.bool false), (Sl.val ⟨none, 0, 0⟩), (.int .i64 0), (.int .u64 0)] ([(0, 1), (1, 4)][·]?) [(0, (.string key1_2)), (1, (.agg t68))] fun t69 =>
      Bld #[(.string ⟨#[]⟩), (.bool false), (Sl.val ⟨none, 0, 0⟩), (.int .i64 0), (.int .u64 0)] (fun i => some (i * 5, 5)) [(0, (.agg t69))] fun ct70 =>
      New 59 ct70 fun t70 =>
      Do Tryz.prog (Builtin.append_ #[39, 39] 39 #[(Sl.val out6_2), (Sl.val (Sl.mk (some t70) 1 1))]) Sl.val fun t71 =>
      ref06_Store_Set.s6 Q X2 t19 t71)
      (ref06_Store_Set.s6 Q X2 t19 out6_2))
def ref06_Store_Set.s1 (Q : K)  (s0_1 : (Option Addr)) (key1_1 : ByteArray) (r5_1 : Addr) (out6_1 : Sl) (keep7_1 : Bool) : K :=
  LoopK (α := Sl × Bool × Int) (fun X x => ref06_Store_Set.b2 Q (fun out6_2 keep7_2 i8_2 => X (out6_2, keep7_2, i8_2)) s0_1 key1_1 r5_1 x.1 x.2.1 x.2.2) (out6_1, keep7_1, 0)
def ref06_Store_Set (s0 : (Option Addr)) (key1 : ByteArray) (r2 : (Array Value)) (Q : K) : K :=
  New 57 r2 fun r5 =>
  Dr <| WithS fun S =>
  LdS S r5 Value.bool fun t11 =>
  Ite t11
    (New 59 #[] fun t9 =>
    Sv S <|
    ref06_Store_Set.s1 Q s0 key1 r5 (Sl.mk (some t9) 0 0) true)
    (LdS S (r5.add 3) (Value.int .u64) fun t14 =>
    New 59 #[] fun t9 =>
    Sv S <|
    ref06_Store_Set.s1 Q s0 key1 r5 (Sl.mk (some t9) 0 0) (decide ((0 : Int) < t14)))
theorem ref06_Store_Set_ok (s0 : (Option Addr)) (key1 : ByteArray) (r2 : (Array Value)) (Q : K) (w : World) (h : ref06_Store_Set s0 key1 r2 Q w) : ref06_Store_Set.call s0 key1 r2 Q w := by
  have hJ4 : ∀ (X2 : (Sl × Bool × Int) → K), XH 3 X2 → JH 4 fun D => ∃ (s0_3 : Addr) (key1_3 : ByteArray) (r5_3 : Addr) (i8_3 : Int), D [(0, (.pointer (some s0_3))), (1, (.string key1_3)), (5, (.pointer (some r5_3))), (8, (.int .i64 i8_3))] (fun C => ∀ (out6_3 : Sl) (keep7_3 : Bool), C [(0, (.pointer (some s0_3))), (1, (.string key1_3)), (5, (.pointer (some r5_3))), (6, (Sl.val out6_3)), (7, (.bool keep7_3)), (8, (.int .i64 i8_3))] (ref06_Store_Set.s3 Q (fun out6_2 keep7_2 i8_2 => X2 (out6_2, keep7_2, i8_2)) s0_3 key1_3 r5_3 out6_3 keep7_3 i8_3)) := by intros; exact ⟨fun _ ⟨_, _, _, _, h⟩ => ⟨_, _, h⟩⟩
  have hJ8 : ∀ (X2 : (Sl × Bool × Int) → K), XH 3 X2 → JH 8 fun D => ∃ (s0_4 : Addr) (key1_4 : ByteArray) (r5_4 : Addr) (i8_4 : Int), D [(0, (.pointer (some s0_4))), (1, (.string key1_4)), (5, (.pointer (some r5_4))), (8, (.int .i64 i8_4))] (fun C => ∀ (out6_4 : Sl) (keep7_4 : Bool), C [(0, (.pointer (some s0_4))), (1, (.string key1_4)), (5, (.pointer (some r5_4))), (6, (Sl.val out6_4)), (7, (.bool keep7_4)), (8, (.int .i64 i8_4))] (ref06_Store_Set.s4 Q (fun out6_2 keep7_2 i8_2 => X2 (out6_2, keep7_2, i8_2)) s0_4 key1_4 r5_4 out6_4 keep7_4 i8_4)) := by intros; exact ⟨fun _ ⟨_, _, _, _, h⟩ => ⟨_, _, h⟩⟩
  have hJ6 : ∀ (X2 : (Sl × Bool × Int) → K), XH 3 X2 → JH 6 fun D => ∃ (s0_5 : Addr) (key1_5 : ByteArray) (r5_5 : Addr) (out6_5 : Sl) (i8_5 : Int), D [(0, (.pointer (some s0_5))), (1, (.string key1_5)), (5, (.pointer (some r5_5))), (6, (Sl.val out6_5)), (8, (.int .i64 i8_5))] (fun C => ∀ (keep7_5 : Bool) (t38_5 : Bool), C [(0, (.pointer (some s0_5))), (1, (.string key1_5)), (5, (.pointer (some r5_5))), (6, (Sl.val out6_5)), (7, (.bool keep7_5)), (8, (.int .i64 i8_5)), (38, (.bool t38_5))] (ref06_Store_Set.s5 Q (fun out6_2 keep7_2 i8_2 => X2 (out6_2, keep7_2, i8_2)) s0_5 key1_5 r5_5 out6_5 keep7_5 i8_5 t38_5)) := by intros; exact ⟨fun _ ⟨_, _, _, _, _, h⟩ => ⟨_, _, h⟩⟩
  have hJ12 : ∀ (X2 : (Sl × Bool × Int) → K), XH 3 X2 → JH 12 fun D => ∃ (s0_6 : Addr), D [(0, (.pointer (some s0_6)))] (fun C => ∀ (out6_6 : Sl), C [(0, (.pointer (some s0_6))), (6, (Sl.val out6_6))] (ref06_Store_Set.s6 Q (fun out6_2 keep7_2 i8_2 => X2 (out6_2, keep7_2, i8_2)) s0_6 out6_6)) := by intros; exact ⟨fun _ ⟨_, h⟩ => ⟨_, _, h⟩⟩
  have hL3 : ∀ (s0_2 : (Option Addr)) (key1_2 : ByteArray) (r5_2 : Addr), LH 3 (fun x : Sl × Bool × Int => [(0, (.pointer s0_2)), (1, (.string key1_2)), (5, (.pointer (some r5_2))), (6, (Sl.val x.1)), (7, (.bool x.2.1)), (8, (.int .i64 x.2.2))]) (fun X x => ref06_Store_Set.b2 Q (fun out6_2 keep7_2 i8_2 => X (out6_2, keep7_2, i8_2)) s0_2 key1_2 r5_2 x.1 x.2.1 x.2.2) := by intros; exact ⟨⟩
  have hJ2 : JH 2 fun D => ∃ (s0_1 : (Option Addr)) (key1_1 : ByteArray) (r5_1 : Addr), D [(0, (.pointer s0_1)), (1, (.string key1_1)), (5, (.pointer (some r5_1)))] (fun C => ∀ (out6_1 : Sl) (keep7_1 : Bool), C [(0, (.pointer s0_1)), (1, (.string key1_1)), (5, (.pointer (some r5_1))), (6, (Sl.val out6_1)), (7, (.bool keep7_1))] (ref06_Store_Set.s1 Q s0_1 key1_1 r5_1 out6_1 keep7_1)) := by intros; exact ⟨fun _ ⟨_, _, _, h⟩ => ⟨_, _, h⟩⟩
  have hD1 : DH 1 2 [] (.s [1, 2, 3] (.i (.s [4, 5, 6, 7] (.a [(0, 1, .s [8, 9] .e)])) (.s [4, 5, 6, 7] (.a [(0, 1, .s [8, 9] .e)])))) := by intros; exact ⟨⟩
  exact g_walk 76 h Tryz.func42
def ref06_Default.b1 (Q : Int → K)  (X1 : Int → Int → K) (key0_1 : ByteArray) (regions1_1 : Int) (sum5_1 : Int) (i6_1 : Int) : K :=
  Ite (decide (i6_1 < (key0_1.size : Int)))
    (IdxS key0_1 i6_1 fun t18 =>
    Ar (IntKind.wrap .u64 t18) fun t19 =>
    Ar (IntKind.wrap .u64 (sum5_1 + t19)) fun t20 =>
    Ar (IntKind.wrap .i64 (i6_1 + 1)) fun t14 =>
    X1 t20 t14)
    (Ar (IntKind.wrap .u64 regions1_1) fun t23 =>
    Cd (t23 ≠ 0) <|
    Ar (Int.tmod sum5_1 t23) fun t24 =>
    Ar (IntKind.wrap .i64 t24) fun t25 =>
    Q t25)
def ref06_Default (key0 : ByteArray) (regions1 : Int) (Q : Int → K) : K :=
  Ite (decide (regions1 < 1))
    (Q 0)
    (LoopK (α := Int × Int) (fun X x => ref06_Default.b1 Q (fun sum5_1 i6_1 => X (sum5_1, i6_1)) key0 regions1 x.1 x.2) (0, 0))
theorem ref06_Default_ok (key0 : ByteArray) (regions1 : Int) (Q : Int → K) (w : World) (h : ref06_Default key0 regions1 Q w) : ref06_Default.call key0 regions1 Q w := by
  have hL5 : ∀ (key0_1 : ByteArray) (regions1_1 : Int), LH 5 (fun x : Int × Int => [(0, (.string key0_1)), (1, (.int .i64 regions1_1)), (5, (.int .u64 x.1)), (6, (.int .i64 x.2))]) (fun X x => ref06_Default.b1 Q (fun sum5_1 i6_1 => X (sum5_1, i6_1)) key0_1 regions1_1 x.1 x.2) := by intros; exact ⟨⟩
  exact g_walk 26 h Tryz.func54
def ref06_Store_Delete (s0 : (Option Addr)) (key1 : ByteArray) (Q : K) : K :=
  ref06_Store_Get.call s0 key1 fun t7 =>
  New 57 #[(.bool false), (Sl.val ⟨none, 0, 0⟩), (.int .i64 0), (.int .u64 0)] fun r4 =>
  StN r4 4 t7 <|
  Ld (r4.add 2) (Value.int .i64) fun t11 =>
  Ld (r4.add 3) (Value.int .u64) fun t13 =>
  ref06_Store_Set.call s0 key1 #[(.bool false), (Sl.val ⟨none, 0, 0⟩), (.int .i64 t11), (.int .u64 t13)] <|
  Q
theorem ref06_Store_Delete_ok (s0 : (Option Addr)) (key1 : ByteArray) (Q : K) (w : World) (h : ref06_Store_Delete s0 key1 Q w) : ref06_Store_Delete.call s0 key1 Q w := by
  exact g_walk 16 h Tryz.func55
end Go.Proofs.YtinpgiafjjibnaaGreat
/- The document's store. -/
namespace Go.Proofs.YtinpgiafjjibnaaGreat
open Go Go.Sep Go.Sep.Bt
set_option linter.unusedSimpArgs false
set_option linter.unusedVariables false
set_option maxRecDepth 100000

abbrev rowF6 (x : RecX) : List Value := [.string x.1, .bool x.2.1.has, x.2.2.val, .int .i64 x.2.1.home, .int .u64 x.2.1.cnt]
theorem rowF6_len (x : RecX) : (rowF6 x).length = 5 := rfl
theorem rowF6_fl (L : List RecX) : ∀ v ∈ L.flatMap rowF6, flatV v = true := fun v hv => by
  obtain ⟨x, _, hx⟩ := List.mem_flatMap.1 hv
  simp only [rowF6, List.mem_cons, List.not_mem_nil, or_false] at hx
  rcases hx with rfl | rfl | rfl | rfl | rfl <;> rfl
/-- Values that are never written. -/
abbrev Pool := List (Sl × List UInt8)
abbrev poolR (P : Pool) : HProp := Sep.stars (P.map fun p => Bytes ty_uint8 p.1 p.2)
def inP (P : Pool) (s : Sl) (xs : List UInt8) : Prop := (xs = [] ∧ s.n = 0) ∨ (s, xs) ∈ P
theorem inP.mono {P P' : Pool} {s : Sl} {xs : List UInt8} (h : inP P s xs) (hP : ∀ x ∈ P, x ∈ P') : inP P' s xs := h.imp id (hP _)
theorem rd_empty {w : World} {s : Sl} (h : s.n = 0) : RdB w s [] := ⟨by simp [h], fun _ => h, fun a _ i hi => by simp at hi⟩
theorem stars_mem' {B w : World} {Γ : List HProp} {α : Type} {F : α → HProp} {l : List α} {x : α} (hx : x ∈ l) (h : Holds B (Sep.stars (l.map F) :: Γ) w) : ∃ Δ, Holds B (F x :: Δ) w := by
  obtain ⟨A, C, rfl⟩ := List.append_of_mem hx
  exact ⟨_, ((Holds.flat.1 h).perm mid_perm).perm List.perm_middle⟩
theorem inP.rd {B w : World} {Γ : List HProp} {P : Pool} {s : Sl} {xs : List UInt8} (h : inP P s xs) (hw : Holds B (poolR P :: Γ) w) : RdB w s xs := by
  rcases h with ⟨rfl, h⟩ | h
  · exact rd_empty h
  · obtain ⟨Δ, h2⟩ := stars_mem' h hw
    exact h2.rdC List.mem_cons_self
theorem homeOf_sum (l : List UInt8) {n : Nat} (hn : 1 ≤ n) : homeOf l n = l.foldl (fun s b => s + b.toNat) 0 % n := by
  unfold homeOf
  have key : ∀ (l : List UInt8) (a b : Nat), a = b % n → l.foldl (fun s b => (s + b.toNat) % n) a = l.foldl (fun s b => s + b.toNat) b % n := by
    intro l
    induction l with
    | nil => intro a b h; exact h
    | cons x l ih => intro a b h; exact ih _ _ (by show (a + x.toNat) % n = (b + x.toNat) % n; rw [h, Nat.mod_add_mod])
  exact key l 0 0 (by simp)
theorem sum_le (l : List UInt8) (a : Nat) : l.foldl (fun s b => s + b.toNat) a ≤ a + 255 * l.length := by
  induction l generalizing a with
  | nil => simp
  | cons x l ih =>
    have h1 := ih (a + x.toNat)
    have h2 : x.toNat < 256 := x.toNat_lt
    simp only [List.foldl_cons, List.length_cons]; omega
/-! ### rows, a key set -/
def set6 {ν : Type} (k : ByteArray) (r : ν) : Bool → List (ByteArray × ν) → List (ByteArray × ν)
  | keep, [] => if keep then [(k, r)] else []
  | keep, x :: M => (if keep && decide (0 < cmpS x.1 k) then [(k, r)] else []) ++ (if x.1 = k then [] else [x]) ++ set6 k r (keep && !decide (0 < cmpS x.1 k)) M
theorem set6_map {k : ByteArray} {r : Rec} {s : Sl} : ∀ (keep : Bool) (X : List RecX), (set6 k (r, s) keep X).map recM = set6 k r keep (X.map recM)
  | keep, [] => by cases keep <;> rfl
  | keep, x :: X => by
    rw [set6, List.map_cons, set6, List.map_append, List.map_append, set6_map]
    congr 1
    congr 1
    · split <;> rfl
    · by_cases h : x.1 = k <;> simp [h]
theorem set6_none {k : ByteArray} {r : Rec} : ∀ {M : Recs}, set6 k r false M = delM M k
  | [] => rfl
  | x :: M => by
    rw [set6, Bool.false_and, Bool.false_and, set6_none]
    unfold delM
    by_cases h : x.1 = k
    · simp [h]
    · simp [h]
theorem set6_some {k : ByteArray} {r : Rec} : ∀ {M : Recs}, Srt cmpS M → set6 k r true M = putM M k r
  | [], _ => rfl
  | x :: M, hs => by
    have hs2 := List.pairwise_cons.1 hs
    rw [set6, putM]
    simp only [Bool.true_and]
    by_cases h1 : cmpS x.1 k < 0
    · have h2 : ¬ 0 < cmpS x.1 k := by omega
      have h3 : x.1 ≠ k := ne_of_lt h1
      rw [if_pos h1]
      simp only [h2, decide_false, Bool.false_eq_true, if_false, h3, List.nil_append, Bool.not_false]
      rw [set6_some hs2.2]; rfl
    · rw [if_neg h1]
      by_cases h3 : x.1 = k
      · have h2 : ¬ 0 < cmpS x.1 k := by rw [cmpS_zero.2 h3]; omega
        have h2' : ¬ 0 < cmpS k k := by rw [cmpS_zero.2 rfl]; omega
        rw [if_pos h3]
        simp only [h2, h2', decide_false, Bool.false_eq_true, if_false, h3, if_true, List.nil_append, Bool.not_false]
        cases M with
        | nil => rfl
        | cons y M =>
          have hy : 0 < cmpS y.1 k := by rw [← btS_ok.sw, ← h3]; exact hs2.1 y List.mem_cons_self
          have hyk : y.1 ≠ k := fun e => by rw [cmpS_zero.2 e] at hy; omega
          rw [set6]
          simp only [hy, decide_true, Bool.and_true, if_true, hyk, if_false, Bool.not_true, Bool.and_false]
          rw [set6_none, delM_none fun z hz => by
            have h5 : cmpS x.1 z.1 < 0 := hs2.1 z (List.mem_cons_of_mem _ hz)
            rw [h3] at h5; exact Ne.symm (ne_of_lt h5)]
          rfl
      · have h2 : 0 < cmpS x.1 k := by
          rcases Int.lt_trichotomy (cmpS x.1 k) 0 with h | h | h
          · exact absurd h h1
          · exact absurd (cmpS_zero.1 h) h3
          · exact h
        rw [if_neg h3]
        simp only [h2, decide_true, if_true, h3, if_false, Bool.not_true]
        rw [set6_none, delM_none fun z hz => by
          have h5 : cmpS x.1 z.1 < 0 := hs2.1 z hz
          have h6 : cmpS k x.1 < 0 := btS_ok.sw.2 h2
          exact Ne.symm (ne_of_lt (btS_ok.tr h6 h5))]
        rfl
theorem putM_srt {M : Recs} {k : ByteArray} {r : Rec} (hs : Srt cmpS M) : Srt cmpS (putM M k r) := by
  induction M with
  | nil => exact List.pairwise_singleton _ _
  | cons x M ih =>
    have hs2 := List.pairwise_cons.1 hs
    unfold putM
    split
    · rename_i h1
      refine List.pairwise_cons.2 ⟨fun y hy => ?_, ih hs2.2⟩
      rcases putM_mem hy with rfl | hy
      · exact h1
      · exact hs2.1 y hy
    · split
      · rename_i h1 h3
        exact List.pairwise_cons.2 ⟨fun y hy => by rw [← h3]; exact hs2.1 y hy, hs2.2⟩
      · rename_i h1 h3
        have h2 : cmpS k x.1 < 0 := by
          rw [btS_ok.sw]
          rcases Int.lt_trichotomy (cmpS x.1 k) 0 with h | h | h
          · exact absurd h h1
          · exact absurd (cmpS_zero.1 h) h3
          · exact h
        refine List.pairwise_cons.2 ⟨fun y hy => ?_, hs⟩
        rcases List.mem_cons.1 hy with rfl | hy
        · exact h2
        · exact btS_ok.tr h2 (hs2.1 y hy)
theorem setM_srt {M : Recs} {k : ByteArray} {r : Rec} (hs : Srt cmpS M) : Srt cmpS (setM M k r) := by
  unfold setM
  split
  · exact List.Pairwise.sublist List.filter_sublist hs
  · exact putM_srt hs

/-- The document's store. -/
structure R6 (n : Nat) (M : Recs) (P : Pool) (X : List RecX) : Prop where
  mod : M = X.map recM
  ok : ∀ x ∈ X, x.2.1.ok ∧ inP P x.2.2 x.2.1.val
  n1 : 1 ≤ n
  n3 : n ≤ 3
  srt : Srt cmpS M
abbrev ref6L (st n : Nat) (rs : Sl) (X : List RecX) (Γ : List HProp) : List HProp := blk st (.cells [.int .i64 n, rs.val].toArray ty_argosyref06_Store (0, 0)) :: SlC ty_api_Row 5 rs (X.flatMap rowF6) :: Γ
def Ref6 (st n : Nat) (M : Recs) (P : Pool) : HProp := ex fun rs => ex fun X : List RecX => Sep.stars (pur (R6 n M P X) :: ref6L st n rs X [])
section
variable {B : World} {Γ Δ : List HProp} {k : K} {st n : Nat} {M : Recs} {P : Pool}
instance (priority := high) own_ref6 : Sep.Own st (Ref6 st n M P :: Γ) (Ref6 st n M P) Γ := ⟨.refl _⟩
theorem s_ref6 (h : ∀ rs X, R6 n M P X → HG B (ref6L st n rs X Γ) k) : HG B (Ref6 st n M P :: Γ) k :=
  s_ex fun rs => s_ex fun X => s_flat <| s_pur fun h1 => h rs X h1
theorem s_mkRef6 {rs : Sl} {X : List RecX} (h1 : R6 n M P X) (h : HG B (Ref6 st n M P :: Γ) k) : HG B (ref6L st n rs X Γ) k := fun w hw => by
  refine h w ?_
  have h3 : Holds B (Sep.stars (pur (R6 n M P X) :: ref6L st n rs X []) :: Γ) w := Holds.flat.2 (Holds.pur.2 ⟨h1, hw⟩)
  exact h3.imp fun g hg => ⟨rs, X, hg⟩
theorem s_ref6P {P' : Pool} (hP : ∀ x ∈ P, x ∈ P') (h : HG B (Ref6 st n M P' :: Γ) k) : HG B (Ref6 st n M P :: Γ) k :=
  s_ref6 fun rs X h1 => s_mkRef6 ⟨h1.mod, fun x hx => ⟨(h1.ok x hx).1, (h1.ok x hx).2.mono hP⟩, h1.n1, h1.n3, h1.srt⟩ h
theorem new6_hg {Q : Option Addr → K} (h1 : 1 ≤ n) (h3 : n ≤ 3) (h : ∀ st, HG B (Ref6 st n [] P :: Γ) (Q (some ⟨st, 0, none⟩))) : HG B Γ (ref06_New.call (n : Int) Q) := by
  refine fun w hw => ref06_New_ok _ _ _ ?_
  refine hg hw ?_
  clear hw w
  unfold ref06_New
  refine s_new fun st => ?_
  refine fun w hw => ?_
  refine Sep.hg (show Holds B (SlC ty_api_Row 5 ⟨none, 0, 0⟩ (([] : List RecX).flatMap rowF6) :: _) w from hw.nilSl _ _) ?_
  clear hw w
  refine s_swap ?_
  exact s_mkRef6 ⟨rfl, by simp, h1, h3, List.Pairwise.nil⟩ (h st)
theorem default6_hg {k : ByteArray} {Q : Int → K} (h1 : 1 ≤ n) (hn : n ≤ 1000) (hk : k.size < 1000000000000) (h : HG B Γ (Q (homeOf k.toList n : Nat))) : HG B Γ (ref06_Default.call k (n : Int) Q) := by
  refine fun w hw => ref06_Default_ok _ _ _ _ ?_
  refine hg hw ?_
  clear hw w
  unfold ref06_Default
  refine s_f ?_
  obtain ⟨l, rfl⟩ := bs_of k
  rw [bs_list] at h
  have hsz : (bs l).size = l.length := rfl
  refine s_loopC (fun x : Int × Int => ∃ i s : Nat, x = ((s : Int), (i : Int)) ∧ i ≤ l.length ∧ s = (l.take i).foldl (fun s b => s + b.toNat) 0) (fun x => l.length - x.2.toNat) ⟨0, 0, rfl, Nat.zero_le _, rfl⟩ fun k' x hx hk' => ?_
  obtain ⟨i, s, rfl, hi, hs⟩ := hx
  have hsl := sum_le (l.take i) 0
  rw [← hs, List.length_take] at hsl
  unfold ref06_Default.b1
  dsimp only
  refine s_ite (fun hb => ?_) fun hb => ?_
  · have hil : i < l.length := by simp only [decide_eq_true_eq] at hb; omega
    have hb8 : l[i].toNat < 256 := l[i].toNat_lt
    refine fun w hw => ⟨(l[i].toNat : Int), l[i], by omega, ?_, rfl, Sep.hg hw ?_⟩
    · show (bs l)[((i : Nat) : Int).toNat]? = _
      rw [Int.toNat_natCast]
      exact Array.getElem?_eq_getElem (xs := l.toArray) (by simpa using hil)
    refine s_ar (e' := (l[i].toNat : Int)) (by rw [wrapU64 (by omega) (by omega)]) ?_
    refine s_ar (e' := ((s + l[i].toNat : Nat) : Int)) (by rw [wrapU64 (by omega) (by omega)]; omega) ?_
    refine s_ai ?_
    refine hk' _ ⟨i + 1, s + l[i].toNat, by simp, hil, ?_⟩ (by simp only; omega)
    rw [hs, List.take_succ_eq_append_getElem hil, List.foldl_append]; rfl
  · have hil : i = l.length := by simp only [decide_eq_false_iff_not] at hb; omega
    rw [hil, List.take_length] at hs
    refine s_ar (e' := (n : Int)) (by rw [wrapU64 (by omega) (by omega)]) ?_
    refine s_cd (by omega) ?_
    have hm : s % n < n := Nat.mod_lt _ (by omega)
    refine s_ar (e' := ((s % n : Nat) : Int)) (by rw [Int.tmod_eq_emod_of_nonneg (by omega)]; simp) ?_
    refine s_ai ?_
    rw [homeOf_sum l h1, ← hs] at h
    exact h
theorem get6_hg {k : ByteArray} {Q : Array Value → K} (hk : k.size < 1000000000000) (hL : M.length < 100000000) (h : ∀ s, (sGet n M k).ok → inP P s (sGet n M k).val → HG B (Ref6 st n M P :: Γ) (Q (recA (sGet n M k) s))) : HG B (Ref6 st n M P :: Γ) (ref06_Store_Get.call (some ⟨st, 0, none⟩) k Q) := by
  refine fun w hw => ref06_Store_Get_ok _ _ _ _ ?_
  refine hg hw ?_
  clear hw w
  refine s_ref6 fun rs X hf => ?_
  have hXl : X.length = M.length := by rw [hf.mod]; simp
  unfold ref06_Store_Get
  refine s_new fun t4 => ?_
  refine s_cap rs fun a1 a2 a3 a4 => ?_
  rw [flatMap_len _ 5 rowF6_len] at a1
  refine s_loopC (α := Int) (fun x => ∃ i : Nat, x = (i : Int) ∧ i ≤ X.length ∧ ∀ y ∈ X.take i, y.1 ≠ k) (fun x => X.length - x.toNat) ⟨0, rfl, Nat.zero_le _, by simp⟩ fun k' x hx hk' => ?_
  obtain ⟨i, rfl, hi, hno⟩ := hx
  unfold ref06_Store_Get.b1
  repeat refine s_nx ?_
  refine s_ite (fun hb => ?_) fun hb => ?_
  · have hil : i < X.length := by simp only [decide_eq_true_eq] at hb; omega
    have hge : X[i]? = some X[i] := List.getElem?_eq_getElem hil
    have hmem : X[i] ∈ X := List.getElem_mem hil
    have htk : X.take (i + 1) = X.take i ++ [X[i]] := List.take_succ_eq_append_getElem hil
    have hdr := List.drop_eq_getElem_cons hil
    generalize X[i] = x at hge hmem htk hdr
    repeat refine s_nx ?_
    refine s_idxF0 rowF6 (c := Value.string) (v := x.1) rowF6_len (fun w hw => (own_rd (s := rs) hw).1) hge rfl ?_
    refine s_ite (fun hc => ?_) fun hc => ?_
    · have hxk : x.1 = k := by rwa [str_inj] at hc
      have hr : sGet n M k = x.2.1 := by
        unfold sGet
        have : getM M k = some x.2.1 := by
          rw [hf.mod, ← List.take_append_drop i X, hdr, List.map_append, List.map_cons]
          rw [show recM x = (k, x.2.1) by rw [← hxk]]
          exact getM_mid fun y hy => by
            obtain ⟨z, hz, rfl⟩ := List.mem_map.1 hy
            exact hno z hz
        rw [this]; rfl
      rw [hr] at h
      repeat refine s_nx ?_
      refine s_idx (s := rs) (i := i) ?_
      refine s_ldEN (s := rs) (off := 1) (l' := recL x.2.1 x.2.2) ?_ rfl ?_
      · have := flatMap_el rowF6_len hge
        have e : ((X.flatMap rowF6).drop (i * 5 + 1)).take 4 = (((X.flatMap rowF6).drop (i * 5)).take 5).drop 1 := by rw [← List.drop_drop, List.drop_take]
        rw [e, this]; rfl
      repeat refine s_nx ?_
      refine s_ownS rs ?_
      refine s_own st ?_
      exact s_mkRef6 hf (s_end (h _ (hf.ok x hmem).1 (hf.ok x hmem).2))
    · have hxk : x.1 ≠ k := fun e => by rw [e, str_inj.2 rfl] at hc; cases hc
      refine s_ai ?_
      refine hk' _ ⟨i + 1, by simp, hil, fun y hy => ?_⟩ (by omega)
      rw [htk] at hy
      rcases List.mem_append.1 hy with hy | hy
      · exact hno y hy
      · rw [List.mem_singleton.1 hy]; exact hxk
  · have hil : i = X.length := by simp only [decide_eq_false_iff_not] at hb; omega
    rw [hil, List.take_length] at hno
    have hr : sGet n M k = ⟨false, [], homeOf k.toList n, 0⟩ := by
      unfold sGet
      rw [hf.mod, getM_none fun y hy => by
        obtain ⟨z, hz, rfl⟩ := List.mem_map.1 hy
        exact hno z hz]
      rfl
    rw [hr] at h
    repeat refine s_nx ?_
    refine default6_hg hf.n1 (by have := hf.n3; omega) hk ?_
    refine s_stN (b := t4) (l' := recL ⟨false, [], homeOf k.toList n, 0⟩ ⟨none, 0, 0⟩) ?_
    repeat refine s_nx ?_
    refine s_ownS rs ?_
    refine s_own st ?_
    exact s_mkRef6 hf (s_end (h ⟨none, 0, 0⟩ ⟨by simp, by simp, by simp⟩ (.inl ⟨rfl, rfl⟩)))
theorem set6_hg {k : ByteArray} {r : Rec} {s : Sl} {Q : K} (hr : r.ok) (hv : inP P s r.val) (hL : M.length < 10000000) (h : HG B (Ref6 st n (setM M k r) P :: Γ) Q) : HG B (Ref6 st n M P :: Γ) (ref06_Store_Set.call (some ⟨st, 0, none⟩) k (recA r s) Q) := by
  refine fun w hw => ref06_Store_Set_ok _ _ _ _ _ ?_
  refine hg hw ?_
  clear hw w
  refine s_ref6 fun rs X hf => ?_
  have hXl : X.length = M.length := by rw [hf.mod]; simp
  refine s_cap rs fun a1 a2 a3 a4 => ?_
  rw [flatMap_len _ 5 rowF6_len] at a1
  unfold ref06_Store_Set
  refine s_new fun r5 => ?_
  -- the rows, anew
  have rows : ∀ (t9 : Nat) (keep : Bool), (keep = true ↔ ¬ (r.has = false ∧ r.cnt = 0)) → HG B (blk t9 (.cells ([] : List Value).toArray ty_api_Row (0, 0)) :: blk r5 (.cells (recL r s).toArray ty_api_Record (0, 0)) :: ref6L st n rs X Γ) (ref06_Store_Set.s1 Q (some ⟨st, 0, none⟩) k ⟨r5, 0, none⟩ (Sl.mk (some ⟨t9, 0, none⟩) 0 0) keep) := fun t9 keep hkp => by
    have hset : set6 k r keep M = setM M k r := by
      unfold setM
      by_cases hk : r.has = false ∧ r.cnt = 0
      · have : keep = false := by cases hc : keep with
          | false => rfl
          | true => exact absurd hk (hkp.1 hc)
        rw [if_pos hk, this, set6_none]
      · rw [if_neg hk, hkp.2 hk, set6_some hf.srt]
    unfold ref06_Store_Set.s1
    refine s_conv (A' := SlC ty_api_Row 5 ⟨some ⟨t9, 0, none⟩, 0, 0⟩ (([] : List RecX).flatMap rowF6)) (blk_SlC (vs := []) rfl (by simp)) ?_
    refine s_loop (α := Sl × Bool × Int) (ι := Nat × List RecX) (fun x i => x.2.2 = (i.1 : Int) ∧ i.1 ≤ X.length ∧ i.2.length ≤ 2 * i.1 ∧ i.2 ++ set6 k (r, s) x.2.1 (X.drop i.1) = set6 k (r, s) keep X ∧ ∀ y ∈ i.2, y.2.1.ok ∧ inP P y.2.2 y.2.1.val)
      (fun x i => SlC ty_api_Row 5 x.1 (i.2.flatMap rowF6) :: blk r5 (.cells (recL r s).toArray ty_api_Record (0, 0)) :: ref6L st n rs X Γ) (fun x i => X.length - i.1) (0, []) ⟨rfl, Nat.zero_le _, by simp, by simp, by simp⟩ ?_
    rintro k' ⟨o, kp, _⟩ ⟨i, Y⟩ ⟨rfl, hi, hYl, he, hok⟩ hk'
    simp only at hi hYl he hok hk' ⊢
    unfold ref06_Store_Set.b2
    refine s_cap o fun b1 b2 b3 b4 => ?_
    rw [flatMap_len _ 5 rowF6_len] at b1
    have add : ∀ (x : RecX) (ct : Nat) (o : Sl) (Y : List RecX), rowF6 x = rowF6 x → True := fun _ _ _ _ _ => trivial
    repeat refine s_nx ?_
    refine s_ite (fun hb => ?_) fun hb => ?_
    · have hil : i < X.length := by simp only [decide_eq_true_eq] at hb; omega
      have hge : X[i]? = some X[i] := List.getElem?_eq_getElem hil
      have hmem : X[i] ∈ X := List.getElem_mem hil
      rw [List.drop_eq_getElem_cons hil] at he
      generalize X[i] = x at hge hmem he
      rw [set6] at he
      -- the row that was there
      have old : ∀ (o : Sl) (Y : List RecX) (kp' : Bool), o.n = Y.length → Y.length ≤ 2 * i + 1 → Y ++ ((if x.1 = k then [] else [x]) ++ set6 k (r, s) kp' (X.drop (i + 1))) = set6 k (r, s) keep X → (∀ y ∈ Y, y.2.1.ok ∧ inP P y.2.2 y.2.1.val) →
          HG B (SlC ty_api_Row 5 o (Y.flatMap rowF6) :: blk r5 (.cells (recL r s).toArray ty_api_Record (0, 0)) :: ref6L st n rs X Γ) (ref06_Store_Set.s4 Q (fun out6_2 keep7_2 i8_2 => k' (out6_2, keep7_2, i8_2)) ⟨st, 0, none⟩ k ⟨r5, 0, none⟩ o kp' (i : Int)) := fun o Y kp' hon hYl he hok => by
        unfold ref06_Store_Set.s4
        repeat refine s_nx ?_
        refine s_idxF0 rowF6 (c := Value.string) (v := x.1) rowF6_len (fun w hw => (own_rd (s := rs) hw).1) hge rfl ?_
        unfold ref06_Store_Set.s3
        refine s_ite (fun hc => ?_) fun hc => ?_
        · have hxk : x.1 ≠ k := fun e => by rw [e, str_inj.2 rfl] at hc; cases hc
          rw [if_neg hxk] at he
          repeat refine s_nx ?_
          refine s_idxN rowF6 rowF6_len (fun w hw => (own_rd (s := rs) hw).1) hge ?_
          repeat refine s_nx ?_
          refine s_new fun t63 => ?_
          refine s_append (s := o) (esz := 5) (us := rowF6 x) (blk_rd rfl) (by intro v hv; exact rowF6_fl [x] v (by simpa using hv)) (by simp only; omega) fun o2 _ => ?_
          rw [show Y.flatMap rowF6 ++ rowF6 x = (Y ++ [x]).flatMap rowF6 by simp only [List.flatMap_append, List.flatMap_cons, List.flatMap_nil, List.append_nil]]
          refine s_ai ?_
          refine s_end (hk' (o2, kp', (i : Int) + 1) (i + 1, Y ++ [x]) ⟨by simp, hil, by simp; omega, by simp only; rw [← he]; simp, fun y hy => ?_⟩ (by simp only; omega))
          rcases List.mem_append.1 hy with hy | hy
          · exact hok y hy
          · rw [List.mem_singleton.1 hy]; exact hf.ok x hmem
        · have hxk : x.1 = k := by
            have : (x.1.toList == k.toList) = true := by simpa using hc
            rwa [str_inj] at this
          rw [if_pos hxk] at he
          refine s_ai ?_
          exact s_end (hk' (o, kp', (i : Int) + 1) (i + 1, Y) ⟨by simp, hil, by simp only; omega, by simpa using he, hok⟩ (by simp only; omega))
      have noIns : (kp && decide (0 < cmpS x.1 k)) = false → HG B (SlC ty_api_Row 5 o (Y.flatMap rowF6) :: blk r5 (.cells (recL r s).toArray ty_api_Record (0, 0)) :: ref6L st n rs X Γ) (ref06_Store_Set.s5 Q (fun out6_2 keep7_2 i8_2 => k' (out6_2, keep7_2, i8_2)) ⟨st, 0, none⟩ k ⟨r5, 0, none⟩ o kp (i : Int) false) := fun hni => by
        unfold ref06_Store_Set.s5
        refine s_f ?_
        refine old o Y kp (by omega) (by omega) ?_ hok
        rw [hni] at he
        have e2 : (kp && !decide (0 < cmpS x.1 k)) = kp := by cases kp <;> simp_all
        rw [e2] at he
        simpa using he
      refine s_ite (fun hkp1 => ?_) fun hkp1 => ?_
      · subst hkp1
        repeat refine s_nx ?_
        refine s_idxF0 rowF6 (c := Value.string) (v := x.1) rowF6_len (fun w hw => (own_rd (s := rs) hw).1) hge rfl ?_
        rw [gt_dec]
        by_cases hgt : k.toList < x.1.toList
        · have hpos : 0 < cmpS x.1 k := cmpS_pos.2 hgt
          rw [show decide (k.toList < x.1.toList) = true by simpa using hgt]
          unfold ref06_Store_Set.s5
          repeat refine s_nx ?_
          refine s_new fun t43 => ?_
          refine s_append (s := o) (esz := 5) (us := rowF6 (k, (r, s))) (blk_rd rfl) (by intro v hv; exact rowF6_fl [(k, (r, s))] v (by simpa using hv)) (by simp only; omega) fun o2 ho2 => ?_
          rw [show Y.flatMap rowF6 ++ rowF6 (k, (r, s)) = (Y ++ [(k, (r, s))]).flatMap rowF6 by simp only [List.flatMap_append, List.flatMap_cons, List.flatMap_nil, List.append_nil]]
          refine s_end (old o2 (Y ++ [(k, (r, s))]) false (by simp only at ho2; simp; omega) (by simp; omega) ?_ fun y hy => ?_)
          · simp only [hpos, decide_true, Bool.and_true, if_true, Bool.not_true, Bool.and_false] at he
            rw [← he]; simp
          · rcases List.mem_append.1 hy with hy | hy
            · exact hok y hy
            · rw [List.mem_singleton.1 hy]; exact ⟨hr, hv⟩
        · rw [show decide (k.toList < x.1.toList) = false by simpa using hgt]
          exact noIns (by simp only [Bool.true_and, decide_eq_false_iff_not]; exact fun h => hgt (cmpS_pos.1 h))
      · subst hkp1
        exact noIns rfl
    · have hil : i = X.length := by simp only [decide_eq_false_iff_not] at hb; omega
      rw [hil, List.drop_length, set6] at he
      have fin : ∀ (o : Sl) (Y : List RecX), Y = set6 k (r, s) keep X → (∀ y ∈ Y, y.2.1.ok ∧ inP P y.2.2 y.2.1.val) → HG B (SlC ty_api_Row 5 o (Y.flatMap rowF6) :: blk r5 (.cells (recL r s).toArray ty_api_Record (0, 0)) :: ref6L st n rs X Γ) (ref06_Store_Set.s6 Q (fun out6_2 keep7_2 i8_2 => k' (out6_2, keep7_2, i8_2)) ⟨st, 0, none⟩ o) := fun o Y hY hok => by
        unfold ref06_Store_Set.s6
        repeat refine s_nx ?_
        refine s_ownS o ?_
        refine s_own st ?_
        refine s_mkRef6 (M := setM M k r) ⟨?_, hok, hf.n1, hf.n3, setM_srt hf.srt⟩ (s_end h)
        rw [hY, set6_map, ← hf.mod, hset]
      refine s_ite (fun hkp1 => ?_) fun hkp1 => ?_
      · subst hkp1
        repeat refine s_nx ?_
        refine s_new fun t70 => ?_
        refine s_append (s := o) (esz := 5) (us := rowF6 (k, (r, s))) (blk_rd rfl) (by intro v hv; exact rowF6_fl [(k, (r, s))] v (by simpa using hv)) (by simp only; omega) fun o2 ho2 => ?_
        rw [show Y.flatMap rowF6 ++ rowF6 (k, (r, s)) = (Y ++ [(k, (r, s))]).flatMap rowF6 by simp only [List.flatMap_append, List.flatMap_cons, List.flatMap_nil, List.append_nil]]
        refine s_end (fin o2 (Y ++ [(k, (r, s))]) (by simpa using he) fun y hy => ?_)
        rcases List.mem_append.1 hy with hy | hy
        · exact hok y hy
        · rw [List.mem_singleton.1 hy]; exact ⟨hr, hv⟩
      · subst hkp1
        exact fin o Y (by simpa using he) hok
  refine s_dr ?_
  refine s_wsD [blk r5 (.cells (recL r s).toArray ty_api_Record (0, 0))] ?_
  repeat refine s_nx ?_
  refine s_ite (fun hb => ?_) fun hb => ?_
  · refine s_new fun t9 => ?_
    repeat refine s_nx ?_
    exact rows t9 true (by simp [hb])
  · repeat refine s_nx ?_
    refine s_new fun t9 => ?_
    repeat refine s_nx ?_
    refine rows t9 _ ?_
    have := hr.1
    simp only [hb, decide_eq_true_eq, true_and]
    omega
theorem move6_hg {k : ByteArray} {to : Int} {Q : Int → K} (hk : k.size < 1000000000000) (hL : M.length < 10000000) (h : HG B (Ref6 st n (sMove n M k to).1 P :: Γ) (Q (sMove n M k to).2)) : HG B (Ref6 st n M P :: Γ) (ref06_Store_Move.call (some ⟨st, 0, none⟩) k to Q) := by
  refine fun w hw => ref06_Store_Move_ok _ _ _ _ _ ?_
  refine hg hw ?_
  clear hw w
  unfold ref06_Store_Move
  have bad : to < 0 ∨ (n : Int) ≤ to → ∀ s0, HG B (Ref6 st n M P :: Γ) (ref06_Store_Move.s1 Q s0 k to true) := fun hb s0 => by
    unfold ref06_Store_Move.s1
    refine s_t ?_
    rw [show sMove n M k to = (M, 1) by unfold sMove; rw [if_pos hb]] at h
    exact h
  refine s_ite (fun hb => bad (.inl (by simpa using hb)) _) fun hb => ?_
  refine s_nn ?_
  refine s_ref6 fun rs X hf => ?_
  repeat refine s_nx ?_
  refine s_mkRef6 hf ?_
  by_cases hb2 : (n : Int) ≤ to
  · rw [show decide ((n : Int) ≤ to) = true by simpa using hb2]
    exact bad (.inr hb2) _
  rw [show decide ((n : Int) ≤ to) = false by simpa using hb2]
  have hnb : ¬ (to < 0 ∨ (n : Int) ≤ to) := by
    simp only [decide_eq_false_iff_not] at hb
    omega
  unfold ref06_Store_Move.s1
  refine s_f ?_
  refine get6_hg hk (by omega) fun s hok hv => ?_
  generalize hR : sGet n M k = r at *
  refine s_new fun r7 => ?_
  refine s_stN (b := r7) (l' := recL r s) ?_
  repeat refine s_nx ?_
  refine s_ite (fun hc => ?_) fun hc => ?_
  · rw [show sMove n M k to = (M, 111) by unfold sMove; rw [if_neg hnb, hR, if_pos (by simpa using hc)]] at h
    exact s_end h
  have hc' : r.cnt ≠ 18446744073709551615 := by simpa using hc
  obtain ⟨o1, o2, o3⟩ := hok
  repeat refine s_nx ?_
  refine s_ar (wrapU64 (by omega) (by omega)) ?_
  repeat refine s_nx ?_
  refine s_own st ?_
  refine set6_hg (r := { r with home := to, cnt := r.cnt + 1 }) ⟨by simp only; omega, by simp only; omega, o3⟩ hv hL ?_
  have e : sMove n M k to = (setM M k { r with home := to, cnt := r.cnt + 1 }, 0) := by
    unfold sMove setM
    rw [if_neg hnb, hR, if_neg hc', if_neg fun hh => by simp only at hh; omega]
  rw [e] at h
  exact s_end h
end
end Go.Proofs.YtinpgiafjjibnaaGreat
/- What transactions put out, as it lies in memory. -/
namespace Go.Proofs.YtinpgiafjjibnaaGreat
open Go Go.Sep
abbrev OX := List ((Bool × List UInt8) × Sl)
def oF (x : (Bool × List UInt8) × Sl) : List Value := [.bool x.1.1, x.2.val]
theorem oF_len (x : (Bool × List UInt8) × Sl) : (oF x).length = 2 := rfl
abbrev oB (x : (Bool × List UInt8) × Sl) : HProp := Bytes ty_uint8 x.2 x.1.2
end Go.Proofs.YtinpgiafjjibnaaGreat
/- Plain forms of functions, and that their code comes to them (package lib_maps). -/
namespace Go.Proofs.YtinpgiafjjibnaaGreat
open Go Go.Sep
set_option linter.unusedVariables false
set_option linter.unusedSimpArgs false
set_option maxRecDepth 100000
set_option maxHeartbeats 4000000
attribute [local irreducible] G Gp Cx Tx Ex Sx Dx Ox Ax Lx Rx Fx Bx Bj Al Do Ld LdN St StN New CallF Ar DoU Rd Rd2 Pu Cd Ite Fv CallV CallY Ans0 Ans1 Ans2 Ans3 Ans4 Ans5 Ext Dead Dr WithS Sv LdS LdNS RdS Rd2S Nn Idx IdxA IdxS Fld Bld Slc SlcS Cat All LoopK RangeF RangeJ TakeD
namespace F_IRLibMaps
instance ct_74 : CT Tryz.prog 74 := ⟨by kernel_rfl⟩
instance mx : MX Tryz.prog := ⟨mixed⟩
end F_IRLibMaps
def maps_Keys_map_string_api_Record_string_api_Record (m0 : (Option Nat)) (Q : Value → K) : K :=
  New 74 #[(.map m0)] fun m1 =>
  Q (.func (.func 51) #[] #[(.pointer (some m1))])
theorem maps_Keys_map_string_api_Record_string_api_Record_ok (m0 : (Option Nat)) (Q : Value → K) (w : World) (h : maps_Keys_map_string_api_Record_string_api_Record m0 Q w) : maps_Keys_map_string_api_Record_string_api_Record.call m0 Q w := by
  exact g_walk 4 h Tryz.func28
def maps_Keys_map_string_api_Record_string_api_Record_1.b1 (Q : K)  (X1 : K) (yield0_1 : Value) (t5_1 : (Option Addr))  : K :=
  Do Tryz.prog (Instr.next (.pointer t5_1) false 0) id fun t6 =>
  Ext t6 0 Value.bool fun t7 =>
  Ite t7
    (Do Tryz.prog (Instr.entry (.pointer t5_1)) id fun t8 =>
    Ext t8 0 Value.string fun t9 =>
    CallY Tryz.prog yield0_1 [(.string t9)] <| Ans1 (fun (t12 : Bool) => Value.bool t12) fun t12 =>
    Ite (!t12)
      (Q)
      (X1))
    (Q)
def maps_Keys_map_string_api_Record_string_api_Record_1 (yield0 : Value) (t1 : Addr) (Q : K) : K :=
  Ld t1 Value.map fun t4 =>
  Do Tryz.prog (Instr.range 74 (.map t4)) Value.pointer fun t5 =>
  LoopK (α := Unit) (fun X x => maps_Keys_map_string_api_Record_string_api_Record_1.b1 Q (X ()) yield0 t5) ()
theorem maps_Keys_map_string_api_Record_string_api_Record_1_ok (yield0 : Value) (t1 : Addr) (Q : K) (w : World) (h : maps_Keys_map_string_api_Record_string_api_Record_1 yield0 t1 Q w) : maps_Keys_map_string_api_Record_string_api_Record_1.call yield0 t1 Q w := by
  have hL1 : ∀ (yield0_1 : Value) (t5_1 : (Option Addr)), LH 1 (fun x : Unit => [(0, yield0_1), (5, (.pointer t5_1))]) (fun X x => maps_Keys_map_string_api_Record_string_api_Record_1.b1 Q (X ()) yield0_1 t5_1) := by intros; exact ⟨⟩
  exact g_walk 14 h Tryz.func51
end Go.Proofs.YtinpgiafjjibnaaGreat
/- slices.Sorted of a map's keys (ty_api_Record). -/
namespace Go.Proofs.YtinpgiafjjibnaaGreat
open Go Go.Sep
set_option linter.unusedSimpArgs false
set_option linter.unusedVariables false
set_option maxRecDepth 100000

theorem mapFR : mapIs Tryz.prog ty_map_string_api_Record .string ty_api_Record := ⟨9, by kernel_rfl, by kernel_rfl⟩
section
variable {B w : World} {Γ : List HProp} {β : Type} {cV : β → Value}

theorem slices_Collect_keysR {mb t1 : Nat} {m : List (List UInt8 × β)} {k : Sl → K} (hm : m.length ≤ 1000000) (h : Holds B (blk t1 (.cells #[.map (some mb)] ty_map_string_api_Record (0, 0)) :: MapR strV cV mb m :: Γ) w)
    (hk : ∀ s ss w, ss.Perm (m.map Prod.fst) → Holds B (SlS s ss :: MapR strV cV mb m :: Γ) w → k s w) : slices_Collect_string.call (.func (.func 51) #[] #[.pointer (some ⟨t1, 0, none⟩)]) k w := by
  refine slices_Collect_string_ok _ _ _ ?_
  unfold slices_Collect_string
  refine slices_AppendSeq_s_string_string_ok _ _ _ _ ?_
  unfold slices_AppendSeq_s_string_string
  refine r_new h ?_
  clear h
  intro s2 w h
  try simp only [add_mk, Nat.zero_add, Nat.reduceAdd]
  refine r_rangeF h rfl (by kernel_rfl) fun D l r w hr1 hr2 h hy => ?_
  refine ret_mono (maps_Keys_map_string_api_Record_string_api_Record_1_ok (yv l) ⟨t1, 0, none⟩ (fun w3 => ∃ Δ, Holds B (blk l (.loop r) :: Δ) w3 ∧ ∀ w, Holds B Δ w → (Ld ⟨s2, 0, none⟩ Sl.val fun t12 => TakeD D (k t12)) w) w ?_) fun v w h => h.2
  unfold maps_Keys_map_string_api_Record_string_api_Record_1
  refine r_ld (x := (some mb)) h rfl (by first | with_reducible exact M0 | with_reducible exact M1 | with_reducible exact M2 | with_reducible exact M3 | with_reducible exact M4 | with_reducible exact M5 | with_reducible exact M6 | with_reducible exact M7 | with_reducible exact M8 | with_reducible exact M9 | with_reducible exact M10 | with_reducible exact M11 | with_reducible exact M12) ?_ ?_
  · exact rfl
  replace h := P3 h
  replace h := P3 h
  replace h := P3 h
  replace h := P3 h
  replace h := P4 h
  try simp only [N1, N2, N3, N4, N5, N6, N7] at h
  refine r_range mapFR h fun r2 w h => ?_
  replace h := h.del 4 at4
  try simp only [N1, N2, N3, N4, N5, N6, N7] at h
  have h0 := (h.nilSl ty_string 1)
  refine LoopK.of (fun _ w => ∃ (o : Sl) (ss : List (List UInt8)) (left : List (List UInt8 × β)) (cur : Option (List UInt8 × β)), (ss ++ left.map Prod.fst).Perm (m.map Prod.fst) ∧
      Holds B (blk l (.loop r) :: blk D (.deferred (some [])) :: blk s2 (.cells #[o.val] ty_s_string (0, 0)) :: SlS o ss :: MapIt strV cV mb r2 m left cur :: Γ) w)
    (fun _ w => itCount r2 m.length w) ⟨⟨none, 0, 0⟩, [], m, none, List.Perm.refl _, ?_⟩ ?_
  · replace h := h0
    replace h := P1 h
    replace h := P1 h
    replace h := P4 h
    replace h := P4 h
    replace h := P4 h
    try simp only [N1, N2, N3, N4, N5, N6, N7] at h
    exact h
  clear h h0
  rintro _ w ⟨o, ss, left, cur, hperm, h⟩
  have hcnt := it_count (h.pick 4 at4)
  have hlen := hperm.length_eq
  simp only [List.length_append, List.length_map] at hlen
  unfold maps_Keys_map_string_api_Record_string_api_Record_1.b1
  replace h := P3 h
  replace h := P3 h
  replace h := P3 h
  replace h := P3 h
  replace h := P4 h
  try simp only [N1, N2, N3, N4, N5, N6, N7] at h
  refine r_next h (fun hl0 w h => ?_) (fun l1 p l2 w hl1 hpm h => ?_)
  · refine ⟨_, false, rfl, rfl, ?_⟩
    refine r_ite_f rfl ?_
    replace h := P4 h
    replace h := P4 h
    replace h := P4 h
    replace h := P4 h
    try simp only [N1, N2, N3, N4, N5, N6, N7] at h
    refine ⟨_, h, fun w h => ?_⟩
    refine r_ld (x := o) h rfl (by first | with_reducible exact M0 | with_reducible exact M1 | with_reducible exact M2 | with_reducible exact M3 | with_reducible exact M4 | with_reducible exact M5 | with_reducible exact M6 | with_reducible exact M7 | with_reducible exact M8 | with_reducible exact M9 | with_reducible exact M10 | with_reducible exact M11 | with_reducible exact M12) ?_ ?_
    · exact rfl
    refine r_takeD h fun w h => ?_
    replace h := P2 h
    replace h := P2 h
    replace h := D2 h
    try simp only [N1, N2, N3, N4, N5, N6, N7] at h
    rw [hl0] at hperm
    simp only [List.map_nil, List.append_nil] at hperm
    exact hk o ss _ hperm h
  · refine ⟨_, true, rfl, rfl, ?_⟩
    refine r_ite_t rfl ?_
    refine r_entry h ?_
    refine ⟨_, bs p.1, rfl, rfl, ?_⟩
    replace h := P4 h
    replace h := P4 h
    replace h := P4 h
    replace h := P4 h
    try simp only [N1, N2, N3, N4, N5, N6, N7] at h
    refine callY_mono (hy (bs p.1) (fun w => ∃ o', Holds B (blk l (.loop r) :: blk D (.deferred (some [])) :: blk s2 (.cells #[Sl.val o'] ty_s_string (0, 0)) :: SlS o' (ss ++ [p.1]) :: MapIt strV cV mb r2 m (l1 ++ l2) (some p) :: Γ) w) w _ h fun W h => ?_) fun v w hv => ?_
    · have hon : ss.length = o.n := by have := (h.pick 3 at3).slCap.1; simpa using this
      refine r_ld (x := o) h rfl (by first | with_reducible exact M0 | with_reducible exact M1 | with_reducible exact M2 | with_reducible exact M3 | with_reducible exact M4 | with_reducible exact M5 | with_reducible exact M6 | with_reducible exact M7 | with_reducible exact M8 | with_reducible exact M9 | with_reducible exact M10 | with_reducible exact M11 | with_reducible exact M12) ?_ ?_
      · exact rfl
      refine r_new h ?_
      clear h
      intro t10 w h
      try simp only [add_mk, Nat.zero_add, Nat.reduceAdd]
      refine r_append (us := [strV p.1]) (h.pick 4 at4) (by kernel_rfl) (by kernel_rfl) (by' := 16) (by kernel_rfl) zero_ty_string rfl (RdC.of_blk (E := ty_string) (b := t10) (n := 1) (vs := [strV p.1]) (cs := #[strV p.1]) h List.mem_cons_self rfl rfl 1) (by simp [flatV]) (by simp only; omega) (by decide) fun o' w h _ _ => ?_
      try simp only [N1, N2, N3, N4, N5, N6, N7] at h
      first | refine S0 h rfl ?_ rfl ?_ | refine S1 h rfl ?_ rfl ?_ | refine S2 h rfl ?_ rfl ?_ | refine S3 h rfl ?_ rfl ?_ | refine S4 h rfl ?_ rfl ?_ | refine S5 h rfl ?_ rfl ?_ | refine S6 h rfl ?_ rfl ?_ | refine S7 h rfl ?_ rfl ?_ | refine S8 h rfl ?_ rfl ?_
      · first | exact Nat.lt_of_ble_eq_true rfl | (simp; done) | (simp; omega)
      clear h
      intro w h
      try simp only [N1, N2, N3, N4, N5, N6, N7] at h
      replace h := P5 h
      replace h := P1 h
      replace h := P5 h
      replace h := P5 h
      replace h := P5 h
      replace h := D5 h
      try simp only [N1, N2, N3, N4, N5, N6, N7] at h
      refine r_endR h fun w h => ?_
      have e : ({ ({ r with state := .busy } : Loop) with state := .ready, pending := none } : Loop) = r := by
        cases r
        simp only at hr1 hr2
        simp only [hr1, hr2]
      rw [e] at h
      refine ⟨o', ?_⟩
      have e2 : ss.map strV ++ [strV p.1] = (ss ++ [p.1]).map strV := by simp
      rw [e2] at h
      exact h
    · obtain ⟨rfl, o', h⟩ := hv
      refine ⟨true, rfl, ?_⟩
      refine r_ite_f rfl ?_
      have hcnt2 := it_count (h.pick 4 at4)
      refine ⟨⟨o', _, _, _, ?_, h⟩, ?_⟩
      · refine List.Perm.trans ?_ hperm
        rw [hl1]
        simp only [List.map_append, List.map_cons, List.append_assoc]
        refine List.Perm.append_left _ ?_
        show (p.1 :: (l1.map Prod.fst ++ l2.map Prod.fst)).Perm _
        exact List.perm_middle.symm
      · rw [hcnt, hcnt2, hl1]
        simp

theorem sorted_keys_specR {mb : Nat} {m : List (List UInt8 × β)} {k : Sl → K} (hm : m.length ≤ 1000000) (h : Holds B (MapR strV cV mb m :: Γ) w)
    (hk : ∀ s w, Holds B (SlS s (sortL (m.map Prod.fst)) :: MapR strV cV mb m :: Γ) w → k s w) :
    maps_Keys_map_string_api_Record_string_api_Record.call (some mb) (fun t7 => slices_Sorted_string.call t7 k) w := by
  refine maps_Keys_map_string_api_Record_string_api_Record_ok _ _ _ ?_
  unfold maps_Keys_map_string_api_Record_string_api_Record
  refine r_new h ?_
  clear h
  intro m1 w h
  try simp only [add_mk, Nat.zero_add, Nat.reduceAdd]
  refine slices_Sorted_string_ok _ _ _ ?_
  unfold slices_Sorted_string
  refine slices_Collect_keysR hm h fun s ss w hp h => ?_
  have hl := hp.length_eq
  rw [List.length_map] at hl
  refine slices_Sort_spec (by omega) h fun w h => ?_
  rw [sortL_perm hp] at h
  exact hk _ _ h
end
end Go.Proofs.YtinpgiafjjibnaaGreat
/- Bytes in memory: what is appended, copied, read. (By the types' names: for every seat.) -/
namespace Go.Proofs.YtinpgiafjjibnaaGreat
open Go Go.Sep
set_option linter.unusedSimpArgs false
set_option linter.unusedVariables false
set_option maxRecDepth 100000
section
variable {B w : World} {Γ : List HProp}
theorem r_byte {s : Sl} {xs : List UInt8} {j : Nat} {x : UInt8} {k : Int → K} (hr : RdB w s xs) (hx : xs[j]? = some x) (hk : k (x.toNat : Int) w) : Idx s (j : Int) 1 (fun t => Ld t (Value.int .u8) k) w := by
  have e : xs.map byteV = (xs.map fun b => (b.toNat : Int)).map (Value.int .u8) := by rw [List.map_map]; rfl
  have hr2 : RdC w s 1 ((xs.map fun b => (b.toNat : Int)).map (Value.int .u8)) := by rw [← e]; exact hr
  exact r_idx1 hr2 (by rw [List.getElem?_map, hx]; rfl) hk
theorem rd_spot {w : World} {s : Sl} {xs : List UInt8} (h : RdB w s xs) (hx : xs ≠ []) : ∀ a, s.a = some a → a.spot = none := by
  intro a ha
  have h1 := h.at' a ha 0 (by have := List.length_pos_iff.2 hx; simpa using this)
  have e : a.add 0 = a := by simp [Addr.add]
  rw [e] at h1
  unfold World.cell? at h1
  cases hs : a.spot with
  | none => rfl
  | some y =>
    exfalso
    have h2 : (xs.map byteV)[0]? ≠ none := by
      cases xs with
      | nil => exact absurd rfl hx
      | cons x xs => simp
    split at h1
    · simp only [hs, Option.isSome_some, if_true] at h1
      exact h2 h1.symm
    · exact h2 h1.symm
/-- Bytes behind one's own bytes. -/
theorem r_appB {g x : Sl} {xs ys : List UInt8} {k : Sl → K} (h : Holds B (Bytes ty_uint8 g xs :: Γ) w) (hy : RdB w x ys) (hroom : xs.length + ys.length ≤ 1000000000)
    (hk : ∀ s w, Holds B (Bytes ty_uint8 s (xs ++ ys) :: Γ) w → s.n = xs.length + ys.length → (g.a.isSome = true → s.a.isSome = true) → k s w) :
    Do Tryz.prog (Builtin.append_ #[ty_s_uint8, ty_s_uint8] ty_s_uint8 #[g.val, x.val]) Sl.val k w := by
  have h1 : xs.length = g.n := by have := h.slCap.1; simpa using this
  have h2 : ys.length = x.n := by have := hy.len; simpa using this
  refine r_append h (by kernel_rfl) (by kernel_rfl) (by' := 1) (by kernel_rfl) zero_ty_uint8 rfl hy (byteV_flat _) (by omega) (by decide) fun s' w h hn ha => hk s' w ?_ (by omega) ha
  have e : xs.map byteV ++ ys.map byteV = (xs ++ ys).map byteV := by simp
  rw [e] at h
  exact h
theorem bytes_new {b n : Nat} {cs : Array Value} {xs : List UInt8} (hc : cs.toList = xs.map byteV) (hn : xs.length = n) (h : Holds B (blk b (.cells cs ty_uint8 (0, 0)) :: Γ) w) : Holds B (Bytes ty_uint8 ⟨some ⟨b, 0, none⟩, n, n⟩ xs :: Γ) w :=
  h.imp (blk_SlC hc (by simp [hn]))
theorem Bytes.len {s : Sl} {xs : List UInt8} (h : Holds B (Bytes ty_uint8 s xs :: Γ) w) : xs.length = s.n := by have := h.slCap.1; simpa using this
theorem Bytes.rd {s : Sl} {xs : List UInt8} (h : Holds B Γ w) (hm : Bytes ty_uint8 s xs ∈ Γ) : RdB w s xs := h.rdC (E := ty_uint8) hm
theorem r_strS {S : World → Prop} {s : Sl} {xs : List UInt8} {src dst : TypeId} {k : ByteArray → K} (hT : strT Tryz.prog src dst = true) (hr : ∀ w, S w → RdB w s xs) (hk : k (ByteArray.mk xs.toArray) w) :
    RdS Tryz.prog S (convert src dst s.val) Value.string k w := by
  refine ⟨ByteArray.mk xs.toArray, fun w h => ?_, hk⟩
  obtain ⟨y, h1, h2⟩ := r_str (k := fun y _ => y = ByteArray.mk xs.toArray) hT (hr w h) rfl
  rw [h1, h2]
theorem rdB_take {w : World} {s : Sl} {d : List UInt8} {n c : Nat} (h : RdB w s d) (hn : n ≤ s.n) : RdB w ⟨s.a, n, c⟩ (d.take n) := by
  have h1 := h.take (m := n) (c := c) hn
  show RdC w _ 1 ((d.take n).map byteV)
  rw [List.map_take]
  simpa using h1
end
end Go.Proofs.YtinpgiafjjibnaaGreat
/- Plain forms of functions, and that their code comes to them (package eval). -/
namespace Go.Proofs.YtinpgiafjjibnaaGreat
open Go Go.Sep
set_option linter.unusedVariables false
set_option linter.unusedSimpArgs false
set_option maxRecDepth 100000
set_option maxHeartbeats 4000000
attribute [local irreducible] G Gp Cx Tx Ex Sx Dx Ox Ax Lx Rx Fx Bx Bj Al Do Ld LdN St StN New CallF Ar DoU Rd Rd2 Pu Cd Ite Fv CallV CallY Ans0 Ans1 Ans2 Ans3 Ans4 Ans5 Ext Dead Dr WithS Sv LdS LdNS RdS Rd2S Nn Idx IdxA IdxS Fld Bld Slc SlcS Cat All LoopK RangeF RangeJ TakeD
namespace F_IREval
instance at_26 : AT Tryz.prog 26 5 := ⟨by kernel_rfl⟩
instance at_38 : AT Tryz.prog 38 2 := ⟨by kernel_rfl⟩
instance at_57 : AT Tryz.prog 57 4 := ⟨by kernel_rfl⟩
instance at_59 : AT Tryz.prog 59 5 := ⟨by kernel_rfl⟩
instance at_66 : AT Tryz.prog 66 4 := ⟨by kernel_rfl⟩
instance cb_21 : CB Tryz.prog 21 := ⟨by kernel_rfl⟩
instance cb_23 : CB Tryz.prog 23 := ⟨by kernel_rfl⟩
instance cb_25 : CB Tryz.prog 25 := ⟨by kernel_rfl⟩
instance cb_26 : CB Tryz.prog 26 := ⟨by kernel_rfl⟩
instance cb_27 : CB Tryz.prog 27 := ⟨by kernel_rfl⟩
instance cb_28 : CB Tryz.prog 28 := ⟨by kernel_rfl⟩
instance cb_31 : CB Tryz.prog 31 := ⟨by kernel_rfl⟩
instance cb_40 : CB Tryz.prog 40 := ⟨by kernel_rfl⟩
instance cb_41 : CB Tryz.prog 41 := ⟨by kernel_rfl⟩
instance cb_45 : CB Tryz.prog 45 := ⟨by kernel_rfl⟩
instance cb_46 : CB Tryz.prog 46 := ⟨by kernel_rfl⟩
instance cb_47 : CB Tryz.prog 47 := ⟨by kernel_rfl⟩
instance cb_48 : CB Tryz.prog 48 := ⟨by kernel_rfl⟩
instance cb_63 : CB Tryz.prog 63 := ⟨by kernel_rfl⟩
instance cb_64 : CB Tryz.prog 64 := ⟨by kernel_rfl⟩
instance ct_2 : CT Tryz.prog 2 := ⟨by kernel_rfl⟩
instance ct_23 : CT Tryz.prog 23 := ⟨by kernel_rfl⟩
instance ct_24 : CT Tryz.prog 24 := ⟨by kernel_rfl⟩
instance ct_3 : CT Tryz.prog 3 := ⟨by kernel_rfl⟩
instance ct_30 : CT Tryz.prog 30 := ⟨by kernel_rfl⟩
instance ct_36 : CT Tryz.prog 36 := ⟨by kernel_rfl⟩
instance ct_4 : CT Tryz.prog 4 := ⟨by kernel_rfl⟩
instance ct_5 : CT Tryz.prog 5 := ⟨by kernel_rfl⟩
instance ct_52 : CT Tryz.prog 52 := ⟨by kernel_rfl⟩
instance ct_55 : CT Tryz.prog 55 := ⟨by kernel_rfl⟩
instance ct_74 : CT Tryz.prog 74 := ⟨by kernel_rfl⟩
instance ct_9 : CT Tryz.prog 9 := ⟨by kernel_rfl⟩
instance fc_57_3 : FC Tryz.prog 57 3 3 := ⟨by kernel_rfl⟩
instance ft_26_0 : FT Tryz.prog 26 0 0 1 := ⟨by kernel_rfl⟩
instance ft_26_2 : FT Tryz.prog 26 2 2 1 := ⟨by kernel_rfl⟩
instance ft_26_3 : FT Tryz.prog 26 3 3 1 := ⟨by kernel_rfl⟩
instance ft_26_4 : FT Tryz.prog 26 4 4 1 := ⟨by kernel_rfl⟩
instance ft_57_0 : FT Tryz.prog 57 0 0 1 := ⟨by kernel_rfl⟩
instance ft_57_1 : FT Tryz.prog 57 1 1 1 := ⟨by kernel_rfl⟩
instance ft_57_2 : FT Tryz.prog 57 2 2 1 := ⟨by kernel_rfl⟩
instance ft_57_3 : FT Tryz.prog 57 3 3 1 := ⟨by kernel_rfl⟩
instance ft_59_0 : FT Tryz.prog 59 0 0 1 := ⟨by kernel_rfl⟩
instance ft_59_1 : FT Tryz.prog 59 1 1 4 := ⟨by kernel_rfl⟩
instance ft_66_0 : FT Tryz.prog 66 0 0 1 := ⟨by kernel_rfl⟩
instance ft_66_1 : FT Tryz.prog 66 1 1 1 := ⟨by kernel_rfl⟩
instance ft_66_2 : FT Tryz.prog 66 2 2 1 := ⟨by kernel_rfl⟩
instance ft_66_3 : FT Tryz.prog 66 3 3 1 := ⟨by kernel_rfl⟩
instance ft_76_0 : FT Tryz.prog 76 0 0 1 := ⟨by kernel_rfl⟩
instance ft_76_1 : FT Tryz.prog 76 1 1 1 := ⟨by kernel_rfl⟩
instance ft_76_2 : FT Tryz.prog 76 2 2 1 := ⟨by kernel_rfl⟩
instance in_2 : INT Tryz.prog 2 .i64 := ⟨by kernel_rfl⟩
instance in_5 : INT Tryz.prog 5 .u8 := ⟨by kernel_rfl⟩
instance in_55 : INT Tryz.prog 55 .u64 := ⟨by kernel_rfl⟩
instance mx : MX Tryz.prog := ⟨mixed⟩
instance pl_38 : PLT Tryz.prog 38 [(0, 1), (1, 1)] := ⟨_, Tryz.underlying38, by kernel_rfl⟩
instance pl_54 : PLT Tryz.prog 54 [(0, 1), (1, 1)] := ⟨_, Tryz.underlying54, by kernel_rfl⟩
instance pl_59 : PLT Tryz.prog 59 [(0, 1), (1, 4)] := ⟨_, Tryz.underlying59, by kernel_rfl⟩
instance pl_76 : PLT Tryz.prog 76 [(0, 1), (1, 1), (2, 1)] := ⟨_, Tryz.underlying76, by kernel_rfl⟩
instance sl_23 : SLT Tryz.prog 23 9 1 := ⟨by kernel_rfl⟩
instance sl_24 : SLT Tryz.prog 24 66 4 := ⟨by kernel_rfl⟩
instance sl_36 : SLT Tryz.prog 36 54 2 := ⟨by kernel_rfl⟩
instance sl_39 : SLT Tryz.prog 39 59 5 := ⟨by kernel_rfl⟩
instance sl_52 : SLT Tryz.prog 52 5 1 := ⟨by kernel_rfl⟩
instance sz_3 : SZ Tryz.prog 3 1 := ⟨by kernel_rfl⟩
instance sz_36 : SZ Tryz.prog 36 1 := ⟨by kernel_rfl⟩
instance sz_38 : SZ Tryz.prog 38 2 := ⟨by kernel_rfl⟩
instance sz_4 : SZ Tryz.prog 4 1 := ⟨by kernel_rfl⟩
instance sz_5 : SZ Tryz.prog 5 1 := ⟨by kernel_rfl⟩
instance sz_52 : SZ Tryz.prog 52 1 := ⟨by kernel_rfl⟩
instance sz_55 : SZ Tryz.prog 55 1 := ⟨by kernel_rfl⟩
instance sz_57 : SZ Tryz.prog 57 4 := ⟨by kernel_rfl⟩
instance sz_59 : SZ Tryz.prog 59 5 := ⟨by kernel_rfl⟩
instance sz_66 : SZ Tryz.prog 66 4 := ⟨by kernel_rfl⟩
instance zt_38 : ZT Tryz.prog 38 (.agg #[(.int .i64 0), (Sl.val ⟨none, 0, 0⟩)]) := ⟨Tryz.t38, by kernel_rfl, by kernel_rfl⟩
instance zt_54 : ZT Tryz.prog 54 (.agg #[(.bool false), (Sl.val ⟨none, 0, 0⟩)]) := ⟨Tryz.t54, by kernel_rfl, by kernel_rfl⟩
instance zt_57 : ZT Tryz.prog 57 (.agg #[(.bool false), (Sl.val ⟨none, 0, 0⟩), (.int .i64 0), (.int .u64 0)]) := ⟨Tryz.t57, by kernel_rfl, by kernel_rfl⟩
instance zt_59 : ZT Tryz.prog 59 (.agg #[(.string ⟨#[]⟩), (.bool false), (Sl.val ⟨none, 0, 0⟩), (.int .i64 0), (.int .u64 0)]) := ⟨Tryz.t59, by kernel_rfl, by kernel_rfl⟩
instance zt_66 : ZT Tryz.prog 66 (.agg #[(.int .i64 0), (.string ⟨#[]⟩), (Sl.val ⟨none, 0, 0⟩), (.int .i64 0)]) := ⟨Tryz.t66, by kernel_rfl, by kernel_rfl⟩
instance zt_76 : ZT Tryz.prog 76 (.agg #[(.pointer none), (.map none), (Sl.val ⟨none, 0, 0⟩)]) := ⟨Tryz.t76, by kernel_rfl, by kernel_rfl⟩
end F_IREval
def eval_Run.b2 (Q : (Array Value) → Sl → K)  (X2 : Sl → Int → K) (t4_2 : Addr) (r6_2 : Addr) (t45_2 : Sl) (t46_2 : Int) (rows10_2 : Sl) (t47_2 : Int) : K :=
  Ite (decide (t47_2 < t46_2))
    (Idx t45_2 t47_2 1 fun t49 =>
    Ld t49 Value.string fun t50 =>
    Ld (r6_2.add 1) Value.map fun t56 =>
    Rd Tryz.prog (Instr.lookup 74 (.map t56) (.string t50) false) Value.agg fun t58 =>
    Bld #[(.string ⟨#[]⟩), (.bool false), (Sl.val ⟨none, 0, 0⟩), (.int .i64 0), (.int .u64 0)] ([(0, 1), (1, 4)][·]?) [(0, (.string t50)), (1, (.agg t58))] fun t59 =>
    Bld #[(.string ⟨#[]⟩), (.bool false), (Sl.val ⟨none, 0, 0⟩), (.int .i64 0), (.int .u64 0)] (fun i => some (i * 5, 5)) [(0, (.agg t59))] fun ct60 =>
    New 59 ct60 fun t60 =>
    Do Tryz.prog (Builtin.append_ #[39, 39] 39 #[(Sl.val rows10_2), (Sl.val (Sl.mk (some t60) 1 1))]) Sl.val fun t61 =>
    Ar (IntKind.wrap .i64 (t47_2 + 1)) fun t62 =>
    X2 t61 t62)
    (Ld (r6_2.add 2) Sl.val fun t66 =>
    StN t4_2 2 #[(.int .i64 0), (Sl.val t66)] <|
    LdN t4_2 2 fun r0 =>
    Q r0 rows10_2)
def eval_Run.s1 (Q : (Array Value) → Sl → K)  (t4_1 : Addr) (r6_1 : Addr) (code7_1 : Int) : K :=
  Ite (decide (code7_1 ≠ 0))
    (StN t4_1 2 #[(.int .i64 code7_1), (Sl.val ⟨none, 0, 0⟩)] <|
    LdN t4_1 2 fun r0 =>
    Q r0 (Sl.mk none 0 0))
    (Ld (r6_1.add 1) Value.map fun t43 =>
    maps_Keys_map_string_api_Record_string_api_Record.call t43 fun t44 =>
    slices_Sorted_string.call t44 fun t45 =>
    LoopK (α := Sl × Int) (fun X x => eval_Run.b2 Q (fun rows10_2 t47_2 => X (rows10_2, t47_2)) t4_1 r6_1 t45 (t45.n : Int) x.1 x.2) ((Sl.mk none 0 0), 0))
def eval_Run.b3 (Q : (Array Value) → Sl → K)  (X3 : Int → Int → K) (t4_3 : Addr) (r6_3 : Addr) (t24_3 : Sl) (t25_3 : Int) (code7_3 : Int) (t26_3 : Int) : K :=
  Ite (decide (t26_3 < t25_3))
    (Idx t24_3 t26_3 4 fun t28 =>
    LdN t28 4 fun t29 =>
    New 66 #[(.int .i64 0), (.string ⟨#[]⟩), (Sl.val ⟨none, 0, 0⟩), (.int .i64 0)] fun o9 =>
    StN o9 4 t29 <|
    LdN o9 4 fun t31 =>
    eval_run_step.call (some r6_3) t31 fun t32 =>
    Ite (decide (t32 ≠ 0))
      (eval_Run.s1 Q t4_3 r6_3 t32)
      (Ar (IntKind.wrap .i64 (t26_3 + 1)) fun t35 =>
      X3 t32 t35))
    (eval_Run.s1 Q t4_3 r6_3 code7_3)
def eval_Run (s0 : (Option Addr)) (t1 : (Array Value)) (Q : (Array Value) → Sl → K) : K :=
  New 26 t1 fun t3 =>
  New 38 #[(.int .i64 0), (Sl.val ⟨none, 0, 0⟩)] fun t4 =>
  Do Tryz.prog (Instr.makeMap 74 none) Value.map fun t14 =>
  New 76 #[(.pointer s0), (.map t14), (Sl.val ⟨none, 0, 0⟩)] fun t16 =>
  Ld t3 (Value.int .i64) fun t18 =>
  Ite (decide (t18 = 2))
    (LdN t3 5 fun t21 =>
    eval_run_move.call (some t16) t21 fun t22 =>
    eval_Run.s1 Q t4 t16 t22)
    (Ld (t3.add 3) Sl.val fun t24 =>
    LoopK (α := Int × Int) (fun X x => eval_Run.b3 Q (fun code7_3 t26_3 => X (code7_3, t26_3)) t4 t16 t24 (t24.n : Int) x.1 x.2) (0, 0))
theorem eval_Run_ok (s0 : (Option Addr)) (t1 : (Array Value)) (Q : (Array Value) → Sl → K) (w : World) (h : eval_Run s0 t1 Q w) : eval_Run.call s0 t1 Q w := by
  have hL14 : ∀ (t4_2 : Addr) (r6_2 : Addr) (t45_2 : Sl) (t46_2 : Int), LH 14 (fun x : Sl × Int => [(4, (.pointer (some t4_2))), (6, (.pointer (some r6_2))), (10, (Sl.val x.1)), (45, (Sl.val t45_2)), (46, (.int .i64 t46_2)), (47, (.int .i64 x.2))]) (fun X x => eval_Run.b2 Q (fun rows10_2 t47_2 => X (rows10_2, t47_2)) t4_2 r6_2 t45_2 t46_2 x.1 x.2) := by intros; exact ⟨⟩
  have hJ10 : JH 10 fun D => ∃ (t4_1 : Addr) (r6_1 : Addr), D [(4, (.pointer (some t4_1))), (6, (.pointer (some r6_1)))] (fun C => ∀ (code7_1 : Int), C [(4, (.pointer (some t4_1))), (6, (.pointer (some r6_1))), (7, (.int .i64 code7_1))] (eval_Run.s1 Q t4_1 r6_1 code7_1)) := by intros; exact ⟨fun _ ⟨_, _, h⟩ => ⟨_, _, h⟩⟩
  have hL5 : ∀ (t4_3 : Addr) (r6_3 : Addr) (t24_3 : Sl) (t25_3 : Int), LH 5 (fun x : Int × Int => [(4, (.pointer (some t4_3))), (6, (.pointer (some r6_3))), (7, (.int .i64 x.1)), (24, (Sl.val t24_3)), (25, (.int .i64 t25_3)), (26, (.int .i64 x.2))]) (fun X x => eval_Run.b3 Q (fun code7_3 t26_3 => X (code7_3, t26_3)) t4_3 r6_3 t24_3 t25_3 x.1 x.2) := by intros; exact ⟨⟩
  exact g_walk 69 h Tryz.func10
def eval_Apply.s2 (Q : K) (X1 : Int → K) (s0_2 : (Option Addr)) (t6_2 : Sl) (t7_2 : Int) (t8_2 : Int) : K :=
  Ar (IntKind.wrap .i64 (t8_2 + 1)) fun t42 =>
  X1 t42
def eval_Apply.s3 (Q : K) (X1 : Int → K) (s0_3 : (Option Addr)) (w5_3 : Addr) (t6_3 : Sl) (t7_3 : Int) (t8_3 : Int) : K :=
  Ld (w5_3.add 1) Value.bool fun t30 =>
  Ite t30
    (Ld w5_3 Value.string fun t33 =>
    Ld ((w5_3.add 1).add 1) Sl.val fun t36 =>
    store_Store_Put.call s0_3 t33 t36 <|
    eval_Apply.s2 Q X1 s0_3 t6_3 t7_3 t8_3)
    (Ld w5_3 Value.string fun t40 =>
    store_Store_Delete.call s0_3 t40 <|
    eval_Apply.s2 Q X1 s0_3 t6_3 t7_3 t8_3)
def eval_Apply.b1 (Q : K)  (X1 : Int → K) (s0_1 : (Option Addr)) (t6_1 : Sl) (t7_1 : Int) (t8_1 : Int) : K :=
  Ite (decide (t8_1 < t7_1))
    (Idx t6_1 t8_1 5 fun t10 =>
    LdN t10 5 fun t11 =>
    New 59 #[(.string ⟨#[]⟩), (.bool false), (Sl.val ⟨none, 0, 0⟩), (.int .i64 0), (.int .u64 0)] fun w5 =>
    StN w5 5 t11 <|
    Dr <| WithS fun S =>
    LdS S w5 Value.string fun t14 =>
    LdS S ((w5.add 1).add 3) (Value.int .u64) fun t19 =>
    store_Store_Get.call s0_1 t14 fun t15 =>
    Sv S <|
    Fld t15 3 (Value.int .u64) fun t16 =>
    Ite (decide (t16 ≠ t19))
      (Ld w5 Value.string fun t23 =>
      Ld ((w5.add 1).add 2) (Value.int .i64) fun t26 =>
      store_Store_Move.call s0_1 t23 t26 fun t27 =>
      eval_Apply.s3 Q X1 s0_1 w5 t6_1 t7_1 t8_1)
      (eval_Apply.s3 Q X1 s0_1 w5 t6_1 t7_1 t8_1))
    (Q)
def eval_Apply (s0 : (Option Addr)) (writes1 : Sl) (Q : K) : K :=
  LoopK (α := Int) (fun X x => eval_Apply.b1 Q X s0 writes1 (writes1.n : Int) x) 0
theorem eval_Apply_ok (s0 : (Option Addr)) (writes1 : Sl) (Q : K) (w : World) (h : eval_Apply s0 writes1 Q w) : eval_Apply.call s0 writes1 Q w := by
  have hJ8 : ∀ (X1 : Int → K), XH 1 X1 → JH 8 fun D => ∃ (s0_2 : (Option Addr)) (t6_2 : Sl) (t7_2 : Int) (t8_2 : Int), D [(0, (.pointer s0_2)), (6, (Sl.val t6_2)), (7, (.int .i64 t7_2)), (8, (.int .i64 t8_2))] (fun C => C [(0, (.pointer s0_2)), (6, (Sl.val t6_2)), (7, (.int .i64 t7_2)), (8, (.int .i64 t8_2))] (eval_Apply.s2 Q X1 s0_2 t6_2 t7_2 t8_2)) := by intros; exact ⟨fun _ ⟨_, _, _, _, h⟩ => ⟨_, _, h⟩⟩
  have hJ5 : ∀ (X1 : Int → K), XH 1 X1 → JH 5 fun D => ∃ (s0_3 : (Option Addr)) (w5_3 : Addr) (t6_3 : Sl) (t7_3 : Int) (t8_3 : Int), D [(0, (.pointer s0_3)), (5, (.pointer (some w5_3))), (6, (Sl.val t6_3)), (7, (.int .i64 t7_3)), (8, (.int .i64 t8_3))] (fun C => C [(0, (.pointer s0_3)), (5, (.pointer (some w5_3))), (6, (Sl.val t6_3)), (7, (.int .i64 t7_3)), (8, (.int .i64 t8_3))] (eval_Apply.s3 Q X1 s0_3 w5_3 t6_3 t7_3 t8_3)) := by intros; exact ⟨fun _ ⟨_, _, _, _, _, h⟩ => ⟨_, _, h⟩⟩
  have hD3 : DH 3 2 [] (.s [0, 1, 5, 6, 2, 7] (.a [(3, 1, .s [4, 8] .e)])) := by intros; exact ⟨⟩
  have hL1 : ∀ (s0_1 : (Option Addr)) (t6_1 : Sl) (t7_1 : Int), LH 1 (fun x : Int => [(0, (.pointer s0_1)), (6, (Sl.val t6_1)), (7, (.int .i64 t7_1)), (8, (.int .i64 x))]) (fun X x => eval_Apply.b1 Q X s0_1 t6_1 t7_1 x) := by intros; exact ⟨⟩
  exact g_walk 43 h Tryz.func17
def eval_run_move.b1 (Q : Int → K)  (X1 : Int → K) (r0_1 : (Option Addr)) (t3_1 : Addr) (t9_1 : Sl) (t10_1 : Int) (t11_1 : Int) : K :=
  Ite (decide (t11_1 < t10_1))
    (Idx t9_1 t11_1 1 fun t13 =>
    Ld t13 Value.string fun t14 =>
    eval_run_get.call r0_1 t14 fun t17 =>
    New 57 #[(.bool false), (Sl.val ⟨none, 0, 0⟩), (.int .i64 0), (.int .u64 0)] fun x7 =>
    StN x7 4 t17 <|
    Ld (x7.add 3) (Value.int .u64) fun t19 =>
    Ite (decide (t19 = 18446744073709551615))
      (Q 111)
      (Ld (t3_1.add 4) (Value.int .i64) fun t22 =>
      St (x7.add 2) (.int .i64 t22) <|
      Ld (x7.add 3) (Value.int .u64) fun t25 =>
      Ar (IntKind.wrap .u64 (t25 + 1)) fun t26 =>
      St (x7.add 3) (.int .u64 t26) <|
      Dr <|
      Nn r0_1 fun t29 =>
      Ld (t29.add 1) Value.map fun t31 =>
      LdN x7 4 fun t33 =>
      DoU Tryz.prog (Instr.mapUpdate 74 (.map t31) (.string t14) (.agg t33)) <|
      Ar (IntKind.wrap .i64 (t11_1 + 1)) fun t34 =>
      X1 t34))
    (Q 0)
def eval_run_move (r0 : (Option Addr)) (t1 : (Array Value)) (Q : Int → K) : K :=
  New 26 t1 fun t3 =>
  Ld (t3.add 2) Sl.val fun t9 =>
  LoopK (α := Int) (fun X x => eval_run_move.b1 Q X r0 t3 t9 (t9.n : Int) x) 0
theorem eval_run_move_ok (r0 : (Option Addr)) (t1 : (Array Value)) (Q : Int → K) (w : World) (h : eval_run_move r0 t1 Q w) : eval_run_move.call r0 t1 Q w := by
  have hD9 : DH 9 1 [6] (.s [0, 1, 2, 4, 3, 5] (.a [(6, 0, .e)])) := by intros; exact ⟨⟩
  have hL2 : ∀ (r0_1 : (Option Addr)) (t3_1 : Addr) (t9_1 : Sl) (t10_1 : Int), LH 2 (fun x : Int => [(0, (.pointer r0_1)), (3, (.pointer (some t3_1))), (9, (Sl.val t9_1)), (10, (.int .i64 t10_1)), (11, (.int .i64 x))]) (fun X x => eval_run_move.b1 Q X r0_1 t3_1 t9_1 t10_1 x) := by intros; exact ⟨⟩
  exact g_walk 35 h Tryz.func25
def eval_run_step.s1 (Q : Int → K)   : K :=
  Q 0
def eval_run_step.s2 (Q : Int → K)  (t70_2 : Bool) : K :=
  Ite t70_2
    (Q 110)
    (eval_run_step.s1 Q)
def eval_run_step (r0 : (Option Addr)) (o1 : (Array Value)) (Q : Int → K) : K :=
  New 66 o1 fun o3 =>
  Ld (o3.add 1) Value.string fun t8 =>
  eval_run_get.call r0 t8 fun t9 =>
  New 57 #[(.bool false), (Sl.val ⟨none, 0, 0⟩), (.int .i64 0), (.int .u64 0)] fun x5 =>
  StN x5 4 t9 <|
  Ld o3 (Value.int .i64) fun t11 =>
  Ite (decide (t11 = 1))
    (Dr <| WithS fun S =>
    Nn r0 fun t16 =>
    LdS S (t16.add 2) Sl.val fun t18 =>
    LdS S x5 Value.bool fun t20 =>
    LdS S (x5.add 1) Sl.val fun t22 =>
    bytes_Clone.call t22 fun t23 =>
    Sv S <|
    Bld #[(.bool false), (Sl.val ⟨none, 0, 0⟩)] (fun i => some (i * 2, 2)) [(0, (.agg #[(.bool t20), (Sl.val t23)]))] fun ct25 =>
    New 54 ct25 fun t25 =>
    Sv S <|
    Do Tryz.prog (Builtin.append_ #[36, 36] 36 #[(Sl.val t18), (Sl.val (Sl.mk (some t25) 1 1))]) Sl.val fun t26 =>
    St (t16.add 2) (Sl.val t26) <|
    eval_run_step.s1 Q)
    (Ite (decide (t11 = 7))
      (Dr <| WithS fun S =>
      Nn r0 fun t33 =>
      LdS S (t33.add 2) Sl.val fun t35 =>
      LdS S (o3.add 2) Sl.val fun t37 =>
      bytes_Clone.call t37 fun t38 =>
      Sv S <|
      Bld #[(.bool false), (Sl.val ⟨none, 0, 0⟩)] (fun i => some (i * 2, 2)) [(0, (.agg #[(.bool true), (Sl.val t38)]))] fun ct40 =>
      New 54 ct40 fun t40 =>
      Sv S <|
      Do Tryz.prog (Builtin.append_ #[36, 36] 36 #[(Sl.val t35), (Sl.val (Sl.mk (some t40) 1 1))]) Sl.val fun t41 =>
      St (t33.add 2) (Sl.val t41) <|
      eval_run_step.s1 Q)
      (Ite (decide (t11 = 2))
        (Ld (o3.add 1) Value.string fun t48 =>
        Ld (o3.add 2) Sl.val fun t50 =>
        eval_run_set.call r0 t48 true t50 <|
        eval_run_step.s1 Q)
        (Ite (decide (t11 = 3))
          (Ld (o3.add 1) Value.string fun t56 =>
          eval_run_set.call r0 t56 false (Sl.mk none 0 0) <|
          eval_run_step.s1 Q)
          (Ite (decide (t11 = 4))
            (Ld x5 Value.bool fun t61 =>
            Ite (!t61)
              (eval_run_step.s2 Q true)
              (Ld (x5.add 1) Sl.val fun t65 =>
              Ld (o3.add 2) Sl.val fun t67 =>
              bytes_Equal.call t65 t67 fun t68 =>
              eval_run_step.s2 Q (!t68)))
            (Ite (decide (t11 = 5))
              (Ld x5 Value.bool fun t74 =>
              Ite t74
                (Q 110)
                (eval_run_step.s1 Q))
              (Ite (decide (t11 = 6))
                (LdN o3 4 fun t78 =>
                eval_run_add.call r0 t78 fun t79 =>
                Q t79)
                (eval_run_step.s1 Q)))))))
theorem eval_run_step_ok (r0 : (Option Addr)) (o1 : (Array Value)) (Q : Int → K) (w : World) (h : eval_run_step r0 o1 Q w) : eval_run_step.call r0 o1 Q w := by
  have hJ19 : JH 19 fun D => D [] (fun C => C [] (eval_run_step.s1 Q)) := by intros; exact ⟨fun _ h => ⟨_, _, h⟩⟩
  have hD4 : DH 4 2 [12, 15] (.s [0, 1, 2, 3, 5, 7, 4, 6, 8] (.a [(9, 1, .s [10] (.a [(11, 1, .a [(12, 0, .s [13, 14] (.a [(15, 0, .e)]))])]))])) := by intros; exact ⟨⟩
  have hD6 : DH 6 2 [10, 13] (.s [0, 1, 2, 3, 5, 4, 6] (.a [(7, 1, .s [8] (.a [(9, 1, .a [(10, 0, .s [11, 12] (.a [(13, 0, .e)]))])]))])) := by intros; exact ⟨⟩
  have hJ13 : JH 13 fun D => D [] (fun C => ∀ (t70_2 : Bool), C [(70, (.bool t70_2))] (eval_run_step.s2 Q t70_2)) := by intros; exact ⟨fun _ h => ⟨_, _, h⟩⟩
  exact g_walk 80 h Tryz.func26
def eval_run_get (r0 : (Option Addr)) (key1 : ByteArray) (Q : (Array Value) → K) : K :=
  New 57 #[(.bool false), (Sl.val ⟨none, 0, 0⟩), (.int .i64 0), (.int .u64 0)] fun t4 =>
  Nn r0 fun t9 =>
  Ld (t9.add 1) Value.map fun t11 =>
  Rd2 Tryz.prog (Instr.lookup 74 (.map t11) (.string key1) true) (fun x y => .tuple #[Value.agg x, .bool y]) fun t13v t13ok =>
  New 57 #[(.bool false), (Sl.val ⟨none, 0, 0⟩), (.int .i64 0), (.int .u64 0)] fun x5 =>
  StN x5 4 t13v <|
  Ite t13ok
    (LdN x5 4 fun t17 =>
    StN t4 4 t17 <|
    LdN t4 4 fun r0 =>
    Q r0)
    (Ld t9 Value.pointer fun t21 =>
    store_Store_Get.call t21 key1 fun t23 =>
    StN t4 4 t23 <|
    LdN t4 4 fun r0 =>
    Q r0)
theorem eval_run_get_ok (r0 : (Option Addr)) (key1 : ByteArray) (Q : (Array Value) → K) (w : World) (h : eval_run_get r0 key1 Q w) : eval_run_get.call r0 key1 Q w := by
  exact g_walk 24 h Tryz.func45
def eval_run_set (r0 : (Option Addr)) (key1 : ByteArray) (has2 : Bool) (value3 : Sl) (Q : K) : K :=
  eval_run_get.call r0 key1 fun t11 =>
  New 57 #[(.bool false), (Sl.val ⟨none, 0, 0⟩), (.int .i64 0), (.int .u64 0)] fun x8 =>
  StN x8 4 t11 <|
  bytes_Clone.call value3 fun t14 =>
  St x8 (.bool has2) <|
  St (x8.add 1) (Sl.val t14) <|
  Dr <|
  Nn r0 fun t18 =>
  Ld (t18.add 1) Value.map fun t20 =>
  LdN x8 4 fun t22 =>
  DoU Tryz.prog (Instr.mapUpdate 74 (.map t20) (.string key1) (.agg t22)) <|
  Q
theorem eval_run_set_ok (r0 : (Option Addr)) (key1 : ByteArray) (has2 : Bool) (value3 : Sl) (Q : K) (w : World) (h : eval_run_set r0 key1 has2 value3 Q w) : eval_run_set.call r0 key1 has2 value3 Q w := by
  have hD2 : DH 2 1 [6] (.s [0, 1, 2, 4, 3, 5] (.a [(6, 0, .e)])) := by intros; exact ⟨⟩
  exact g_walk 23 h Tryz.func46
def eval_run_add.s2 (Q : Int → K)  (r0_2 : (Option Addr)) (o3_2 : Addr) (n6_2 : Int) (t43_2 : Bool) : K :=
  Ite t43_2
    (Q 111)
    (Dr <| WithS fun S =>
    LdS S (o3_2.add 1) Value.string fun t46 =>
    LdS S (o3_2.add 3) (Value.int .i64) fun t49 =>
    Ar (IntKind.wrap .i64 (n6_2 + t49)) fun t50 =>
    eval_Value.call t50 fun t51 =>
    Sv S <|
    eval_run_set.call r0_2 t46 true t51 <|
    Q 0)
def eval_run_add.s1 (Q : Int → K)  (r0_1 : (Option Addr)) (o3_1 : Addr) (n6_1 : Int) : K :=
  Ld (o3_1.add 3) (Value.int .i64) fun t23 =>
  Ite (decide ((0 : Int) < t23))
    (Ld (o3_1.add 3) (Value.int .i64) fun t28 =>
    Ar (IntKind.wrap .i64 (9223372036854775807 - t28)) fun t29 =>
    Ite (decide (t29 < n6_1))
      (eval_run_add.s2 Q r0_1 o3_1 n6_1 true)
      (Ld (o3_1.add 3) (Value.int .i64) fun t34 =>
      Ite (decide (t34 < 0))
        (Ld (o3_1.add 3) (Value.int .i64) fun t39 =>
        Ar (IntKind.wrap .i64 ((-9223372036854775808) - t39)) fun t40 =>
        eval_run_add.s2 Q r0_1 o3_1 n6_1 (decide (n6_1 < t40)))
        (eval_run_add.s2 Q r0_1 o3_1 n6_1 false)))
    (Ld (o3_1.add 3) (Value.int .i64) fun t34 =>
    Ite (decide (t34 < 0))
      (Ld (o3_1.add 3) (Value.int .i64) fun t39 =>
      Ar (IntKind.wrap .i64 ((-9223372036854775808) - t39)) fun t40 =>
      eval_run_add.s2 Q r0_1 o3_1 n6_1 (decide (n6_1 < t40)))
      (eval_run_add.s2 Q r0_1 o3_1 n6_1 false))
def eval_run_add (r0 : (Option Addr)) (o1 : (Array Value)) (Q : Int → K) : K :=
  New 66 o1 fun o3 =>
  Ld (o3.add 1) Value.string fun t10 =>
  eval_run_get.call r0 t10 fun t11 =>
  New 57 #[(.bool false), (Sl.val ⟨none, 0, 0⟩), (.int .i64 0), (.int .u64 0)] fun x5 =>
  StN x5 4 t11 <|
  Ld x5 Value.bool fun t13 =>
  Ite t13
    (Ld (x5.add 1) Sl.val fun t16 =>
    eval_Number.call t16 fun t17x0 t17x1 =>
    Ite (!t17x1)
      (Q 110)
      (eval_run_add.s1 Q r0 o3 t17x0))
    (eval_run_add.s1 Q r0 o3 0)
theorem eval_run_add_ok (r0 : (Option Addr)) (o1 : (Array Value)) (Q : Int → K) (w : World) (h : eval_run_add r0 o1 Q w) : eval_run_add.call r0 o1 Q w := by
  have hD9 : DH 9 2 [8] (.s [0, 1, 3, 4, 2, 5, 6] (.a [(7, 1, .a [(8, 0, .e)])])) := by intros; exact ⟨⟩
  have hJ8 : JH 8 fun D => ∃ (r0_2 : (Option Addr)) (o3_2 : Addr) (n6_2 : Int), D [(0, (.pointer r0_2)), (3, (.pointer (some o3_2))), (6, (.int .i64 n6_2))] (fun C => ∀ (t43_2 : Bool), C [(0, (.pointer r0_2)), (3, (.pointer (some o3_2))), (6, (.int .i64 n6_2)), (43, (.bool t43_2))] (eval_run_add.s2 Q r0_2 o3_2 n6_2 t43_2)) := by intros; exact ⟨fun _ ⟨_, _, _, h⟩ => ⟨_, _, h⟩⟩
  have hJ7 : JH 7 fun D => ∃ (r0_1 : (Option Addr)) (o3_1 : Addr), D [(0, (.pointer r0_1)), (3, (.pointer (some o3_1)))] (fun C => ∀ (n6_1 : Int), C [(0, (.pointer r0_1)), (3, (.pointer (some o3_1))), (6, (.int .i64 n6_1))] (eval_run_add.s1 Q r0_1 o3_1 n6_1)) := by intros; exact ⟨fun _ ⟨_, _, h⟩ => ⟨_, _, h⟩⟩
  exact g_walk 53 h Tryz.func48
def eval_Number.b1 (Q : Int → Bool → K)  (X1 : Int → Int → K) (t10_1 : Sl) (t11_1 : Int) (n4_1 : Int) (t12_1 : Int) : K :=
  Ite (decide (t12_1 < t11_1))
    (Idx t10_1 t12_1 1 fun t14 =>
    Ld t14 (Value.int .u8) fun t15 =>
    Cd (0 ≤ (8 : Int)) <|
    Ar (shlOf .u64 n4_1 8) fun t17 =>
    Ar (IntKind.wrap .u64 t15) fun t19 =>
    Ar (bitsOf .or .u64 t17 t19) fun t20 =>
    Ar (IntKind.wrap .i64 (t12_1 + 1)) fun t21 =>
    X1 t20 t21)
    (Ar (IntKind.wrap .i64 n4_1) fun t23 =>
    Q t23 true)
def eval_Number (value0 : Sl) (Q : Int → Bool → K) : K :=
  Ite (decide ((value0.n : Int) ≠ 8))
    (Q 0 false)
    (LoopK (α := Int × Int) (fun X x => eval_Number.b1 Q (fun n4_1 t12_1 => X (n4_1, t12_1)) value0 (value0.n : Int) x.1 x.2) (0, 0))
theorem eval_Number_ok (value0 : Sl) (Q : Int → Bool → K) (w : World) (h : eval_Number value0 Q w) : eval_Number.call value0 Q w := by
  have hL5 : ∀ (t10_1 : Sl) (t11_1 : Int), LH 5 (fun x : Int × Int => [(4, (.int .u64 x.1)), (10, (Sl.val t10_1)), (11, (.int .i64 t11_1)), (12, (.int .i64 x.2))]) (fun X x => eval_Number.b1 Q (fun n4_1 t12_1 => X (n4_1, t12_1)) t10_1 t11_1 x.1 x.2) := by intros; exact ⟨⟩
  exact g_walk 24 h Tryz.func63
def eval_Value.b1 (Q : Sl → K)  (X1 : Int → K) (n0_1 : Int) (out3_1 : Sl) (t7_1 : Int) (t8_1 : Int) : K :=
  Ite (decide (t8_1 < t7_1))
    (Ar (IntKind.wrap .i64 (7 - t8_1)) fun t13 =>
    Ar (IntKind.wrap .u64 n0_1) fun t15 =>
    Ar (IntKind.wrap .i64 (8 * t8_1)) fun t17 =>
    Cd (0 ≤ t17) <|
    Ar (shrOf .u64 t15 t17) fun t18 =>
    Ar (IntKind.wrap .u8 t18) fun t19 =>
    Idx out3_1 t13 1 fun t20 =>
    St t20 (.int .u8 t19) <|
    Ar (IntKind.wrap .i64 (t8_1 + 1)) fun t21 =>
    X1 t21)
    (Q out3_1)
def eval_Value (n0 : Int) (Q : Sl → K) : K :=
  Do Tryz.prog (Instr.makeSlice 52 (.int .i64 8) (.int .i64 8)) Sl.val fun t5 =>
  LoopK (α := Int) (fun X x => eval_Value.b1 Q X n0 t5 (t5.n : Int) x) 0
theorem eval_Value_ok (n0 : Int) (Q : Sl → K) (w : World) (h : eval_Value n0 Q w) : eval_Value.call n0 Q w := by
  have hL3 : ∀ (n0_1 : Int) (out3_1 : Sl) (t7_1 : Int), LH 3 (fun x : Int => [(0, (.int .i64 n0_1)), (3, (Sl.val out3_1)), (7, (.int .i64 t7_1)), (8, (.int .i64 x))]) (fun X x => eval_Value.b1 Q X n0_1 out3_1 t7_1 x) := by intros; exact ⟨⟩
  exact g_walk 23 h Tryz.func64
end Go.Proofs.YtinpgiafjjibnaaGreat
/- Plain forms of functions, and that their code comes to them (package ref07). -/
namespace Go.Proofs.YtinpgiafjjibnaaGreat
open Go Go.Sep
set_option linter.unusedVariables false
set_option linter.unusedSimpArgs false
set_option maxRecDepth 100000
set_option maxHeartbeats 4000000
attribute [local irreducible] G Gp Cx Tx Ex Sx Dx Ox Ax Lx Rx Fx Bx Bj Al Do Ld LdN St StN New CallF Ar DoU Rd Rd2 Pu Cd Ite Fv CallV CallY Ans0 Ans1 Ans2 Ans3 Ans4 Ans5 Ext Dead Dr WithS Sv LdS LdNS RdS Rd2S Nn Idx IdxA IdxS Fld Bld Slc SlcS Cat All LoopK RangeF RangeJ TakeD
namespace F_IRRef07
instance at_38 : AT Tryz.prog 38 2 := ⟨by kernel_rfl⟩
instance at_57 : AT Tryz.prog 57 4 := ⟨by kernel_rfl⟩
instance at_66 : AT Tryz.prog 66 4 := ⟨by kernel_rfl⟩
instance cb_22 : CB Tryz.prog 22 := ⟨by kernel_rfl⟩
instance cb_24 : CB Tryz.prog 24 := ⟨by kernel_rfl⟩
instance cb_36 : CB Tryz.prog 36 := ⟨by kernel_rfl⟩
instance cb_37 : CB Tryz.prog 37 := ⟨by kernel_rfl⟩
instance cb_38 : CB Tryz.prog 38 := ⟨by kernel_rfl⟩
instance cb_39 : CB Tryz.prog 39 := ⟨by kernel_rfl⟩
instance cb_42 : CB Tryz.prog 42 := ⟨by kernel_rfl⟩
instance cb_55 : CB Tryz.prog 55 := ⟨by kernel_rfl⟩
instance cb_56 : CB Tryz.prog 56 := ⟨by kernel_rfl⟩
instance cb_57 : CB Tryz.prog 57 := ⟨by kernel_rfl⟩
instance cb_58 : CB Tryz.prog 58 := ⟨by kernel_rfl⟩
instance ct_2 : CT Tryz.prog 2 := ⟨by kernel_rfl⟩
instance ct_23 : CT Tryz.prog 23 := ⟨by kernel_rfl⟩
instance ct_24 : CT Tryz.prog 24 := ⟨by kernel_rfl⟩
instance ct_3 : CT Tryz.prog 3 := ⟨by kernel_rfl⟩
instance ct_35 : CT Tryz.prog 35 := ⟨by kernel_rfl⟩
instance ct_36 : CT Tryz.prog 36 := ⟨by kernel_rfl⟩
instance ct_4 : CT Tryz.prog 4 := ⟨by kernel_rfl⟩
instance ct_5 : CT Tryz.prog 5 := ⟨by kernel_rfl⟩
instance ct_52 : CT Tryz.prog 52 := ⟨by kernel_rfl⟩
instance ct_9 : CT Tryz.prog 9 := ⟨by kernel_rfl⟩
instance ft_26_0 : FT Tryz.prog 26 0 0 1 := ⟨by kernel_rfl⟩
instance ft_26_2 : FT Tryz.prog 26 2 2 1 := ⟨by kernel_rfl⟩
instance ft_26_3 : FT Tryz.prog 26 3 3 1 := ⟨by kernel_rfl⟩
instance ft_26_4 : FT Tryz.prog 26 4 4 1 := ⟨by kernel_rfl⟩
instance ft_38_0 : FT Tryz.prog 38 0 0 1 := ⟨by kernel_rfl⟩
instance ft_38_1 : FT Tryz.prog 38 1 1 1 := ⟨by kernel_rfl⟩
instance ft_54_0 : FT Tryz.prog 54 0 0 1 := ⟨by kernel_rfl⟩
instance ft_54_1 : FT Tryz.prog 54 1 1 1 := ⟨by kernel_rfl⟩
instance ft_57_0 : FT Tryz.prog 57 0 0 1 := ⟨by kernel_rfl⟩
instance ft_57_1 : FT Tryz.prog 57 1 1 1 := ⟨by kernel_rfl⟩
instance ft_59_0 : FT Tryz.prog 59 0 0 1 := ⟨by kernel_rfl⟩
instance ft_59_1 : FT Tryz.prog 59 1 1 4 := ⟨by kernel_rfl⟩
instance ft_66_0 : FT Tryz.prog 66 0 0 1 := ⟨by kernel_rfl⟩
instance ft_66_1 : FT Tryz.prog 66 1 1 1 := ⟨by kernel_rfl⟩
instance ft_66_2 : FT Tryz.prog 66 2 2 1 := ⟨by kernel_rfl⟩
instance ft_66_3 : FT Tryz.prog 66 3 3 1 := ⟨by kernel_rfl⟩
instance in_2 : INT Tryz.prog 2 .i64 := ⟨by kernel_rfl⟩
instance in_5 : INT Tryz.prog 5 .u8 := ⟨by kernel_rfl⟩
instance in_55 : INT Tryz.prog 55 .u64 := ⟨by kernel_rfl⟩
instance mx : MX Tryz.prog := ⟨mixed⟩
instance pl_26 : PLT Tryz.prog 26 [(0, 1), (1, 1), (2, 1), (3, 1), (4, 1)] := ⟨_, Tryz.underlying26, by kernel_rfl⟩
instance pl_38 : PLT Tryz.prog 38 [(0, 1), (1, 1)] := ⟨_, Tryz.underlying38, by kernel_rfl⟩
instance pl_54 : PLT Tryz.prog 54 [(0, 1), (1, 1)] := ⟨_, Tryz.underlying54, by kernel_rfl⟩
instance pl_59 : PLT Tryz.prog 59 [(0, 1), (1, 4)] := ⟨_, Tryz.underlying59, by kernel_rfl⟩
instance sl_23 : SLT Tryz.prog 23 9 1 := ⟨by kernel_rfl⟩
instance sl_24 : SLT Tryz.prog 24 66 4 := ⟨by kernel_rfl⟩
instance sl_36 : SLT Tryz.prog 36 54 2 := ⟨by kernel_rfl⟩
instance sl_39 : SLT Tryz.prog 39 59 5 := ⟨by kernel_rfl⟩
instance sl_52 : SLT Tryz.prog 52 5 1 := ⟨by kernel_rfl⟩
instance sz_38 : SZ Tryz.prog 38 2 := ⟨by kernel_rfl⟩
instance sz_5 : SZ Tryz.prog 5 1 := ⟨by kernel_rfl⟩
instance sz_57 : SZ Tryz.prog 57 4 := ⟨by kernel_rfl⟩
instance sz_66 : SZ Tryz.prog 66 4 := ⟨by kernel_rfl⟩
instance un_4 : UN Tryz.prog 4 .bool := ⟨Tryz.underlying4⟩
instance zt_26 : ZT Tryz.prog 26 (.agg #[(.int .i64 0), (Sl.val ⟨none, 0, 0⟩), (Sl.val ⟨none, 0, 0⟩), (Sl.val ⟨none, 0, 0⟩), (.int .i64 0)]) := ⟨Tryz.t26, by kernel_rfl, by kernel_rfl⟩
instance zt_38 : ZT Tryz.prog 38 (.agg #[(.int .i64 0), (Sl.val ⟨none, 0, 0⟩)]) := ⟨Tryz.t38, by kernel_rfl, by kernel_rfl⟩
instance zt_54 : ZT Tryz.prog 54 (.agg #[(.bool false), (Sl.val ⟨none, 0, 0⟩)]) := ⟨Tryz.t54, by kernel_rfl, by kernel_rfl⟩
instance zt_57 : ZT Tryz.prog 57 (.agg #[(.bool false), (Sl.val ⟨none, 0, 0⟩), (.int .i64 0), (.int .u64 0)]) := ⟨Tryz.t57, by kernel_rfl, by kernel_rfl⟩
instance zt_59 : ZT Tryz.prog 59 (.agg #[(.string ⟨#[]⟩), (.bool false), (Sl.val ⟨none, 0, 0⟩), (.int .i64 0), (.int .u64 0)]) := ⟨Tryz.t59, by kernel_rfl, by kernel_rfl⟩
instance zt_66 : ZT Tryz.prog 66 (.agg #[(.int .i64 0), (.string ⟨#[]⟩), (Sl.val ⟨none, 0, 0⟩), (.int .i64 0)]) := ⟨Tryz.t66, by kernel_rfl, by kernel_rfl⟩
instance zt_9 : ZT Tryz.prog 9 (.string ⟨#[]⟩) := ⟨Tryz.t9, by kernel_rfl, by kernel_rfl⟩
end F_IRRef07
def ref07_Run.s1 (Q : (Array Value) → Sl → K)  (t4_1 : Addr) (t5_1 : Sl) : K :=
  LdN t4_1 2 fun r0 =>
  Q r0 t5_1
def ref07_Run.s3 (Q : (Array Value) → Sl → K) (X2 : Sl → Sl → Int → K) (t3_3 : Addr) (t4_3 : Addr) (c6_3 : (Option Addr)) (outs7_3 : Sl) (touched8_3 : Sl) (i9_3 : Int) : K :=
  Ar (IntKind.wrap .i64 (i9_3 + 1)) fun t53 =>
  X2 outs7_3 touched8_3 t53
def ref07_Run.s4 (Q : (Array Value) → Sl → K) (X2 : Sl → Sl → Int → K) (t3_4 : Addr) (t4_4 : Addr) (c6_4 : (Option Addr)) (outs7_4 : Sl) (touched8_4 : Sl) (i9_4 : Int) (o10_4 : Addr) (t85_4 : Bool) : K :=
  Ite t85_4
    (Ld (o10_4.add 1) Value.string fun t88 =>
    New 9 #[(.string t88)] fun t89 =>
    Do Tryz.prog (Builtin.append_ #[23, 23] 23 #[(Sl.val touched8_4), (Sl.val (Sl.mk (some t89) 1 1))]) Sl.val fun t90 =>
    ref07_Run.s3 Q X2 t3_4 t4_4 c6_4 outs7_4 t90 i9_4)
    (ref07_Run.s3 Q X2 t3_4 t4_4 c6_4 outs7_4 touched8_4 i9_4)
def ref07_Run.b5 (Q : (Array Value) → Sl → K) (X2 : Sl → Sl → Int → K) (X5 : Sl → Int → K) (t4_5 : Addr) (c6_5 : (Option Addr)) (outs7_5 : Sl) (keys14_5 : Sl) (rows13_5 : Sl) (i15_5 : Int) : K :=
  Ite (decide (i15_5 < (keys14_5.n : Int)))
    (Dr <| WithS fun S =>
    Idx keys14_5 i15_5 1 fun t104 =>
    Idx keys14_5 i15_5 1 fun t109 =>
    LdS S t104 Value.string fun t105 =>
    LdS S t109 Value.string fun t110 =>
    ref06_Store_Get.call c6_5 t110 fun t111 =>
    Sv S <|
    Bld #[(.string ⟨#[]⟩), (.bool false), (Sl.val ⟨none, 0, 0⟩), (.int .i64 0), (.int .u64 0)] ([(0, 1), (1, 4)][·]?) [(0, (.string t105)), (1, (.agg t111))] fun t112 =>
    Bld #[(.string ⟨#[]⟩), (.bool false), (Sl.val ⟨none, 0, 0⟩), (.int .i64 0), (.int .u64 0)] (fun i => some (i * 5, 5)) [(0, (.agg t112))] fun ct113 =>
    New 59 ct113 fun t113 =>
    Do Tryz.prog (Builtin.append_ #[39, 39] 39 #[(Sl.val rows13_5), (Sl.val (Sl.mk (some t113) 1 1))]) Sl.val fun t114 =>
    Ar (IntKind.wrap .i64 (i15_5 + 1)) fun t100 =>
    X5 t114 t100)
    (StN t4_5 2 #[(.int .i64 0), (Sl.val outs7_5)] <|
    LdN t4_5 2 fun r0 =>
    Q r0 rows13_5)
def ref07_Run.b2 (Q : (Array Value) → Sl → K)  (X2 : Sl → Sl → Int → K) (t3_2 : Addr) (t4_2 : Addr) (c6_2 : (Option Addr)) (outs7_2 : Sl) (touched8_2 : Sl) (i9_2 : Int) : K :=
  Ld (t3_2.add 3) Sl.val fun t49 =>
  Ite (decide (i9_2 < (t49.n : Int)))
    (Ld (t3_2.add 3) Sl.val fun t55 =>
    Idx t55 i9_2 4 fun t57 =>
    LdN t57 4 fun t58 =>
    New 66 #[(.int .i64 0), (.string ⟨#[]⟩), (Sl.val ⟨none, 0, 0⟩), (.int .i64 0)] fun o10 =>
    StN o10 4 t58 <|
    LdN o10 4 fun t61 =>
    ref07_step.call c6_2 t61 fun t62x0 t62x1 =>
    Ite (decide (t62x1 ≠ 0))
      (New 59 #[] fun t69 =>
      StN t4_2 2 #[(.int .i64 t62x1), (Sl.val ⟨none, 0, 0⟩)] <|
      LdN t4_2 2 fun r0 =>
      Q r0 (Sl.mk (some t69) 0 0))
      (Do Tryz.prog (Builtin.append_ #[36, 36] 36 #[(Sl.val outs7_2), (Sl.val t62x0)]) Sl.val fun t72 =>
      Ld o10 (Value.int .i64) fun t74 =>
      Ite (decide (t74 = 2))
        (ref07_Run.s4 Q X2 t3_2 t4_2 c6_2 t72 touched8_2 i9_2 o10 true)
        (Ld o10 (Value.int .i64) fun t78 =>
        Ite (decide (t78 = 3))
          (ref07_Run.s4 Q X2 t3_2 t4_2 c6_2 t72 touched8_2 i9_2 o10 true)
          (Ld o10 (Value.int .i64) fun t83 =>
          ref07_Run.s4 Q X2 t3_2 t4_2 c6_2 t72 touched8_2 i9_2 o10 (decide (t83 = 6))))))
    (New 59 #[] fun t91 =>
    ref05_Keys.call #[(.int .i64 0), (Sl.val ⟨none, 0, 0⟩), (Sl.val touched8_2), (Sl.val ⟨none, 0, 0⟩), (.int .i64 0)] fun t94 =>
    LoopK (α := Sl × Int) (fun X x => ref07_Run.b5 Q X2 (fun rows13_5 i15_5 => X (rows13_5, i15_5)) t4_2 c6_2 outs7_2 t94 x.1 x.2) ((Sl.mk (some t91) 0 0), 0))
def ref07_Run (s0 : (Option Addr)) (t1 : (Array Value)) (Q : (Array Value) → Sl → K) : K :=
  New 26 t1 fun t3 =>
  New 38 #[(.int .i64 0), (Sl.val ⟨none, 0, 0⟩)] fun t4 =>
  ref06_Store_Copy.call s0 fun t17 =>
  New 54 #[] fun t18 =>
  New 9 #[] fun t19 =>
  Ld t3 (Value.int .i64) fun t21 =>
  Ite (decide (t21 = 2))
    (Dr <|
    Ld (t3.add 2) Sl.val fun t25 =>
    Idx t25 0 1 fun t26 =>
    Ld t26 Value.string fun t27 =>
    Ld (t3.add 4) (Value.int .i64) fun t29 =>
    ref06_Store_Move.call t17 t27 t29 fun t30 =>
    Ite (decide (t30 ≠ 0))
      (New 59 #[] fun t33 =>
      StN t4 2 #[(.int .i64 111), (Sl.val ⟨none, 0, 0⟩)] <|
      LdN t4 2 fun r0 =>
      Q r0 (Sl.mk (some t33) 0 0))
      (Dr <| WithS fun S =>
      LdS S (t3.add 2) Sl.val fun t36 =>
      Idx t36 0 1 fun t37 =>
      LdS S t37 Value.string fun t38 =>
      LdS S (t3.add 2) Sl.val fun t41 =>
      Idx t41 0 1 fun t42 =>
      LdS S t42 Value.string fun t43 =>
      ref06_Store_Get.call t17 t43 fun t44 =>
      Sv S <|
      Bld #[(.string ⟨#[]⟩), (.bool false), (Sl.val ⟨none, 0, 0⟩), (.int .i64 0), (.int .u64 0)] ([(0, 1), (1, 4)][·]?) [(0, (.string t38)), (1, (.agg t44))] fun t45 =>
      All [
        (Bld #[(.string ⟨#[]⟩), (.bool false), (Sl.val ⟨none, 0, 0⟩), (.int .i64 0), (.int .u64 0)] (fun i => some (i * 5, 5)) [(0, (.agg t45))] fun ct46 =>
        New 59 ct46 fun t46 =>
        StN t4 2 #[(.int .i64 0), (Sl.val ⟨none, 0, 0⟩)] <|
        ref07_Run.s1 Q t4 (Sl.mk (some t46) 1 1)),
        (StN t4 2 #[(.int .i64 0), (Sl.val ⟨none, 0, 0⟩)] <|
        Sv S <|
        Bld #[(.string ⟨#[]⟩), (.bool false), (Sl.val ⟨none, 0, 0⟩), (.int .i64 0), (.int .u64 0)] (fun i => some (i * 5, 5)) [(0, (.agg t45))] fun ct46 =>
        New 59 ct46 fun t46 =>
        ref07_Run.s1 Q t4 (Sl.mk (some t46) 1 1))
        ]))
    (LoopK (α := Sl × Sl × Int) (fun X x => ref07_Run.b2 Q (fun outs7_2 touched8_2 i9_2 => X (outs7_2, touched8_2, i9_2)) t3 t4 t17 x.1 x.2.1 x.2.2) ((Sl.mk (some t18) 0 0), (Sl.mk (some t19) 0 0), 0))
theorem ref07_Run_ok (s0 : (Option Addr)) (t1 : (Array Value)) (Q : (Array Value) → Sl → K) (w : World) (h : ref07_Run s0 t1 Q w) : ref07_Run.call s0 t1 Q w := by
  have hJ1000005 : JH 1000005 fun D => ∃ (t4_1 : Addr), D [(4, (.pointer (some t4_1)))] (fun C => ∀ (t5_1 : Sl), C [(4, (.pointer (some t4_1))), (5, (Sl.val t5_1))] (ref07_Run.s1 Q t4_1 t5_1)) := by intros; exact ⟨fun _ ⟨_, h⟩ => ⟨_, _, h⟩⟩
  have hD5 : DH 5 2 [12] (.s [0, 1, 5, 6, 2, 3, 4, 7, 8, 9] (.a [(10, 1, .s [11] (.a [(12, 0, .a [(13, 0, .s [14] .e)]), (13, 1, .a [(12, 0, .s [14] .e)])]))])) := by intros; exact ⟨⟩
  have hD3 : DH 3 1 [7] (.s [0, 1, 5, 2, 3, 4, 6] (.a [(7, 0, .s [8] .e)])) := by intros; exact ⟨⟩
  have hJ8 : ∀ (X2 : (Sl × Sl × Int) → K), XH 7 X2 → JH 8 fun D => ∃ (t3_3 : Addr) (t4_3 : Addr) (c6_3 : (Option Addr)) (i9_3 : Int), D [(3, (.pointer (some t3_3))), (4, (.pointer (some t4_3))), (6, (.pointer c6_3)), (9, (.int .i64 i9_3))] (fun C => ∀ (outs7_3 : Sl) (touched8_3 : Sl), C [(3, (.pointer (some t3_3))), (4, (.pointer (some t4_3))), (6, (.pointer c6_3)), (7, (Sl.val outs7_3)), (8, (Sl.val touched8_3)), (9, (.int .i64 i9_3))] (ref07_Run.s3 Q (fun outs7_2 touched8_2 i9_2 => X2 (outs7_2, touched8_2, i9_2)) t3_3 t4_3 c6_3 outs7_3 touched8_3 i9_3)) := by intros; exact ⟨fun _ ⟨_, _, _, _, h⟩ => ⟨_, _, h⟩⟩
  have hJ15 : ∀ (X2 : (Sl × Sl × Int) → K), XH 7 X2 → JH 15 fun D => ∃ (t3_4 : Addr) (t4_4 : Addr) (c6_4 : (Option Addr)) (outs7_4 : Sl) (touched8_4 : Sl) (i9_4 : Int) (o10_4 : Addr), D [(3, (.pointer (some t3_4))), (4, (.pointer (some t4_4))), (6, (.pointer c6_4)), (7, (Sl.val outs7_4)), (8, (Sl.val touched8_4)), (9, (.int .i64 i9_4)), (10, (.pointer (some o10_4)))] (fun C => ∀ (t85_4 : Bool), C [(3, (.pointer (some t3_4))), (4, (.pointer (some t4_4))), (6, (.pointer c6_4)), (7, (Sl.val outs7_4)), (8, (Sl.val touched8_4)), (9, (.int .i64 i9_4)), (10, (.pointer (some o10_4))), (85, (.bool t85_4))] (ref07_Run.s4 Q (fun outs7_2 touched8_2 i9_2 => X2 (outs7_2, touched8_2, i9_2)) t3_4 t4_4 c6_4 outs7_4 touched8_4 i9_4 o10_4 t85_4)) := by intros; exact ⟨fun _ ⟨_, _, _, _, _, _, _, h⟩ => ⟨_, _, h⟩⟩
  have hD21 : DH 21 2 [12, 13] (.s [0, 1, 2, 3, 5, 6, 7, 8, 4, 9] (.a [(10, 1, .s [11] (.a [(12, 0, .a [(13, 0, .s [14] .e)])]))])) := by intros; exact ⟨⟩
  have hL19 : ∀ (X2 : (Sl × Sl × Int) → K), XH 7 X2 → ∀ (t4_5 : Addr) (c6_5 : (Option Addr)) (outs7_5 : Sl) (keys14_5 : Sl), LH 19 (fun x : Sl × Int => [(4, (.pointer (some t4_5))), (6, (.pointer c6_5)), (7, (Sl.val outs7_5)), (13, (Sl.val x.1)), (14, (Sl.val keys14_5)), (15, (.int .i64 x.2))]) (fun X x => ref07_Run.b5 Q (fun outs7_2 touched8_2 i9_2 => X2 (outs7_2, touched8_2, i9_2)) (fun rows13_5 i15_5 => X (rows13_5, i15_5)) t4_5 c6_5 outs7_5 keys14_5 x.1 x.2) := by intros; exact ⟨⟩
  have hL7 : ∀ (t3_2 : Addr) (t4_2 : Addr) (c6_2 : (Option Addr)), LH 7 (fun x : Sl × Sl × Int => [(3, (.pointer (some t3_2))), (4, (.pointer (some t4_2))), (6, (.pointer c6_2)), (7, (Sl.val x.1)), (8, (Sl.val x.2.1)), (9, (.int .i64 x.2.2))]) (fun X x => ref07_Run.b2 Q (fun outs7_2 touched8_2 i9_2 => X (outs7_2, touched8_2, i9_2)) t3_2 t4_2 c6_2 x.1 x.2.1 x.2.2) := by intros; exact ⟨⟩
  exact g_walk 118 h Tryz.func15
def ref07_Same.s3 (Q : Bool → K) (X2 : Int → K) (a2_3 : Addr) (b3_3 : Addr) (i5_3 : Int) (t56_3 : Bool) : K :=
  Ite t56_3
    (Q false)
    (Ar (IntKind.wrap .i64 (i5_3 + 1)) fun t26 =>
    X2 t26)
def ref07_Same.b2 (Q : Bool → K)  (X2 : Int → K) (a2_2 : Addr) (b3_2 : Addr) (i5_2 : Int) : K :=
  Ld (a2_2.add 1) Sl.val fun t22 =>
  Ite (decide (i5_2 < (t22.n : Int)))
    (Dr <|
    Ld (a2_2.add 1) Sl.val fun t28 =>
    Idx t28 i5_2 2 fun t30 =>
    Ld t30 Value.bool fun t32 =>
    Ld (b3_2.add 1) Sl.val fun t34 =>
    Idx t34 i5_2 2 fun t36 =>
    Ld t36 Value.bool fun t38 =>
    Ite (!(t32 == t38))
      (ref07_Same.s3 Q X2 a2_2 b3_2 i5_2 true)
      (Ld (a2_2.add 1) Sl.val fun t42 =>
      Idx t42 i5_2 2 fun t44 =>
      Ld (t44.add 1) Sl.val fun t46 =>
      Rd Tryz.prog (convert 52 9 (Sl.val t46)) Value.string fun t47 =>
      Ld (b3_2.add 1) Sl.val fun t49 =>
      Idx t49 i5_2 2 fun t51 =>
      Ld (t51.add 1) Sl.val fun t53 =>
      Rd Tryz.prog (convert 52 9 (Sl.val t53)) Value.string fun t54 =>
      ref07_Same.s3 Q X2 a2_2 b3_2 i5_2 (!(t47.toList == t54.toList))))
    (Q true)
def ref07_Same.s1 (Q : Bool → K)  (a2_1 : Addr) (b3_1 : Addr) (t19_1 : Bool) : K :=
  Ite t19_1
    (Q false)
    (LoopK (α := Int) (fun X x => ref07_Same.b2 Q X a2_1 b3_1 x) 0)
def ref07_Same (a0 : (Array Value)) (b1 : (Array Value)) (Q : Bool → K) : K :=
  New 38 a0 fun a2 =>
  New 38 b1 fun b3 =>
  Ld a2 (Value.int .i64) fun t7 =>
  Ld b3 (Value.int .i64) fun t9 =>
  Ite (decide (t7 ≠ t9))
    (ref07_Same.s1 Q a2 b3 true)
    (Ld (a2.add 1) Sl.val fun t13 =>
    Ld (b3.add 1) Sl.val fun t16 =>
    ref07_Same.s1 Q a2 b3 (decide ((t13.n : Int) ≠ (t16.n : Int))))
theorem ref07_Same_ok (a0 : (Array Value)) (b1 : (Array Value)) (Q : Bool → K) (w : World) (h : ref07_Same a0 b1 Q w) : ref07_Same.call a0 b1 Q w := by
  have hJ7 : ∀ (X2 : Int → K), XH 4 X2 → JH 7 fun D => ∃ (a2_3 : Addr) (b3_3 : Addr) (i5_3 : Int), D [(2, (.pointer (some a2_3))), (3, (.pointer (some b3_3))), (5, (.int .i64 i5_3))] (fun C => ∀ (t56_3 : Bool), C [(2, (.pointer (some a2_3))), (3, (.pointer (some b3_3))), (5, (.int .i64 i5_3)), (56, (.bool t56_3))] (ref07_Same.s3 Q X2 a2_3 b3_3 i5_3 t56_3)) := by intros; exact ⟨fun _ ⟨_, _, _, h⟩ => ⟨_, _, h⟩⟩
  have hL4 : ∀ (a2_2 : Addr) (b3_2 : Addr), LH 4 (fun x : Int => [(2, (.pointer (some a2_2))), (3, (.pointer (some b3_2))), (5, (.int .i64 x))]) (fun X x => ref07_Same.b2 Q X a2_2 b3_2 x) := by intros; exact ⟨⟩
  have hJ2 : JH 2 fun D => ∃ (a2_1 : Addr) (b3_1 : Addr), D [(2, (.pointer (some a2_1))), (3, (.pointer (some b3_1)))] (fun C => ∀ (t19_1 : Bool), C [(2, (.pointer (some a2_1))), (3, (.pointer (some b3_1))), (19, (.bool t19_1))] (ref07_Same.s1 Q a2_1 b3_1 t19_1)) := by intros; exact ⟨fun _ ⟨_, _, h⟩ => ⟨_, _, h⟩⟩
  exact g_walk 57 h Tryz.func16
def ref07_Apply.b1 (Q : K)  (X1 : Int → K) (s0_1 : (Option Addr)) (rows1_1 : Sl) (i4_1 : Int) : K :=
  Ite (decide (i4_1 < (rows1_1.n : Int)))
    (Dr <|
    Idx rows1_1 i4_1 5 fun t14 =>
    Idx rows1_1 i4_1 5 fun t19 =>
    Ld t14 Value.string fun t16 =>
    LdN (t19.add 1) 4 fun t21 =>
    ref06_Store_Set.call s0_1 t16 t21 <|
    Ar (IntKind.wrap .i64 (i4_1 + 1)) fun t10 =>
    X1 t10)
    (Q)
def ref07_Apply (s0 : (Option Addr)) (rows1 : Sl) (Q : K) : K :=
  LoopK (α := Int) (fun X x => ref07_Apply.b1 Q X s0 rows1 x) 0
theorem ref07_Apply_ok (s0 : (Option Addr)) (rows1 : Sl) (Q : K) (w : World) (h : ref07_Apply s0 rows1 Q w) : ref07_Apply.call s0 rows1 Q w := by
  have hD3 : DH 3 1 [11] (.s [0, 1, 2, 3, 4, 6, 7, 8, 9, 5, 10] (.a [(11, 0, .e)])) := by intros; exact ⟨⟩
  have hL1 : ∀ (s0_1 : (Option Addr)) (rows1_1 : Sl), LH 1 (fun x : Int => [(0, (.pointer s0_1)), (1, (Sl.val rows1_1)), (4, (.int .i64 x))]) (fun X x => ref07_Apply.b1 Q X s0_1 rows1_1 x) := by intros; exact ⟨⟩
  exact g_walk 23 h Tryz.func18
def ref07_step.s1 (Q : Sl → Int → K)   : K :=
  New 54 #[] fun t94 =>
  Q (Sl.mk (some t94) 0 0) 0
def ref07_step.s2 (Q : Sl → Int → K)  (t87_2 : Bool) : K :=
  Ite t87_2
    (New 54 #[] fun t88 =>
    Q (Sl.mk (some t88) 0 0) 110)
    (ref07_step.s1 Q)
def ref07_step.s3 (Q : Sl → Int → K)  (s0_3 : (Option Addr)) (o3_3 : Addr) (n7_3 : Int) (t28_3 : Bool) : K :=
  Ite t28_3
    (New 54 #[] fun t29 =>
    Q (Sl.mk (some t29) 0 0) 110)
    (Ld (o3_3.add 3) (Value.int .i64) fun t33 =>
    ref07_sum.call n7_3 t33 fun t34x0 t34x1 =>
    Ite (!t34x1)
      (New 54 #[] fun t39 =>
      Q (Sl.mk (some t39) 0 0) 111)
      (Dr <| WithS fun S =>
      LdS S (o3_3.add 1) Value.string fun t42 =>
      ref07_Value.call t34x0 fun t44 =>
      Sv S <|
      ref06_Store_Put.call s0_3 t42 t44 <|
      ref07_step.s1 Q))
def ref07_step (s0 : (Option Addr)) (o1 : (Array Value)) (Q : Sl → Int → K) : K :=
  New 66 o1 fun o3 =>
  Ld (o3.add 1) Value.string fun t13 =>
  ref06_Store_Get.call s0 t13 fun t14 =>
  New 57 #[(.bool false), (Sl.val ⟨none, 0, 0⟩), (.int .i64 0), (.int .u64 0)] fun r6 =>
  StN r6 4 t14 <|
  Ld o3 (Value.int .i64) fun t16 =>
  Ite (decide (t16 = 1))
    (Ld r6 Value.bool fun t49 =>
    Ld (r6.add 1) Sl.val fun t51 =>
    Bld #[(.bool false), (Sl.val ⟨none, 0, 0⟩)] (fun i => some (i * 2, 2)) [(0, (.agg #[(.bool t49), (Sl.val t51)]))] fun ct53 =>
    New 54 ct53 fun t53 =>
    Q (Sl.mk (some t53) 1 1) 0)
    (Ite (decide (t16 = 7))
      (Ld (o3.add 2) Sl.val fun t57 =>
      Bld #[(.bool false), (Sl.val ⟨none, 0, 0⟩)] (fun i => some (i * 2, 2)) [(0, (.agg #[(.bool true), (Sl.val t57)]))] fun ct59 =>
      New 54 ct59 fun t59 =>
      Q (Sl.mk (some t59) 1 1) 0)
      (Ite (decide (t16 = 2))
        (Ld (o3.add 1) Value.string fun t64 =>
        Ld (o3.add 2) Sl.val fun t66 =>
        ref06_Store_Put.call s0 t64 t66 <|
        ref07_step.s1 Q)
        (Ite (decide (t16 = 3))
          (Ld (o3.add 1) Value.string fun t72 =>
          ref06_Store_Delete.call s0 t72 <|
          ref07_step.s1 Q)
          (Ite (decide (t16 = 4))
            (Ld r6 Value.bool fun t77 =>
            Ite (!t77)
              (ref07_step.s2 Q true)
              (Ld (r6.add 1) Sl.val fun t81 =>
              Rd Tryz.prog (convert 52 9 (Sl.val t81)) Value.string fun t82 =>
              Ld (o3.add 2) Sl.val fun t84 =>
              Rd Tryz.prog (convert 52 9 (Sl.val t84)) Value.string fun t85 =>
              ref07_step.s2 Q (!(t82.toList == t85.toList))))
            (Ite (decide (t16 = 5))
              (Ld r6 Value.bool fun t92 =>
              Ite t92
                (New 54 #[] fun t93 =>
                Q (Sl.mk (some t93) 0 0) 110)
                (ref07_step.s1 Q))
              (Ld (r6.add 1) Sl.val fun t19 =>
              ref07_Number.call t19 fun t20x0 t20x1 =>
              Ld r6 Value.bool fun t24 =>
              Ite t24
                (ref07_step.s3 Q s0 o3 t20x0 (!t20x1))
                (ref07_step.s3 Q s0 o3 t20x0 false)))))))
theorem ref07_step_ok (s0 : (Option Addr)) (o1 : (Array Value)) (Q : Sl → Int → K) (w : World) (h : ref07_step s0 o1 Q w) : ref07_step.call s0 o1 Q w := by
  have hJ24 : JH 24 fun D => D [] (fun C => C [] (ref07_step.s1 Q)) := by intros; exact ⟨fun _ h => ⟨_, _, h⟩⟩
  have hJ20 : JH 20 fun D => D [] (fun C => ∀ (t87_2 : Bool), C [(87, (.bool t87_2))] (ref07_step.s2 Q t87_2)) := by intros; exact ⟨fun _ h => ⟨_, _, h⟩⟩
  have hD9 : DH 9 2 [5] (.s [0, 1, 3, 2] (.a [(4, 1, .a [(5, 0, .e)])])) := by intros; exact ⟨⟩
  have hJ5 : JH 5 fun D => ∃ (s0_3 : (Option Addr)) (o3_3 : Addr) (n7_3 : Int), D [(0, (.pointer s0_3)), (3, (.pointer (some o3_3))), (7, (.int .i64 n7_3))] (fun C => ∀ (t28_3 : Bool), C [(0, (.pointer s0_3)), (3, (.pointer (some o3_3))), (7, (.int .i64 n7_3)), (28, (.bool t28_3))] (ref07_step.s3 Q s0_3 o3_3 n7_3 t28_3)) := by intros; exact ⟨fun _ ⟨_, _, _, h⟩ => ⟨_, _, h⟩⟩
  exact g_walk 95 h Tryz.func38
def ref07_Number.b1 (Q : Int → Bool → K)  (X1 : Int → Int → K) (v0_1 : Sl) (n4_1 : Int) (i5_1 : Int) : K :=
  Ite (decide (i5_1 < 8))
    (Ar (IntKind.wrap .u64 (n4_1 * 256)) fun t14 =>
    Idx v0_1 i5_1 1 fun t17 =>
    Ld t17 (Value.int .u8) fun t18 =>
    Ar (IntKind.wrap .u64 t18) fun t19 =>
    Ar (IntKind.wrap .u64 (t14 + t19)) fun t20 =>
    Ar (IntKind.wrap .i64 (i5_1 + 1)) fun t12 =>
    X1 t20 t12)
    (Ar (IntKind.wrap .i64 n4_1) fun t22 =>
    Q t22 true)
def ref07_Number (v0 : Sl) (Q : Int → Bool → K) : K :=
  Ite (decide ((v0.n : Int) ≠ 8))
    (Q 0 false)
    (LoopK (α := Int × Int) (fun X x => ref07_Number.b1 Q (fun n4_1 i5_1 => X (n4_1, i5_1)) v0 x.1 x.2) (0, 0))
theorem ref07_Number_ok (v0 : Sl) (Q : Int → Bool → K) (w : World) (h : ref07_Number v0 Q w) : ref07_Number.call v0 Q w := by
  have hL5 : ∀ (v0_1 : Sl), LH 5 (fun x : Int × Int => [(0, (Sl.val v0_1)), (4, (.int .u64 x.1)), (5, (.int .i64 x.2))]) (fun X x => ref07_Number.b1 Q (fun n4_1 i5_1 => X (n4_1, i5_1)) v0_1 x.1 x.2) := by intros; exact ⟨⟩
  exact g_walk 23 h Tryz.func56
def ref07_sum.s1 (Q : Int → Bool → K)  (c6_1 : Int) (t34_1 : Bool) : K :=
  Ite t34_1
    (Q 0 false)
    (Q c6_1 true)
def ref07_sum (a0 : Int) (b1 : Int) (Q : Int → Bool → K) : K :=
  Ar (IntKind.wrap .u64 a0) fun t8 =>
  Ar (IntKind.wrap .u64 b1) fun t10 =>
  Ar (IntKind.wrap .u64 (t8 + t10)) fun t11 =>
  Ar (IntKind.wrap .i64 t11) fun t12 =>
  Ite (decide ((0 : Int) ≤ a0))
    (Ite (decide ((0 : Int) ≤ b1))
      (Ite (decide (t12 < 0))
        (ref07_sum.s1 Q t12 true)
        (Ite (decide (a0 < 0))
          (Ite (decide (b1 < 0))
            (ref07_sum.s1 Q t12 (decide ((0 : Int) ≤ t12)))
            (ref07_sum.s1 Q t12 false))
          (ref07_sum.s1 Q t12 false)))
      (Ite (decide (a0 < 0))
        (Ite (decide (b1 < 0))
          (ref07_sum.s1 Q t12 (decide ((0 : Int) ≤ t12)))
          (ref07_sum.s1 Q t12 false))
        (ref07_sum.s1 Q t12 false)))
    (Ite (decide (a0 < 0))
      (Ite (decide (b1 < 0))
        (ref07_sum.s1 Q t12 (decide ((0 : Int) ≤ t12)))
        (ref07_sum.s1 Q t12 false))
      (ref07_sum.s1 Q t12 false))
theorem ref07_sum_ok (a0 : Int) (b1 : Int) (Q : Int → Bool → K) (w : World) (h : ref07_sum a0 b1 Q w) : ref07_sum.call a0 b1 Q w := by
  have hJ3 : JH 3 fun D => ∃ (c6_1 : Int), D [(6, (.int .i64 c6_1))] (fun C => ∀ (t34_1 : Bool), C [(6, (.int .i64 c6_1)), (34, (.bool t34_1))] (ref07_sum.s1 Q c6_1 t34_1)) := by intros; exact ⟨fun _ ⟨_, h⟩ => ⟨_, _, h⟩⟩
  exact g_walk 36 h Tryz.func57
def ref07_Value.b1 (Q : Sl → K)  (X1 : Int → Int → K) (out3_1 : Sl) (x4_1 : Int) (i5_1 : Int) : K :=
  Ite (decide ((0 : Int) ≤ i5_1))
    (Cd ((256 : Int) ≠ 0) <|
    Ar (Int.tmod x4_1 256) fun t16 =>
    Ar (IntKind.wrap .u8 t16) fun t17 =>
    Idx out3_1 i5_1 1 fun t18 =>
    St t18 (.int .u8 t17) <|
    Cd ((256 : Int) ≠ 0) <|
    Ar (IntKind.wrap .u64 (Int.tdiv x4_1 256)) fun t20 =>
    Ar (IntKind.wrap .i64 (i5_1 - 1)) fun t12 =>
    X1 t20 t12)
    (Q out3_1)
def ref07_Value (n0 : Int) (Q : Sl → K) : K :=
  Do Tryz.prog (Instr.makeSlice 52 (.int .i64 8) (.int .i64 8)) Sl.val fun t6 =>
  Ar (IntKind.wrap .u64 n0) fun t8 =>
  LoopK (α := Int × Int) (fun X x => ref07_Value.b1 Q (fun x4_1 i5_1 => X (x4_1, i5_1)) t6 x.1 x.2) (t8, 7)
theorem ref07_Value_ok (n0 : Int) (Q : Sl → K) (w : World) (h : ref07_Value n0 Q w) : ref07_Value.call n0 Q w := by
  have hL4 : ∀ (out3_1 : Sl), LH 4 (fun x : Int × Int => [(3, (Sl.val out3_1)), (4, (.int .u64 x.1)), (5, (.int .i64 x.2))]) (fun X x => ref07_Value.b1 Q (fun x4_1 i5_1 => X (x4_1, i5_1)) out3_1 x.1 x.2) := by intros; exact ⟨⟩
  exact g_walk 22 h Tryz.func58
end Go.Proofs.YtinpgiafjjibnaaGreat
/- Numbers of eight bytes: what is read. -/
namespace Go.Proofs.YtinpgiafjjibnaaGreat
open Go Go.Sep
set_option linter.unusedSimpArgs false
set_option linter.unusedVariables false
set_option maxRecDepth 100000
/-- Eight bytes, the greatest first. -/
def num8 (xs : List UInt8) : Nat := xs.foldl (fun n b => n * 256 + b.toNat) 0
theorem num8_snoc (xs : List UInt8) (x : UInt8) : num8 (xs ++ [x]) = num8 xs * 256 + x.toNat := by
  unfold num8
  rw [List.foldl_append]
  rfl
theorem num8_lt : ∀ (j : Nat) (xs : List UInt8), xs.length = j → num8 xs < 256 ^ j := by
  intro j
  induction j with
  | zero =>
    intro xs h
    have : xs = [] := List.length_eq_zero_iff.1 h
    subst this
    decide
  | succ j ih =>
    intro xs h
    have hne : xs ≠ [] := fun e => by rw [e] at h; cases h
    have e : xs = xs.dropLast ++ [xs.getLast hne] := (List.dropLast_concat_getLast hne).symm
    have h1 := ih xs.dropLast (by simp; omega)
    have h2 := UInt8.toNat_lt (xs.getLast hne)
    rw [e, num8_snoc, Nat.pow_succ]
    omega
theorem or8 (m b : Nat) (hm : m * 256 < 2 ^ 64) (hb : b < 256) : bitsOf .or .u64 ((m * 256 : Nat) : Int) (b : Int) = ((m * 256 + b : Nat) : Int) := by
  unfold bitsOf
  simp only
  have h1 : (BitVec.ofInt (IntKind.bits .u64) ((m * 256 : Nat) : Int) ||| BitVec.ofInt (IntKind.bits .u64) (b : Int)).toNat = m * 256 + b := by
    show (BitVec.ofInt 64 ((m * 256 : Nat) : Int) ||| BitVec.ofInt 64 (b : Int)).toNat = _
    rw [BitVec.toNat_or, BitVec.ofInt_natCast, BitVec.ofInt_natCast, BitVec.toNat_ofNat, BitVec.toNat_ofNat, Nat.mod_eq_of_lt (by omega), Nat.mod_eq_of_lt (by omega)]
    have h4 := Nat.two_pow_add_eq_or_of_lt (i := 8) (b := b) (by omega) m
    have h5 : 2 ^ 8 * m = m * 256 := by omega
    rw [h5] at h4
    omega
  rw [h1, wrapU64 (by omega) (by omega)]
theorem pow_le8 {j : Nat} (h : j ≤ 7) : 256 ^ j ≤ 72057594037927936 := by
  have := Nat.pow_le_pow_right (n := 256) (by decide) h
  have e : (256 : Nat) ^ 7 = 72057594037927936 := by decide
  omega
section
variable {B w : World} {Γ : List HProp}
theorem eval_Number_spec {s : Sl} {xs : List UInt8} {k : Int → Bool → K} (hr : RdB w s xs) (hk : k (if xs.length = 8 then IntKind.wrap .i64 (num8 xs : Int) else 0) (decide (xs.length = 8)) w) : eval_Number.call s k w := by
  have hn : xs.length = s.n := by have := hr.len; simpa using this
  refine eval_Number_ok _ _ _ ?_
  unfold eval_Number
  refine r_ite (fun hb => ?_) (fun hb => ?_)
  · have h8 : ¬ xs.length = 8 := by simp only [decide_eq_true_eq] at hb; omega
    rw [if_neg h8, decide_eq_false h8] at hk
    exact hk
  · have h8 : xs.length = 8 := by simp only [decide_eq_false_iff_not, Decidable.not_not] at hb; omega
    rw [if_pos h8, decide_eq_true h8] at hk
    refine LoopK.of (fun t w1 => ∃ j : Nat, t = ((num8 (xs.take j) : Int), (j : Int)) ∧ j ≤ 8 ∧ w1 = w) (fun t _ => ((8 : Int) - t.2).toNat) ⟨0, rfl, by omega, rfl⟩ ?_
    rintro t w1 ⟨j, rfl, hj, rfl⟩
    dsimp only
    unfold eval_Number.b1
    refine r_ite (fun hlt => ?_) (fun hge => ?_)
    · simp only [decide_eq_true_eq] at hlt
      have hx : xs[j]? = some xs[j] := List.getElem?_eq_getElem (by omega)
      have htk : xs.take (j + 1) = xs.take j ++ [xs[j]] := List.take_succ_eq_append_getElem (by omega)
      generalize xs[j] = x at hx htk
      refine r_byte hr hx ?_
      have hlt8 := num8_lt j (xs.take j) (by rw [List.length_take]; omega)
      have hp := pow_le8 (j := j) (by omega)
      have hxb := UInt8.toNat_lt x
      refine r_cd (by decide) ?_
      refine r_ar (e' := ((num8 (xs.take j) * 256 : Nat) : Int)) (by
        unfold shlOf
        have : min ((8 : Int).toNat) (IntKind.bits .u64) = 8 := rfl
        rw [this, wrapU64 (by omega) (by omega)]
        omega) ?_
      refine r_ar (wrapU64 (by omega) (by omega)) ?_
      refine r_ar (or8 _ _ (by omega) hxb) ?_
      refine r_add64 (by omega) (by omega) ?_
      exact ⟨⟨j + 1, by rw [htk, num8_snoc]; rfl, by omega, rfl⟩, by omega⟩
    · simp only [decide_eq_false_iff_not] at hge
      have : j = 8 := by omega
      subst this
      rw [List.take_of_length_le (by omega)]
      exact r_ar rfl hk
theorem ref07_Number_spec {s : Sl} {xs : List UInt8} {k : Int → Bool → K} (hr : RdB w s xs) (hk : k (if xs.length = 8 then IntKind.wrap .i64 (num8 xs : Int) else 0) (decide (xs.length = 8)) w) : ref07_Number.call s k w := by
  have hn : xs.length = s.n := by have := hr.len; simpa using this
  refine ref07_Number_ok _ _ _ ?_
  unfold ref07_Number
  refine r_ite (fun hb => ?_) (fun hb => ?_)
  · have h8 : ¬ xs.length = 8 := by simp only [decide_eq_true_eq] at hb; omega
    rw [if_neg h8, decide_eq_false h8] at hk
    exact hk
  · have h8 : xs.length = 8 := by simp only [decide_eq_false_iff_not, Decidable.not_not] at hb; omega
    rw [if_pos h8, decide_eq_true h8] at hk
    refine LoopK.of (fun t w1 => ∃ j : Nat, t = ((num8 (xs.take j) : Int), (j : Int)) ∧ j ≤ 8 ∧ w1 = w) (fun t _ => ((8 : Int) - t.2).toNat) ⟨0, rfl, by omega, rfl⟩ ?_
    rintro t w1 ⟨j, rfl, hj, rfl⟩
    dsimp only
    unfold ref07_Number.b1
    refine r_ite (fun hlt => ?_) (fun hge => ?_)
    · simp only [decide_eq_true_eq] at hlt
      have hx : xs[j]? = some xs[j] := List.getElem?_eq_getElem (by omega)
      have htk : xs.take (j + 1) = xs.take j ++ [xs[j]] := List.take_succ_eq_append_getElem (by omega)
      generalize xs[j] = x at hx htk
      have hlt8 := num8_lt j (xs.take j) (by rw [List.length_take]; omega)
      have hp := pow_le8 (j := j) (by omega)
      have hxb := UInt8.toNat_lt x
      refine r_ar (e' := ((num8 (xs.take j) * 256 : Nat) : Int)) (by rw [wrapU64 (by omega) (by omega)]; omega) ?_
      refine r_byte hr hx ?_
      refine r_ar (wrapU64 (by omega) (by omega)) ?_
      refine r_ar (e' := ((num8 (xs.take j) * 256 + x.toNat : Nat) : Int)) (by rw [wrapU64 (by omega) (by omega)]; omega) ?_
      refine r_add64 (by omega) (by omega) ?_
      exact ⟨⟨j + 1, by rw [htk, num8_snoc]; rfl, by omega, rfl⟩, by omega⟩
    · simp only [decide_eq_false_iff_not] at hge
      have : j = 8 := by omega
      subst this
      rw [List.take_of_length_le (by omega)]
      exact r_ar rfl hk
end
end Go.Proofs.YtinpgiafjjibnaaGreat
/- A new row of eight bytes. -/
namespace Go.Proofs.YtinpgiafjjibnaaGreat
open Go Go.Sep
set_option linter.unusedSimpArgs false
set_option linter.unusedVariables false
set_option maxRecDepth 100000
section
variable {B w : World} {Γ : List HProp}
theorem r_make8 {k : Sl → K} (h : Holds B Γ w) (hk : ∀ s w, Holds B (Bytes ty_uint8 s (List.replicate 8 0) :: Γ) w → k s w) : Do Tryz.prog (Instr.makeSlice ty_s_uint8 (.int .i64 8) (.int .i64 8)) Sl.val k w := by
  have h1 := Go.run_make_row' (P := Tryz.prog) ty_s_uint8 ty_uint8 (.int .u8 0) 1 (by kernel_rfl) (by kernel_rfl) rfl .i64 .i64 8 (by decide) (by decide) w
  refine ⟨⟨some ⟨w.heap.size, 0, none⟩, 8, 8⟩, _, h1, hk _ _ ?_⟩
  have h2 := h.alloc (.cells (madeCells #[.int .u8 0] 8) ty_uint8 (0, 0))
  exact bytes_new (by kernel_rfl) (by simp) h2
end
end Go.Proofs.YtinpgiafjjibnaaGreat
/- Bytes of numbers. -/
namespace Go.Proofs.YtinpgiafjjibnaaGreat
open Go Go.Sep
set_option linter.unusedSimpArgs false
set_option linter.unusedVariables false
set_option maxRecDepth 100000

def u8 (n : Nat) : UInt8 := UInt8.ofNat n
theorem u8N (n : Nat) : (u8 n).toNat = n % 256 := by simp [u8, UInt8.toNat_ofNat']
theorem wrapB (n : Nat) : IntKind.wrap .u8 (n : Int) = ((u8 n).toNat : Int) := by
  rw [u8N]
  unfold IntKind.wrap
  simp [IntKind.bits, IntKind.signed]
theorem u8V (n : Nat) : Value.int .u8 ((u8 n).toNat : Int) = byteV (u8 n) := rfl
theorem shr64 (n : Nat) (k : Nat) (hk : k < 64) : shrOf .i64 (n : Int) (k : Int) = ((n / 2 ^ k : Nat) : Int) := by
  unfold shrOf
  have : min ((k : Int).toNat) (IntKind.bits .i64) = k := by simp [IntKind.bits]; omega
  rw [this, Int.fdiv_eq_ediv_of_nonneg _ (Int.le_of_lt (Int.pow_pos (by decide))), Int.natCast_ediv, Int.natCast_pow]
  rfl

end Go.Proofs.YtinpgiafjjibnaaGreat
/- Numbers of eight bytes: what is put. -/
namespace Go.Proofs.YtinpgiafjjibnaaGreat
open Go Go.Sep
set_option linter.unusedSimpArgs false
set_option linter.unusedVariables false
set_option maxRecDepth 100000
def partV (u i : Nat) : List UInt8 := (List.range 8).map fun j => if 8 ≤ j + i then u8 (u / 256 ^ (7 - j)) else 0
theorem partV_step (u : Nat) : ∀ i, i < 8 → (partV u i).set (7 - i) (u8 (u / 256 ^ i)) = partV u (i + 1)
  | 0, _ => rfl
  | 1, _ => rfl
  | 2, _ => rfl
  | 3, _ => rfl
  | 4, _ => rfl
  | 5, _ => rfl
  | 6, _ => rfl
  | 7, _ => rfl
theorem partV_len (u i : Nat) : (partV u i).length = 8 := by simp [partV]
def uOf (n : Int) : Nat := (IntKind.wrap .u64 n).toNat
theorem uOf_lt (n : Int) : uOf n < 2 ^ 64 ∧ IntKind.wrap .u64 n = (uOf n : Int) := by
  have h : 0 ≤ IntKind.wrap .u64 n ∧ IntKind.wrap .u64 n < 2 ^ 64 := by
    unfold IntKind.wrap
    simp only [IntKind.bits, IntKind.signed, Bool.false_and, Bool.false_eq_true, if_false]
    omega
  unfold uOf
  omega
section
variable {B w : World} {Γ : List HProp}
theorem eval_Value_spec {n : Int} {k : Sl → K} (h : Holds B Γ w) (hk : ∀ s w, Holds B (Bytes ty_uint8 s (partV (uOf n) 8) :: Γ) w → k s w) : eval_Value.call n k w := by
  obtain ⟨hu1, hu2⟩ := uOf_lt n
  refine eval_Value_ok _ _ _ ?_
  unfold eval_Value
  refine r_make8 h fun s w h => ?_
  have hsn := Bytes.len h
  simp only [List.length_replicate] at hsn
  refine LoopK.of (fun t w => ∃ i : Nat, t = (i : Int) ∧ i ≤ 8 ∧ Holds B (Bytes ty_uint8 s (partV (uOf n) i) :: Γ) w) (fun t _ => ((8 : Int) - t).toNat) ⟨0, rfl, by omega, h⟩ ?_
  clear h
  rintro t w ⟨i, rfl, hi, h⟩
  unfold eval_Value.b1
  refine r_ite (fun hlt => ?_) (fun hge => ?_)
  · simp only [decide_eq_true_eq] at hlt
    refine r_ar (e' := ((7 - i : Nat) : Int)) (by rw [wrap64 (by omega) (by omega)]; omega) ?_
    refine r_ar hu2 ?_
    refine r_ar (e' := ((8 * i : Nat) : Int)) (by rw [wrap64 (by omega) (by omega)]; omega) ?_
    refine r_cd (by omega) ?_
    refine r_ar (e' := ((uOf n / 256 ^ i : Nat) : Int)) (by
      unfold shrOf
      have : min (((8 * i : Nat) : Int).toNat) (IntKind.bits .u64) = 8 * i := by simp [IntKind.bits]; omega
      rw [this, Int.fdiv_eq_ediv_of_nonneg _ (Int.le_of_lt (Int.pow_pos (by decide))), Nat.pow_mul 2 8 i |> fun e => show (2 : Int) ^ (8 * i) = ((256 ^ i : Nat) : Int) by rw [Int.pow_mul]; rw [Int.natCast_pow]; rfl, ← Int.natCast_ediv]) ?_
    refine r_ar (wrapB _) ?_
    refine r_idxSt h (by omega) rfl fun w h => ?_
    have e1 : ((partV (uOf n) i).map byteV).set (7 - i) (Value.int .u8 ((u8 (uOf n / 256 ^ i)).toNat : Int)) = (partV (uOf n) (i + 1)).map byteV := by
      rw [← partV_step _ i (by omega), List.map_set]
      rfl
    rw [e1] at h
    refine r_add64 (by omega) (by omega) ?_
    exact ⟨⟨i + 1, by omega, by omega, h⟩, by omega⟩
  · simp only [decide_eq_false_iff_not] at hge
    have : i = 8 := by omega
    subst this
    exact hk _ _ h
theorem u8_mod' (n : Nat) : u8 (n % 256) = u8 n := by
  apply UInt8.toNat_inj.1
  rw [u8N, u8N, Nat.mod_mod]
theorem ref07_Value_spec {n : Int} {k : Sl → K} (h : Holds B Γ w) (hk : ∀ s w, Holds B (Bytes ty_uint8 s (partV (uOf n) 8) :: Γ) w → k s w) : ref07_Value.call n k w := by
  obtain ⟨hu1, hu2⟩ := uOf_lt n
  refine ref07_Value_ok _ _ _ ?_
  unfold ref07_Value
  refine r_make8 h fun s w h => ?_
  have hsn := Bytes.len h
  simp only [List.length_replicate] at hsn
  refine r_ar hu2 ?_
  refine LoopK.of (fun t w => ∃ i : Nat, t = (((uOf n / 256 ^ i : Nat) : Int), (7 : Int) - i) ∧ i ≤ 8 ∧ Holds B (Bytes ty_uint8 s (partV (uOf n) i) :: Γ) w) (fun t _ => (t.2 + 1).toNat) ⟨0, by simp, by omega, h⟩ ?_
  clear h
  rintro t w ⟨i, rfl, hi, h⟩
  dsimp only
  have hd : uOf n / 256 ^ i ≤ uOf n := Nat.div_le_self _ _
  unfold ref07_Value.b1
  refine r_ite (fun hlt => ?_) (fun hge => ?_)
  · simp only [decide_eq_true_eq] at hlt
    refine r_cd (by decide) ?_
    refine r_ar (e' := ((uOf n / 256 ^ i % 256 : Nat) : Int)) rfl ?_
    refine r_ar (wrapB _) ?_
    rw [show (7 : Int) - (i : Int) = ((7 - i : Nat) : Int) by omega]
    refine r_idxSt h (by omega) rfl fun w h => ?_
    have e1 : ((partV (uOf n) i).map byteV).set (7 - i) (Value.int .u8 ((u8 (uOf n / 256 ^ i % 256)).toNat : Int)) = (partV (uOf n) (i + 1)).map byteV := by
      rw [← partV_step _ i (by omega), List.map_set, u8_mod']
      rfl
    rw [e1] at h
    refine r_cd (by decide) ?_
    refine r_ar (e' := ((uOf n / 256 ^ (i + 1) : Nat) : Int)) (by
      rw [Nat.pow_succ, ← Nat.div_div_eq_div_mul]
      generalize uOf n / 256 ^ i = z at hd ⊢
      show IntKind.wrap .u64 ((z / 256 : Nat) : Int) = _
      exact wrapU64 (by omega) (by omega)) ?_
    refine r_ar (e' := (7 : Int) - ((i + 1 : Nat) : Int)) (by rw [wrap64 (by omega) (by omega)]; omega) ?_
    exact ⟨⟨i + 1, rfl, by omega, h⟩, by omega⟩
  · simp only [decide_eq_false_iff_not] at hge
    have : i = 8 := by omega
    subst this
    exact hk _ _ h
end
end Go.Proofs.YtinpgiafjjibnaaGreat
/- eval: a transaction under way over a store. -/
namespace Go.Proofs.YtinpgiafjjibnaaGreat
open Go Go.Sep Go.Sep.Bt
set_option linter.unusedSimpArgs false
set_option linter.unusedVariables false
set_option maxRecDepth 100000

abbrev WX := List (List UInt8 × (Rec × Sl))
abbrev wV (x : Rec × Sl) : Value := .agg (recA x.1 x.2)
abbrev wB (p : List UInt8 × (Rec × Sl)) : HProp := Bytes ty_uint8 p.2.2 p.2.1.val
/-- A transaction under way. -/
abbrev runL (rb st mb : Nat) (os : Sl) (X : WX) (O : OX) (Γ : List HProp) : List HProp :=
  blk rb (.cells [.pointer (some ⟨st, 0, none⟩), .map (some mb), os.val].toArray ty_eval_run (0, 0)) :: MapR strV wV mb X :: Sep.stars (X.map wB) :: SlC ty_api_Out 2 os (O.flatMap oF) :: Sep.stars (O.map oB) :: Γ
theorem mapRec : mapIs Tryz.prog ty_map_string_api_Record .string ty_api_Record := ⟨9, by kernel_rfl, by kernel_rfl⟩
abbrev zRec : Rec × Sl := (⟨false, [], 0, 0⟩, ⟨none, 0, 0⟩)
theorem zeroRec : zeroT Tryz.prog ty_api_Record (wV zRec) := zero_ty_api_Record
/-- A key's record as it is now. -/
def nowM (n : Nat) (M : Recs) (W : List (List UInt8 × Rec)) (k : List UInt8) : Rec := (mget k W).getD (sGet n M (bs k))
abbrev modW (X : WX) : List (List UInt8 × Rec) := X.map fun p => (p.1, p.2.1)
section
variable {B : World} {Γ Δ : List HProp} {rb st mb n : Nat} {os : Sl} {X : WX} {O : OX} {M : Recs} {k : List UInt8}
theorem stars_mem {α : Type} {F : α → HProp} {l : List α} {x : α} {w : World} (hx : x ∈ l) (h : Holds B (Sep.stars (l.map F) :: Γ) w) : ∃ Δ, Holds B (F x :: Δ) w := by
  obtain ⟨A, C, rfl⟩ := List.append_of_mem hx
  exact ⟨_, ((Holds.flat.1 h).perm mid_perm).perm List.perm_middle⟩
theorem rdB_of {E : Nat} {w : World} {s : Sl} {xs : List UInt8} (h : Holds B (Bytes E s xs :: Γ) w) : RdB w s xs := h.rdC List.mem_cons_self
theorem runGet_hg {Q : Array Value → K} (hk : k.length < 1000000000000) (hX : ∀ p ∈ X, p.2.1.ok)
    (hin : ∀ r s, mget k X = some (r, s) → r.ok → (∀ w, Holds B (runL rb st mb os X O (StoreR st n M :: Γ)) w → RdB w s r.val) → HG B (runL rb st mb os X O (StoreR st n M :: Γ)) (Q (recA r s)))
    (hout : mget k X = none → ∀ s, (sGet n M (bs k)).ok → HG B (Bytes ty_uint8 s (sGet n M (bs k)).val :: runL rb st mb os X O (StoreR st n M :: Γ)) (Q (recA (sGet n M (bs k)) s))) :
    HG B (runL rb st mb os X O (StoreR st n M :: Γ)) (eval_run_get.call (some ⟨rb, 0, none⟩) (bs k) Q) := fun w hw => by
  refine eval_run_get_ok _ _ _ _ ?_
  refine hg hw ?_
  clear hw w
  unfold eval_run_get
  refine s_new fun t4 => ?_
  refine s_nn ?_
  refine s_ld (b := rb) (x := some mb) ?_
  refine s_look2 (b := mb) (enc := strV) (cV := wV) (cG := Value.agg) (g := fun x => recA x.1 x.2) (z := zRec) (a := k) (fun _ => rfl) mapRec keyE_str zeroRec ?_
  refine s_new fun x5 => ?_
  cases hm : mget k X with
  | some p =>
    obtain ⟨r, s⟩ := p
    have hmem := mget_some hm
    have hok := hX _ hmem
    simp only [Option.getD_some, Option.isSome_some]
    refine s_stN (b := x5) (l' := recL r s) ?_
    refine s_t ?_
    refine s_ldN (b := x5) (l' := recL r s) ?_
    refine s_stN (b := t4) (l' := recL r s) ?_
    refine s_ldN (b := t4) (l' := recL r s) ?_
    refine s_end (Δ := runL rb st mb os X O (StoreR st n M :: Γ)) ?_
    refine hin r s hm hok fun w hw => ?_
    obtain ⟨Δ, h1⟩ := stars_mem hmem (hw.tail.tail)
    exact rdB_of h1
  | none =>
    simp only [Option.getD_none, Option.isSome_none]
    refine s_stN (b := x5) (l' := recL zRec.1 zRec.2) ?_
    refine s_f ?_
    refine s_ld (b := rb) (x := some ⟨st, 0, none⟩) ?_
    refine s_own st ?_
    refine storeGet_spec (k := bs k) (by simpa [ByteArray.size] using hk) fun s hok => ?_
    refine s_stN (b := t4) (l' := recL (sGet n M (bs k)) s) ?_
    refine s_ldN (b := t4) (l' := recL (sGet n M (bs k)) s) ?_
    exact s_end (hout hm s hok)
/-- A key has a value, or none. -/
theorem runSet_hg {Q : K} {has : Bool} {val : List UInt8} {vs : Sl} (hk : k.length < 1000000000000) (hX : ∀ p ∈ X, p.2.1.ok) (hv : val.length ≤ 1000000000) (hr : ∀ w, Holds B (runL rb st mb os X O (StoreR st n M :: Γ)) w → RdB w vs val)
    (h : ∀ s, ({ nowM n M (modW X) k with has := has, val := val } : Rec).ok → HG B (runL rb st mb os (mset k ({ nowM n M (modW X) k with has := has, val := val }, s) X) O (StoreR st n M :: Γ)) Q) :
    HG B (runL rb st mb os X O (StoreR st n M :: Γ)) (eval_run_set.call (some ⟨rb, 0, none⟩) (bs k) has vs Q) := fun w hw => by
  refine eval_run_set_ok _ _ _ _ _ _ ?_
  refine hg hw ?_
  clear hw w
  unfold eval_run_set
  have rest : ∀ (r : Rec) (s : Sl), r = nowM n M (modW X) k → r.ok → HG B (runL rb st mb os X O (StoreR st n M :: Γ)) (New ty_api_Record [.bool false, Sl.val ⟨none, 0, 0⟩, .int .i64 0, .int .u64 0].toArray fun x8 =>
      StN x8 4 (recA r s) <| bytes_Clone.call vs fun t14 => St x8 (.bool has) <| St (x8.add 1) (Sl.val t14) <| Dr <| Nn (some ⟨rb, 0, none⟩) fun t18 => Ld (t18.add 1) Value.map fun t20 => LdN x8 4 fun t22 =>
      DoU Tryz.prog (Instr.mapUpdate ty_map_string_api_Record (.map t20) (.string (bs k)) (.agg t22)) Q) := fun r s hr2 hok => by
    refine s_new fun x8 => ?_
    refine s_stN (b := x8) (l' := recL r s) ?_
    refine bytesClone_hg (fun w hw => hr w hw.tail) hv fun s' _ => ?_
    refine s_st (b := x8) ?_
    refine s_st (b := x8) ?_
    refine s_dr ?_
    refine s_nn ?_
    refine s_ld (b := rb) (x := some mb) ?_
    refine s_ldN (b := x8) (l' := recL { r with has := has, val := val } s') ?_
    refine s_upd (b := mb) (enc := strV) (cV := wV) (v := (({ r with has := has, val := val } : Rec), s')) (cG := Value.agg) rfl mapRec keyE_str ?_
    rw [hr2] at hok ⊢
    refine s_end (Δ := wB (k, (({ nowM n M (modW X) k with has := has, val := val } : Rec), s')) :: Sep.stars (X.map wB) :: blk rb (.cells [.pointer (some ⟨st, 0, none⟩), .map (some mb), os.val].toArray ty_eval_run (0, 0)) :: MapR strV wV mb (mset k (({ nowM n M (modW X) k with has := has, val := val } : Rec), s') X) :: SlC ty_api_Out 2 os (O.flatMap oF) :: Sep.stars (O.map oB) :: StoreR st n M :: Γ) ?_
    refine s_mset ?_
    exact s_end (h s' ⟨hok.1, hok.2.1, hv⟩)
  have hmg : mget k (modW X) = (mget k X).map (·.1) := mget_map _ _ _
  refine runGet_hg hk hX (fun r s hm hok _ => ?_) fun hm s hok => ?_
  · refine rest r s ?_ hok
    unfold nowM; rw [hmg, hm]; rfl
  · refine s_end (Δ := runL rb st mb os X O (StoreR st n M :: Γ)) ?_
    refine rest _ s ?_ hok
    unfold nowM; rw [hmg, hm]; rfl
end

/-! ### what an operation does -/
def OpM.ok (o : OpM) : Prop := o.key.length < 1000000000000 ∧ o.val.length ≤ 1000000000 ∧ -9223372036854775808 ≤ o.n ∧ o.n ≤ 9223372036854775807
abbrev WM := List (List UInt8 × Rec)
abbrev OM := List (Bool × List UInt8)
def numOf (v : List UInt8) : Int := IntKind.wrap .i64 (num8 v : Int)
abbrev valOf (n : Int) : List UInt8 := partV (uOf n) 8
def overS (a b : Int) : Bool := decide (0 < b ∧ 9223372036854775807 - b < a ∨ b < 0 ∧ a < -9223372036854775808 - b)
def setW (n : Nat) (M : Recs) (W : WM) (k : List UInt8) (has : Bool) (val : List UInt8) : WM := mset k { nowM n M W k with has := has, val := val } W
def addW (n : Nat) (M : Recs) (W : WM) (k : List UInt8) (d : Int) : WM × Int :=
  if (nowM n M W k).has = true ∧ (nowM n M W k).val.length ≠ 8 then (W, 110) else
  if overS (if (nowM n M W k).has then numOf (nowM n M W k).val else 0) d then (W, 111) else
  (setW n M W k true (valOf ((if (nowM n M W k).has then numOf (nowM n M W k).val else 0) + d)), 0)
def stepW (n : Nat) (M : Recs) (W : WM) (O : OM) (o : OpM) : WM × OM × Int :=
  if o.kind = 1 then (W, O ++ [((nowM n M W o.key).has, (nowM n M W o.key).val)], 0) else
  if o.kind = 7 then (W, O ++ [(true, o.val)], 0) else
  if o.kind = 2 then (setW n M W o.key true o.val, O, 0) else
  if o.kind = 3 then (setW n M W o.key false [], O, 0) else
  if o.kind = 4 then (W, O, if (nowM n M W o.key).has = true ∧ (nowM n M W o.key).val = o.val then 0 else 110) else
  if o.kind = 5 then (W, O, if (nowM n M W o.key).has then 110 else 0) else
  if o.kind = 6 then ((addW n M W o.key o.n).1, O, (addW n M W o.key o.n).2) else (W, O, 0)
theorem wrap_range (n : Int) : -9223372036854775808 ≤ IntKind.wrap .i64 n ∧ IntKind.wrap .i64 n ≤ 9223372036854775807 := by
  simp only [IntKind.wrap, IntKind.signed, IntKind.bits]
  simp
  omega
theorem valOf_len (n : Int) : (valOf n).length = 8 := partV_len _ _
section
variable {B : World} {Γ Δ : List HProp} {rb st mb n : Nat} {os : Sl} {X : WX} {O : OX} {M : Recs} {k : List UInt8}
theorem modW_set {r : Rec} {s : Sl} : modW (mset k (r, s) X) = mset k r (modW X) := (mset_map (fun p : Rec × Sl => p.1) k (r, s) X).symm
theorem ok_mset {r : Rec} {s : Sl} (hX : ∀ p ∈ X, p.2.1.ok) (hr : r.ok) : ∀ p ∈ mset k (r, s) X, p.2.1.ok := fun p hp => by
  rcases mfind k X with ⟨_, h2, _, _⟩ | ⟨j, x, hj, h0, _, _, h2, _⟩
  · rw [h2] at hp
    rcases List.mem_append.1 hp with hp | hp
    · exact hX p hp
    · rw [List.mem_singleton.1 hp]; exact hr
  · rw [h2] at hp
    rcases List.mem_or_eq_of_mem_set hp with hp | rfl
    · exact hX p hp
    · exact hr
theorem runAdd_hg {Q : Int → K} {o : OpM} {osl : Sl} (ho : o.ok) (hX : ∀ p ∈ X, p.2.1.ok)
    (h : ∀ X', modW X' = (addW n M (modW X) o.key o.n).1 → (∀ p ∈ X', p.2.1.ok) → HG B (runL rb st mb os X' O (StoreR st n M :: Γ)) (Q (addW n M (modW X) o.key o.n).2)) :
    HG B (runL rb st mb os X O (StoreR st n M :: Γ)) (eval_run_add.call (some ⟨rb, 0, none⟩) (opF (o, osl)).toArray Q) := fun w hw => by
  refine eval_run_add_ok _ _ _ _ ?_
  refine hg hw ?_
  clear hw w
  obtain ⟨hk, hv, hn1, hn2⟩ := ho
  have hmg : mget o.key (modW X) = (mget o.key X).map (·.1) := mget_map _ _ _
  unfold eval_run_add
  refine s_new fun o3 => ?_
  refine s_ld (b := o3) (x := bs o.key) ?_
  -- the sum
  have sum : ∀ (a : Int) (E : HProp), -9223372036854775808 ≤ a → a ≤ 9223372036854775807 → ¬ ((nowM n M (modW X) o.key).has = true ∧ (nowM n M (modW X) o.key).val.length ≠ 8) → a = (if (nowM n M (modW X) o.key).has then numOf (nowM n M (modW X) o.key).val else 0) →
      HG B (blk o3 (.cells (opF (o, osl)).toArray ty_api_Op (0, 0)) :: runL rb st mb os X O (StoreR st n M :: Γ)) (eval_run_add.s1 Q (some ⟨rb, 0, none⟩) ⟨o3, 0, none⟩ a) := fun a E ha1 ha2 hn8 hae => by
    have done : ∀ t, t = overS a o.n → HG B (blk o3 (.cells (opF (o, osl)).toArray ty_api_Op (0, 0)) :: runL rb st mb os X O (StoreR st n M :: Γ)) (eval_run_add.s2 Q (some ⟨rb, 0, none⟩) ⟨o3, 0, none⟩ a t) := fun t ht => by
      unfold eval_run_add.s2
      refine s_ite (fun hb => ?_) fun hb => ?_
      · have e : addW n M (modW X) o.key o.n = (modW X, 111) := by unfold addW; rw [if_neg hn8, ← hae, if_pos (by rw [← ht, hb])]
        rw [e] at h
        exact s_end (h X rfl hX)
      · have hov : ¬ overS a o.n = true := by rw [← ht, hb]; simp
        have e : addW n M (modW X) o.key o.n = (setW n M (modW X) o.key true (valOf (a + o.n)), 0) := by unfold addW; rw [if_neg hn8, ← hae, if_neg hov]
        rw [e] at h
        refine s_dr ?_
        refine s_ws ?_
        refine s_ldS (b := o3) (x := bs o.key) ?_
        refine s_ldS (b := o3) (x := o.n) ?_
        refine s_ai ?_ (by simp only [overS, decide_eq_true_eq] at hov; omega) (by simp only [overS, decide_eq_true_eq] at hov; omega)
        refine fun w hw => eval_Value_spec hw fun vs w hw => ?_
        refine hg hw ?_
        clear hw w
        refine s_sv ?_
        refine s_end (Δ := runL rb st mb os X O (StoreR st n M :: Bytes ty_uint8 vs (valOf (a + o.n)) :: Γ)) ?_
        refine runSet_hg (val := valOf (a + o.n)) hk hX (by rw [valOf_len]; omega) (fun w hw => ?_) fun s hok => ?_
        · exact rdB_of (hw.drops (Δ := Bytes ty_uint8 vs (valOf (a + o.n)) :: Γ))
        · refine s_end (Δ := runL rb st mb os (mset o.key (({ nowM n M (modW X) o.key with has := true, val := valOf (a + o.n) } : Rec), s) X) O (StoreR st n M :: Γ)) ?_
          exact h _ modW_set (ok_mset hX hok)
    unfold eval_run_add.s1
    refine s_ld (b := o3) (x := o.n) ?_
    refine s_ite (fun hb => ?_) fun hb => ?_
    · have hb' : 0 < o.n := by simpa using hb
      refine s_ld (b := o3) (x := o.n) ?_
      refine s_ai ?_
      refine s_ite (fun hc => ?_) fun hc => ?_
      · refine done _ ?_
        have : 9223372036854775807 - o.n < a := by simpa using hc
        symm; simp only [overS, decide_eq_true_eq]; omega
      · have hc' : ¬ 9223372036854775807 - o.n < a := by simpa using hc
        refine s_ld (b := o3) (x := o.n) ?_
        refine s_f ?_
        refine done _ ?_
        symm; simp only [overS, decide_eq_false_iff_not]; omega
    · have hb' : ¬ 0 < o.n := by simpa using hb
      refine s_ld (b := o3) (x := o.n) ?_
      refine s_ite (fun hc => ?_) fun hc => ?_
      · have hc' : o.n < 0 := by simpa using hc
        refine s_ld (b := o3) (x := o.n) ?_
        refine s_ai ?_
        refine done _ ?_
        simp only [overS, hb', hc', false_and, true_and, false_or]
      · have hc' : ¬ o.n < 0 := by simpa using hc
        refine done _ ?_
        simp only [overS, hb', hc', false_and, or_self, decide_false]
  have rest : ∀ (r : Rec) (s : Sl) (A : HProp), r = nowM n M (modW X) o.key → (∀ w, Holds B (A :: blk o3 (.cells (opF (o, osl)).toArray ty_api_Op (0, 0)) :: runL rb st mb os X O (StoreR st n M :: Γ)) w → RdB w s r.val) →
      HG B (A :: blk o3 (.cells (opF (o, osl)).toArray ty_api_Op (0, 0)) :: runL rb st mb os X O (StoreR st n M :: Γ)) (New ty_api_Record [.bool false, Sl.val ⟨none, 0, 0⟩, .int .i64 0, .int .u64 0].toArray fun x5 => StN x5 4 (recA r s) <| Ld x5 Value.bool fun t13 => Ite t13
        (Ld (x5.add 1) Sl.val fun t16 => eval_Number.call t16 fun t17x0 t17x1 => Ite (!t17x1) (Q 110) (eval_run_add.s1 Q (some ⟨rb, 0, none⟩) ⟨o3, 0, none⟩ t17x0)) (eval_run_add.s1 Q (some ⟨rb, 0, none⟩) ⟨o3, 0, none⟩ 0)) := fun r s A hr hrd => by
    subst hr
    refine s_new fun x5 => ?_
    refine s_stN (b := x5) (l' := recL (nowM n M (modW X) o.key) s) ?_
    refine s_ld (b := x5) (x := (nowM n M (modW X) o.key).has) ?_
    refine s_ite (fun hb => ?_) fun hb => ?_
    · refine s_ld (b := x5) (x := s) ?_
      refine fun w hw => eval_Number_spec (hrd w hw.tail) ?_
      refine hg hw ?_
      clear hw w
      refine s_ite (fun hc => ?_) fun hc => ?_
      · have hc' : (nowM n M (modW X) o.key).val.length ≠ 8 := by simpa using hc
        have e : addW n M (modW X) o.key o.n = (modW X, 110) := by unfold addW; rw [if_pos ⟨hb, hc'⟩]
        rw [e] at h
        exact s_end (h X rfl hX)
      · have hc' : (nowM n M (modW X) o.key).val.length = 8 := by simpa using hc
        rw [if_pos hc']
        refine s_end (Δ := blk o3 (.cells (opF (o, osl)).toArray ty_api_Op (0, 0)) :: runL rb st mb os X O (StoreR st n M :: Γ)) ?_
        refine sum _ A (wrap_range _).1 (wrap_range _).2 (fun h5 => h5.2 hc') ?_
        rw [if_pos hb]; rfl
    · refine s_end (Δ := blk o3 (.cells (opF (o, osl)).toArray ty_api_Op (0, 0)) :: runL rb st mb os X O (StoreR st n M :: Γ)) ?_
      refine sum _ A (by omega) (by omega) (fun h5 => by rw [hb] at h5; exact absurd h5.1 (by simp)) ?_
      rw [hb]; rfl
  refine s_end (Δ := runL rb st mb os X O (StoreR st n M :: blk o3 (.cells (opF (o, osl)).toArray ty_api_Op (0, 0)) :: Γ)) ?_
  refine runGet_hg hk hX (fun r s hm hok hrd => ?_) fun hm s hok => ?_
  · refine fun w hw => ?_
    refine hg (show Holds B (pur True :: _) w from Holds.pur.2 ⟨trivial, hw⟩) ?_
    clear hw w
    refine s_end (Δ := pur True :: blk o3 (.cells (opF (o, osl)).toArray ty_api_Op (0, 0)) :: runL rb st mb os X O (StoreR st n M :: Γ)) ?_
    refine rest r s _ ?_ fun w hw => hrd w hw.drops
    unfold nowM; rw [hmg, hm]; rfl
  · refine s_end (Δ := Bytes ty_uint8 s (sGet n M (bs o.key)).val :: blk o3 (.cells (opF (o, osl)).toArray ty_api_Op (0, 0)) :: runL rb st mb os X O (StoreR st n M :: Γ)) ?_
    refine rest _ s _ ?_ fun w hw => rdB_of hw
    unfold nowM; rw [hmg, hm]; rfl
theorem bytesEqual_hg {a b : Sl} {xs ys : List UInt8} {q : Bool → K} (ha : ∀ w, Holds B Γ w → RdB w a xs) (hb : ∀ w, Holds B Γ w → RdB w b ys) (h : HG B Γ (q (decide (xs = ys)))) : HG B Γ (bytes_Equal.call a b q) := fun w hw => by
  refine bytes_Equal_ok _ _ _ _ ?_
  unfold bytes_Equal
  refine r_str (by kernel_rfl) (ha w hw) ?_
  refine r_str (by kernel_rfl) (hb w hw) ?_
  have e : ((bs xs).toList == (bs ys).toList) = decide (xs = ys) := by rw [bs_list, bs_list]; by_cases h : xs = ys <;> simp [h]
  show q ((bs xs).toList == (bs ys).toList) w
  rw [e]
  exact h w hw
theorem outs_snoc {x : (Bool × List UInt8) × Sl} {q : K} (h : HG B (Sep.stars ((O ++ [x]).map oB) :: Γ) q) : HG B (oB x :: Sep.stars (O.map oB) :: Γ) q := by
  have := s_unmid (F := oB) (A := O) (C := []) (x := x) h
  rwa [List.append_nil] at this
theorem runOut_hg {os' : Sl} {x : (Bool × List UInt8) × Sl} {q : K} (h : HG B (runL rb st mb os' X (O ++ [x]) Γ) q) :
    HG B (oB x :: Sep.stars (O.map oB) :: SlC ty_api_Out 2 os' (O.flatMap oF ++ oF x) :: blk rb (.cells [.pointer (some ⟨st, 0, none⟩), .map (some mb), os'.val].toArray ty_eval_run (0, 0)) :: MapR strV wV mb X :: Sep.stars (X.map wB) :: Γ) q := by
  refine outs_snoc ?_
  have e : O.flatMap oF ++ oF x = (O ++ [x]).flatMap oF := by simp
  rw [e]
  exact s_end h
theorem runStep_hg {Q : Int → K} {o : OpM} {osl : Sl} (ho : o.ok) (hX : ∀ p ∈ X, p.2.1.ok) (hO : O.length < 1000000) (hv : ∀ w, Holds B Γ w → RdB w osl o.val)
    (h : ∀ os' X' O', modW X' = (stepW n M (modW X) (O.map Prod.fst) o).1 → O'.map Prod.fst = (stepW n M (modW X) (O.map Prod.fst) o).2.1 → (∀ p ∈ X', p.2.1.ok) → HG B (runL rb st mb os' X' O' (StoreR st n M :: Γ)) (Q (stepW n M (modW X) (O.map Prod.fst) o).2.2)) :
    HG B (runL rb st mb os X O (StoreR st n M :: Γ)) (eval_run_step.call (some ⟨rb, 0, none⟩) (opF (o, osl)).toArray Q) := fun w hw => by
  refine eval_run_step_ok _ _ _ _ ?_
  refine hg hw ?_
  clear hw w
  have hk := ho.1
  have hvl := ho.2.1
  have hmg : mget o.key (modW X) = (mget o.key X).map (·.1) := mget_map _ _ _
  unfold eval_run_step
  refine s_new fun o3 => ?_
  refine s_ld (b := o3) (x := bs o.key) ?_
  have rest : ∀ (r : Rec) (s : Sl) (A : HProp), r = nowM n M (modW X) o.key → r.ok → (∀ w, Holds B (A :: blk o3 (.cells (opF (o, osl)).toArray ty_api_Op (0, 0)) :: runL rb st mb os X O (StoreR st n M :: Γ)) w → RdB w s r.val) →
      HG B (A :: blk o3 (.cells (opF (o, osl)).toArray ty_api_Op (0, 0)) :: runL rb st mb os X O (StoreR st n M :: Γ)) ((fun t9 => New ty_api_Record [.bool false, Sl.val ⟨none, 0, 0⟩, .int .i64 0, .int .u64 0].toArray fun x5 => StN x5 4 t9 <| 
  Ld (⟨o3, 0, none⟩ : Addr) (Value.int .i64) fun t11 =>
  Ite (decide (t11 = 1))
    (Dr <| WithS fun S =>
    Nn (some ⟨rb, 0, none⟩) fun t16 =>
    LdS S (t16.add 2) Sl.val fun t18 =>
    LdS S x5 Value.bool fun t20 =>
    LdS S (x5.add 1) Sl.val fun t22 =>
    bytes_Clone.call t22 fun t23 =>
    Sv S <|
    Bld #[(.bool false), (Sl.val ⟨none, 0, 0⟩)] (fun i => some (i * 2, 2)) [(0, (.agg #[(.bool t20), (Sl.val t23)]))] fun ct25 =>
    New ty_api_Out ct25 fun t25 =>
    Sv S <|
    Do Tryz.prog (Builtin.append_ #[ty_s_api_Out, ty_s_api_Out] ty_s_api_Out #[(Sl.val t18), (Sl.val (Sl.mk (some t25) 1 1))]) Sl.val fun t26 =>
    St (t16.add 2) (Sl.val t26) <|
    eval_run_step.s1 Q)
    (Ite (decide (t11 = 7))
      (Dr <| WithS fun S =>
      Nn (some ⟨rb, 0, none⟩) fun t33 =>
      LdS S (t33.add 2) Sl.val fun t35 =>
      LdS S ((⟨o3, 0, none⟩ : Addr).add 2) Sl.val fun t37 =>
      bytes_Clone.call t37 fun t38 =>
      Sv S <|
      Bld #[(.bool false), (Sl.val ⟨none, 0, 0⟩)] (fun i => some (i * 2, 2)) [(0, (.agg #[(.bool true), (Sl.val t38)]))] fun ct40 =>
      New ty_api_Out ct40 fun t40 =>
      Sv S <|
      Do Tryz.prog (Builtin.append_ #[ty_s_api_Out, ty_s_api_Out] ty_s_api_Out #[(Sl.val t35), (Sl.val (Sl.mk (some t40) 1 1))]) Sl.val fun t41 =>
      St (t33.add 2) (Sl.val t41) <|
      eval_run_step.s1 Q)
      (Ite (decide (t11 = 2))
        (Ld ((⟨o3, 0, none⟩ : Addr).add 1) Value.string fun t48 =>
        Ld ((⟨o3, 0, none⟩ : Addr).add 2) Sl.val fun t50 =>
        eval_run_set.call (some ⟨rb, 0, none⟩) t48 true t50 <|
        eval_run_step.s1 Q)
        (Ite (decide (t11 = 3))
          (Ld ((⟨o3, 0, none⟩ : Addr).add 1) Value.string fun t56 =>
          eval_run_set.call (some ⟨rb, 0, none⟩) t56 false (Sl.mk none 0 0) <|
          eval_run_step.s1 Q)
          (Ite (decide (t11 = 4))
            (Ld x5 Value.bool fun t61 =>
            Ite (!t61)
              (eval_run_step.s2 Q true)
              (Ld (x5.add 1) Sl.val fun t65 =>
              Ld ((⟨o3, 0, none⟩ : Addr).add 2) Sl.val fun t67 =>
              bytes_Equal.call t65 t67 fun t68 =>
              eval_run_step.s2 Q (!t68)))
            (Ite (decide (t11 = 5))
              (Ld x5 Value.bool fun t74 =>
              Ite t74
                (Q 110)
                (eval_run_step.s1 Q))
              (Ite (decide (t11 = 6))
                (LdN (⟨o3, 0, none⟩ : Addr) 4 fun t78 =>
                eval_run_add.call (some ⟨rb, 0, none⟩) t78 fun t79 =>
                Q t79)
                (eval_run_step.s1 Q)))))))) (recA r s)) := fun r s A hr hok hrd => by
    subst hr
    dsimp only
    refine s_new fun x5 => ?_
    refine s_stN (b := x5) (l' := recL (nowM n M (modW X) o.key) s) ?_
    refine s_ld (b := o3) (x := o.kind) ?_
    refine s_cap os fun a1 a2 a3 a4 => ?_
    rw [flatMap_len _ 2 oF_len] at a1
    refine s_ite (fun hb => ?_) fun hb1 => ?_
    · have hb' : o.kind = 1 := by simpa using hb
      have e : stepW n M (modW X) (O.map Prod.fst) o = (modW X, O.map Prod.fst ++ [((nowM n M (modW X) o.key).has, (nowM n M (modW X) o.key).val)], 0) := by unfold stepW; rw [if_pos hb']
      rw [e] at h
      refine s_dr ?_
      refine s_ws ?_
      refine s_nn ?_
      refine s_ldS (b := rb) (x := os) ?_
      refine s_ldS (b := x5) (x := (nowM n M (modW X) o.key).has) ?_
      refine s_ldS (b := x5) (x := s) ?_
      refine bytesClone_hg (fun w hw => hrd w hw.tail) hok.2.2 fun s' _ => ?_
      refine s_sv ?_
      refine s_bld1 (cs := oF (((nowM n M (modW X) o.key).has, (nowM n M (modW X) o.key).val), s')) ?_
      refine s_new fun t => ?_
      refine s_sv ?_
      refine s_append (esz := 2) (s := os) (x := ⟨some ⟨t, 0, none⟩, 1, 1⟩) (us := oF (((nowM n M (modW X) o.key).has, (nowM n M (modW X) o.key).val), s')) (blk_rd rfl) (by simp [oF, flatV]) (by simp only; omega) fun os' hos' => ?_
      refine s_st (b := rb) ?_
      unfold eval_run_step.s1
      refine s_end (Δ := oB (((nowM n M (modW X) o.key).has, (nowM n M (modW X) o.key).val), s') :: Sep.stars (O.map oB) :: SlC ty_api_Out 2 os' (O.flatMap oF ++ oF (((nowM n M (modW X) o.key).has, (nowM n M (modW X) o.key).val), s')) :: blk rb (.cells [.pointer (some ⟨st, 0, none⟩), .map (some mb), os'.val].toArray ty_eval_run (0, 0)) :: MapR strV wV mb X :: Sep.stars (X.map wB) :: StoreR st n M :: Γ) ?_
      refine runOut_hg ?_
      exact h os' X _ rfl (by simp) hX
    have hb1' : ¬ o.kind = 1 := by simpa using hb1
    refine s_ite (fun hb => ?_) fun hb7 => ?_
    · have hb' : o.kind = 7 := by simpa using hb
      have e : stepW n M (modW X) (O.map Prod.fst) o = (modW X, O.map Prod.fst ++ [(true, o.val)], 0) := by unfold stepW; rw [if_neg hb1', if_pos hb']
      rw [e] at h
      refine s_dr ?_
      refine s_ws ?_
      refine s_nn ?_
      refine s_ldS (b := rb) (x := os) ?_
      refine s_ldS (b := o3) (x := osl) ?_
      refine bytesClone_hg (fun w hw => hv w hw.drops) hvl fun s' _ => ?_
      refine s_sv ?_
      refine s_bld1 (cs := oF ((true, o.val), s')) ?_
      refine s_new fun t => ?_
      refine s_sv ?_
      refine s_append (esz := 2) (s := os) (x := ⟨some ⟨t, 0, none⟩, 1, 1⟩) (us := oF ((true, o.val), s')) (blk_rd rfl) (by simp [oF, flatV]) (by simp only; omega) fun os' hos' => ?_
      refine s_st (b := rb) ?_
      unfold eval_run_step.s1
      refine s_end (Δ := oB ((true, o.val), s') :: Sep.stars (O.map oB) :: SlC ty_api_Out 2 os' (O.flatMap oF ++ oF ((true, o.val), s')) :: blk rb (.cells [.pointer (some ⟨st, 0, none⟩), .map (some mb), os'.val].toArray ty_eval_run (0, 0)) :: MapR strV wV mb X :: Sep.stars (X.map wB) :: StoreR st n M :: Γ) ?_
      refine runOut_hg ?_
      exact h os' X _ rfl (by simp) hX
    have hb7' : ¬ o.kind = 7 := by simpa using hb7
    refine s_ite (fun hb => ?_) fun hb2 => ?_
    · have hb' : o.kind = 2 := by simpa using hb
      have e : stepW n M (modW X) (O.map Prod.fst) o = (setW n M (modW X) o.key true o.val, O.map Prod.fst, 0) := by unfold stepW; rw [if_neg hb1', if_neg hb7', if_pos hb']
      rw [e] at h
      refine s_ld (b := o3) (x := bs o.key) ?_
      refine s_ld (b := o3) (x := osl) ?_
      refine s_end (Δ := runL rb st mb os X O (StoreR st n M :: Γ)) ?_
      refine runSet_hg hk hX hvl (fun w hw => hv w hw.drops) fun s hok => ?_
      exact h os _ O modW_set rfl (ok_mset hX hok)
    have hb2' : ¬ o.kind = 2 := by simpa using hb2
    refine s_ite (fun hb => ?_) fun hb3 => ?_
    · have hb' : o.kind = 3 := by simpa using hb
      have e : stepW n M (modW X) (O.map Prod.fst) o = (setW n M (modW X) o.key false [], O.map Prod.fst, 0) := by unfold stepW; rw [if_neg hb1', if_neg hb7', if_neg hb2', if_pos hb']
      rw [e] at h
      refine s_ld (b := o3) (x := bs o.key) ?_
      refine s_end (Δ := runL rb st mb os X O (StoreR st n M :: Γ)) ?_
      refine runSet_hg (val := []) hk hX (by simp) (fun w hw => RdC.none') fun s hok => ?_
      exact h os _ O modW_set rfl (ok_mset hX hok)
    have hb3' : ¬ o.kind = 3 := by simpa using hb3
    refine s_ite (fun hb => ?_) fun hb4 => ?_
    · have hb' : o.kind = 4 := by simpa using hb
      have e : stepW n M (modW X) (O.map Prod.fst) o = (modW X, O.map Prod.fst, if (nowM n M (modW X) o.key).has = true ∧ (nowM n M (modW X) o.key).val = o.val then 0 else 110) := by unfold stepW; rw [if_neg hb1', if_neg hb7', if_neg hb2', if_neg hb3', if_pos hb']
      rw [e] at h
      have fin := h os X O rfl rfl hX
      refine s_ld (b := x5) (x := (nowM n M (modW X) o.key).has) ?_
      refine s_ite (fun hc => ?_) fun hc => ?_
      · have hc' : (nowM n M (modW X) o.key).has = false := by simpa using hc
        rw [if_neg (by rw [hc']; simp)] at fin
        unfold eval_run_step.s2
        refine s_t ?_
        exact s_end fin
      · have hc' : (nowM n M (modW X) o.key).has = true := by simpa using hc
        refine s_ld (b := x5) (x := s) ?_
        refine s_ld (b := o3) (x := osl) ?_
        refine bytesEqual_hg (fun w hw => hrd w hw.tail) (fun w hw => hv w hw.drops) ?_
        unfold eval_run_step.s2
        refine s_ite (fun hd => ?_) fun hd => ?_
        · have hd' : ¬ (nowM n M (modW X) o.key).val = o.val := by simpa using hd
          rw [if_neg fun x => hd' x.2] at fin
          exact s_end fin
        · have hd' : (nowM n M (modW X) o.key).val = o.val := by simpa using hd
          rw [if_pos ⟨hc', hd'⟩] at fin
          exact s_end fin
    have hb4' : ¬ o.kind = 4 := by simpa using hb4
    refine s_ite (fun hb => ?_) fun hb5 => ?_
    · have hb' : o.kind = 5 := by simpa using hb
      have e : stepW n M (modW X) (O.map Prod.fst) o = (modW X, O.map Prod.fst, if (nowM n M (modW X) o.key).has then 110 else 0) := by unfold stepW; rw [if_neg hb1', if_neg hb7', if_neg hb2', if_neg hb3', if_neg hb4', if_pos hb']
      rw [e] at h
      have fin := h os X O rfl rfl hX
      refine s_ld (b := x5) (x := (nowM n M (modW X) o.key).has) ?_
      refine s_ite (fun hc => ?_) fun hc => ?_
      · simp only [hc, if_true] at fin
        exact s_end fin
      · simp only [hc, Bool.false_eq_true, if_false] at fin
        exact s_end fin
    have hb5' : ¬ o.kind = 5 := by simpa using hb5
    refine s_ite (fun hb => ?_) fun hb6 => ?_
    · have hb' : o.kind = 6 := by simpa using hb
      have e : stepW n M (modW X) (O.map Prod.fst) o = ((addW n M (modW X) o.key o.n).1, O.map Prod.fst, (addW n M (modW X) o.key o.n).2) := by unfold stepW; rw [if_neg hb1', if_neg hb7', if_neg hb2', if_neg hb3', if_neg hb4', if_neg hb5', if_pos hb']
      rw [e] at h
      refine s_ldN (b := o3) (l' := opF (o, osl)) ?_
      refine s_end (Δ := runL rb st mb os X O (StoreR st n M :: Γ)) ?_
      exact runAdd_hg ho hX fun X' h1 h2 => h os X' O h1 rfl h2
    · have hb6' : ¬ o.kind = 6 := by simpa using hb6
      have e : stepW n M (modW X) (O.map Prod.fst) o = (modW X, O.map Prod.fst, 0) := by unfold stepW; rw [if_neg hb1', if_neg hb7', if_neg hb2', if_neg hb3', if_neg hb4', if_neg hb5', if_neg hb6']
      rw [e] at h
      exact s_end (h os X O rfl rfl hX)
  refine s_end (Δ := runL rb st mb os X O (StoreR st n M :: blk o3 (.cells (opF (o, osl)).toArray ty_api_Op (0, 0)) :: Γ)) ?_
  refine runGet_hg hk hX (fun r s hm hok hrd => ?_) fun hm s hok => ?_
  · refine fun w hw => ?_
    refine hg (show Holds B (pur True :: _) w from Holds.pur.2 ⟨trivial, hw⟩) ?_
    clear hw w
    refine s_end (Δ := pur True :: blk o3 (.cells (opF (o, osl)).toArray ty_api_Op (0, 0)) :: runL rb st mb os X O (StoreR st n M :: Γ)) ?_
    refine rest r s _ ?_ hok fun w hw => hrd w hw.drops
    unfold nowM; rw [hmg, hm]; rfl
  · refine s_end (Δ := Bytes ty_uint8 s (sGet n M (bs o.key)).val :: blk o3 (.cells (opF (o, osl)).toArray ty_api_Op (0, 0)) :: runL rb st mb os X O (StoreR st n M :: Γ)) ?_
    refine rest _ s _ ?_ hok fun w hw => rdB_of hw
    unfold nowM; rw [hmg, hm]; rfl
end
end Go.Proofs.YtinpgiafjjibnaaGreat
/- eval.Run: what becomes of a transaction. -/
namespace Go.Proofs.YtinpgiafjjibnaaGreat
open Go Go.Sep Go.Sep.Bt
set_option linter.unusedSimpArgs false
set_option linter.unusedVariables false
set_option maxRecDepth 100000

def txOk (t : TxX) : Prop := (∀ k ∈ t.writes, k.length < 1000000000000) ∧ (∀ x ∈ t.ops, x.1.ok) ∧ t.ops.length < 1000000 ∧ t.writes.length < 1000000 ∧ t.reads.length < 1000000 ∧ ∀ k ∈ t.reads, k.length < 1000000000000
def moveW (n : Nat) (M : Recs) (to : Int) : List (List UInt8) → WM → WM × Int
  | [], W => (W, 0)
  | k :: ks, W => if (nowM n M W k).cnt = 18446744073709551615 then (W, 111) else moveW n M to ks (mset k { nowM n M W k with home := to, cnt := (nowM n M W k).cnt + 1 } W)
theorem moveW_cons {n : Nat} {M : Recs} {to : Int} {k : List UInt8} {ks : List (List UInt8)} {W : WM} : moveW n M to (k :: ks) W = if (nowM n M W k).cnt = 18446744073709551615 then (W, 111) else moveW n M to ks (mset k { nowM n M W k with home := to, cnt := (nowM n M W k).cnt + 1 } W) := rfl
theorem moveW_nil {n : Nat} {M : Recs} {to : Int} {W : WM} : moveW n M to [] W = (W, 0) := rfl
def opsW (n : Nat) (M : Recs) : List OpX → WM → OM → WM × OM × Int
  | [], W, O => (W, O, 0)
  | x :: xs, W, O => if (stepW n M W O x.1).2.2 ≠ 0 then stepW n M W O x.1 else opsW n M xs (stepW n M W O x.1).1 (stepW n M W O x.1).2.1
def runW (n : Nat) (M : Recs) (t : TxX) : WM × OM × Int :=
  if t.kind = 2 then ((moveW n M t.to t.writes []).1, [], (moveW n M t.to t.writes []).2) else opsW n M t.ops [] []
section
variable {B : World} {Γ Δ : List HProp} {rb st mb n : Nat} {os : Sl} {X : WX} {O : OX} {M : Recs} {k : List UInt8}
/-- A record is in the place of one with the same bytes. -/
theorem mset_same {r r' : Rec} {s : Sl} (hm : mget k X = some (r, s)) (hv : r'.val = r.val) : (mset k (r', s) X).map wB = X.map wB := by
  rcases mfind k X with ⟨h1, _⟩ | ⟨j, x, hj, h0, _, h1, h2, _⟩
  · rw [h1] at hm; cases hm
  · rw [h1] at hm
    injection hm with hm
    subst hm
    rw [h2, List.map_set]
    apply List.ext_getElem?
    intro i
    rw [List.getElem?_set]
    split
    · rename_i h3
      subst h3
      simp only [List.getElem?_map, h0, Option.map_some, List.length_map, hj, if_true]
      show some (Bytes ty_uint8 s r'.val) = some (Bytes ty_uint8 s r.val)
      rw [hv]
    · rfl
theorem runMove_hg {Q : Int → K} {t : TxX} (hX : ∀ p ∈ X, p.2.1.ok) (htx : txOk t) (ht : ∀ w, Holds B Γ w → RdC w t.ws 1 (t.writes.map strV))
    (h : ∀ X', modW X' = (moveW n M t.to t.writes (modW X)).1 → (∀ p ∈ X', p.2.1.ok) → HG B (runL rb st mb os X' O (StoreR st n M :: Γ)) (Q (moveW n M t.to t.writes (modW X)).2)) :
    HG B (runL rb st mb os X O (StoreR st n M :: Γ)) (eval_run_move.call (some ⟨rb, 0, none⟩) (txL t).toArray Q) := fun w hw => by
  refine eval_run_move_ok _ _ _ _ ?_
  have hlen : t.ws.n = t.writes.length := by have := (ht w hw.drops).len; simpa using this.symm
  refine hg hw ?_
  clear hw w
  unfold eval_run_move
  refine s_new fun t3 => ?_
  refine s_ld (b := t3) (x := t.ws) ?_
  refine s_end (Δ := runL rb st mb os X O (StoreR st n M :: blk t3 (.cells (txL t).toArray ty_api_Txn (0, 0)) :: Γ)) ?_
  refine s_loop (α := Int) (ι := WX × Nat) (fun x i => x = (i.2 : Int) ∧ i.2 ≤ t.writes.length ∧ (∀ p ∈ i.1, p.2.1.ok) ∧ moveW n M t.to (t.writes.drop i.2) (modW i.1) = moveW n M t.to t.writes (modW X))
    (fun x i => runL rb st mb os i.1 O (StoreR st n M :: blk t3 (.cells (txL t).toArray ty_api_Txn (0, 0)) :: Γ)) (fun x i => t.writes.length - i.2) (X, 0) ⟨rfl, Nat.zero_le _, hX, rfl⟩ ?_
  rintro k' _ ⟨X1, j⟩ ⟨rfl, hj, hX1, he⟩ hk'
  simp only at hj hX1 he hk' ⊢
  unfold eval_run_move.b1
  refine s_ite (fun hb => ?_) fun hb => ?_
  · have hjl : j < t.writes.length := by simp only [decide_eq_true_eq] at hb; omega
    have hd : t.writes.drop j = t.writes[j] :: t.writes.drop (j + 1) := List.drop_eq_getElem_cons hjl
    have hkl : t.writes[j].length < 1000000000000 := htx.1 _ (List.getElem_mem hjl)
    have hge : t.writes[j]? = some t.writes[j] := List.getElem?_eq_getElem hjl
    rw [hd] at he
    generalize t.writes[j] = key at he hkl hge
    refine s_idxS (L := t.writes) (fun w hw => ht w hw.drops) hge ?_
    have hmg : mget key (modW X1) = (mget key X1).map (·.1) := mget_map _ _ _
    rw [moveW_cons] at he
    have rest : ∀ (r : Rec) (s : Sl) (A : HProp), r = nowM n M (modW X1) key → r.ok → (∀ r' : Rec, r'.val = r.val → ∀ q : K, HG B (Sep.stars ((mset key (r', s) X1).map wB) :: blk rb (.cells [.pointer (some ⟨st, 0, none⟩), .map (some mb), os.val].toArray ty_eval_run (0, 0)) :: MapR strV wV mb (mset key (r', s) X1) :: SlC ty_api_Out 2 os (O.flatMap oF) :: Sep.stars (O.map oB) :: StoreR st n M :: blk t3 (.cells (txL t).toArray ty_api_Txn (0, 0)) :: Γ) q → HG B (A :: Sep.stars (X1.map wB) :: blk rb (.cells [.pointer (some ⟨st, 0, none⟩), .map (some mb), os.val].toArray ty_eval_run (0, 0)) :: MapR strV wV mb (mset key (r', s) X1) :: SlC ty_api_Out 2 os (O.flatMap oF) :: Sep.stars (O.map oB) :: StoreR st n M :: blk t3 (.cells (txL t).toArray ty_api_Txn (0, 0)) :: Γ) q) →
        HG B (A :: runL rb st mb os X1 O (StoreR st n M :: blk t3 (.cells (txL t).toArray ty_api_Txn (0, 0)) :: Γ)) ((fun t17 => New ty_api_Record [.bool false, Sl.val ⟨none, 0, 0⟩, .int .i64 0, .int .u64 0].toArray fun x7 =>
    StN x7 4 t17 <|
    Ld (x7.add 3) (Value.int .u64) fun t19 =>
    Ite (decide (t19 = 18446744073709551615))
      (Q 111)
      (Ld ((⟨t3, 0, none⟩ : Addr).add 4) (Value.int .i64) fun t22 =>
      St (x7.add 2) (.int .i64 t22) <|
      Ld (x7.add 3) (Value.int .u64) fun t25 =>
      Ar (IntKind.wrap .u64 (t25 + 1)) fun t26 =>
      St (x7.add 3) (.int .u64 t26) <|
      Dr <|
      Nn (some ⟨rb, 0, none⟩) fun t29 =>
      Ld (t29.add 1) Value.map fun t31 =>
      LdN x7 4 fun t33 =>
      DoU Tryz.prog (Instr.mapUpdate ty_map_string_api_Record (.map t31) (.string (bs key)) (.agg t33)) <|
      Ar (IntKind.wrap .i64 ((j : Int) + 1)) fun t34 =>
      k' t34)) (recA r s)) := fun r s A hr hok hA => by
      subst hr
      dsimp only
      refine s_new fun x7 => ?_
      refine s_stN (b := x7) (l' := recL (nowM n M (modW X1) key) s) ?_
      refine s_ld (b := x7) (x := (nowM n M (modW X1) key).cnt) ?_
      refine s_ite (fun hc => ?_) fun hc => ?_
      · rw [if_pos (by simpa using hc)] at he
        have := h X1 (by rw [← he]) hX1
        rw [← he] at this
        exact s_end this
      · have hc' : ¬ (nowM n M (modW X1) key).cnt = 18446744073709551615 := by simpa using hc
        rw [if_neg hc'] at he
        refine s_ld (b := t3) (x := t.to) ?_
        refine s_st (b := x7) ?_
        refine s_ld (b := x7) (x := (nowM n M (modW X1) key).cnt) ?_
        obtain ⟨o1, o2, o3⟩ := hok
        refine s_ar (wrapU64 (by omega) (by omega)) ?_
        refine s_st (b := x7) ?_
        refine s_dr ?_
        refine s_nn ?_
        refine s_ld (b := rb) (x := some mb) ?_
        refine s_ldN (b := x7) (l' := recL { nowM n M (modW X1) key with home := t.to, cnt := (nowM n M (modW X1) key).cnt + 1 } s) ?_
        refine s_upd (b := mb) (enc := strV) (cV := wV) (v := (({ nowM n M (modW X1) key with home := t.to, cnt := (nowM n M (modW X1) key).cnt + 1 } : Rec), s)) (cG := Value.agg) rfl mapRec keyE_str ?_
        have hwl := htx.2.2.2.1
        refine s_ai ?_
        refine s_end (Δ := A :: Sep.stars (X1.map wB) :: blk rb (.cells [.pointer (some ⟨st, 0, none⟩), .map (some mb), os.val].toArray ty_eval_run (0, 0)) :: MapR strV wV mb (mset key ({ nowM n M (modW X1) key with home := t.to, cnt := (nowM n M (modW X1) key).cnt + 1 }, s) X1) :: SlC ty_api_Out 2 os (O.flatMap oF) :: Sep.stars (O.map oB) :: StoreR st n M :: blk t3 (.cells (txL t).toArray ty_api_Txn (0, 0)) :: Γ) ?_
        refine hA { nowM n M (modW X1) key with home := t.to, cnt := (nowM n M (modW X1) key).cnt + 1 } rfl _ ?_
        refine s_end (Δ := runL rb st mb os (mset key ({ nowM n M (modW X1) key with home := t.to, cnt := (nowM n M (modW X1) key).cnt + 1 }, s) X1) O (StoreR st n M :: blk t3 (.cells (txL t).toArray ty_api_Txn (0, 0)) :: Γ)) ?_
        refine hk' _ (mset key ({ nowM n M (modW X1) key with home := t.to, cnt := (nowM n M (modW X1) key).cnt + 1 }, s) X1, j + 1) ⟨by simp, hjl, ok_mset hX1 ⟨by simp only; omega, by simp only; omega, o3⟩, ?_⟩ (by simp only; omega)
        simp only
        rw [modW_set]
        exact he
    refine runGet_hg hkl hX1 (fun r s hm hok hrd => ?_) fun hm s hok => ?_
    · refine fun w hw => ?_
      refine hg (show Holds B (pur True :: _) w from Holds.pur.2 ⟨trivial, hw⟩) ?_
      clear hw w
      refine rest r s _ (by unfold nowM; rw [hmg, hm]; rfl) hok fun r' hr' q hq => ?_
      rw [mset_same hm hr'] at hq
      exact s_end hq
    · refine rest _ s _ (by unfold nowM; rw [hmg, hm]; rfl) hok fun r' hr' q hq => ?_
      rw [show Bytes ty_uint8 s (sGet n M (bs key)).val = wB (key, (r', s)) by show _ = Bytes ty_uint8 s r'.val; rw [hr']]
      exact s_mset hq
  · have hjl : j = t.writes.length := by simp only [decide_eq_false_iff_not] at hb; omega
    rw [hjl, List.drop_length, moveW_nil] at he
    have := h X1 (by rw [← he]) hX1
    rw [← he] at this
    exact s_end this
end

/-! ### the rows that a transaction writes -/
def rowF (x : List UInt8 × (Rec × Sl)) : List Value := strV x.1 :: recL x.2.1 x.2.2
theorem rowF_len (x : List UInt8 × (Rec × Sl)) : (rowF x).length = 5 := rfl
def sortW {ν : Type} (W : List (List UInt8 × ν)) : List (List UInt8 × ν) := W.mergeSort fun p q => decide (p.1 ≤ q.1)
theorem sortW_keys {ν : Type} (W : List (List UInt8 × ν)) : (sortW W).map Prod.fst = sortL (W.map Prod.fst) := List.map_mergeSort (fun a _ b _ => rfl)
theorem sortW_mod (X : WX) : modW (sortW X) = sortW (modW X) := List.map_mergeSort (fun a _ b _ => rfl)
theorem sortW_perm {ν : Type} (W : List (List UInt8 × ν)) : (sortW W).Perm W := List.mergeSort_perm _ _
abbrev KeysOnce {ν : Type} (W : List (List UInt8 × ν)) : Prop := (W.map Prod.fst).Nodup
theorem once_mset {ν : Type} {W : List (List UInt8 × ν)} {k : List UInt8} {v : ν} (h : KeysOnce W) : KeysOnce (mset k v W) := by
  unfold KeysOnce
  rw [mset_keys]
  split
  · exact h
  · rename_i hk
    refine List.nodup_append.2 ⟨h, by simp, fun a ha b hb => ?_⟩
    rw [List.mem_singleton.1 hb]
    exact fun e => hk (e ▸ ha)
theorem once_get {ν : Type} {W : List (List UInt8 × ν)} {k : List UInt8} {v : ν} (h : KeysOnce W) (hm : (k, v) ∈ W) : mget k W = some v := by
  induction W with
  | nil => cases hm
  | cons p W ih =>
    have h1 := List.nodup_cons.1 (show (p.1 :: W.map Prod.fst).Nodup from h)
    unfold mget
    rcases List.mem_cons.1 hm with rfl | hm
    · rw [if_pos rfl]
    · rw [if_neg (show ¬ k = p.1 from fun e => h1.1 (by rw [← e]; exact List.mem_map.2 ⟨_, hm, rfl⟩))]
      exact ih h1.2 hm
theorem once_step {n : Nat} {M : Recs} {W : WM} {O : OM} {o : OpM} (h : KeysOnce W) : KeysOnce (stepW n M W O o).1 := by
  unfold stepW setW
  repeat' split
  all_goals first | exact h | exact once_mset h | skip
  unfold addW setW
  repeat' split
  all_goals first | exact h | exact once_mset h
theorem step_len {n : Nat} {M : Recs} {W : WM} {O : OM} {o : OpM} : (stepW n M W O o).2.1.length ≤ O.length + 1 := by
  unfold stepW
  repeat' split
  all_goals simp
theorem once_ops {n : Nat} {M : Recs} : ∀ {xs : List OpX} {W : WM} {O : OM}, KeysOnce W → KeysOnce (opsW n M xs W O).1
  | [], _, _, h => h
  | x :: xs, W, O, h => by
    unfold opsW
    split
    · exact once_step h
    · exact once_ops (once_step h)
theorem once_move {n : Nat} {M : Recs} {to : Int} : ∀ {ks : List (List UInt8)} {W : WM}, KeysOnce W → KeysOnce (moveW n M to ks W).1
  | [], _, h => h
  | k :: ks, W, h => by
    rw [moveW_cons]
    split
    · exact h
    · exact once_move (once_mset h)
theorem once_run {n : Nat} {M : Recs} {t : TxX} : KeysOnce (runW n M t).1 := by
  unfold runW
  split
  · exact once_move (by simp [KeysOnce])
  · exact once_ops (by simp [KeysOnce])
theorem opsW_cons {n : Nat} {M : Recs} {x : OpX} {xs : List OpX} {W : WM} {O : OM} : opsW n M (x :: xs) W O = if (stepW n M W O x.1).2.2 ≠ 0 then stepW n M W O x.1 else opsW n M xs (stepW n M W O x.1).1 (stepW n M W O x.1).2.1 := rfl
theorem opsW_nil {n : Nat} {M : Recs} {W : WM} {O : OM} : opsW n M [] W O = (W, O, 0) := rfl
section
variable {B : World} {Γ Δ : List HProp} {rb st mb n t4 : Nat} {os : Sl} {X : WX} {O : OX} {M : Recs} {k : List UInt8}
/-- The end of Run: nothing, or what was put out and the rows. -/
theorem runEnd_hg {Q : Array Value → Sl → K} {e : Int} (hX : KeysOnce X) (hXl : X.length ≤ 1000000)
    (hbad : e ≠ 0 → HG B Γ (Q #[.int .i64 e, Sl.val ⟨none, 0, 0⟩] ⟨none, 0, 0⟩))
    (hgood : e = 0 → ∀ rows, HG B (SlC ty_api_Out 2 os (O.flatMap oF) :: Sep.stars (O.map oB) :: SlC ty_api_Row 5 rows ((sortW X).flatMap rowF) :: Sep.stars ((sortW X).map wB) :: Γ) (Q #[.int .i64 0, os.val] rows)) :
    HG B (blk t4 (.cells [.int .i64 0, Sl.val ⟨none, 0, 0⟩].toArray ty_api_Result (0, 0)) :: runL rb st mb os X O Γ) (eval_Run.s1 Q ⟨t4, 0, none⟩ ⟨rb, 0, none⟩ e) := by
  unfold eval_Run.s1
  refine s_ite (fun hb => ?_) fun hb => ?_
  · refine s_stN (b := t4) (l' := [.int .i64 e, Sl.val ⟨none, 0, 0⟩]) ?_
    refine s_ldN (b := t4) (l' := [.int .i64 e, Sl.val ⟨none, 0, 0⟩]) ?_
    exact s_end (hbad (by simpa using hb))
  have h0 : e = 0 := by simpa using hb
  have hgood := hgood h0
  refine s_ld (b := rb) (x := some mb) ?_
  refine s_own mb ?_
  refine fun w hw => sorted_keys_specR hXl hw fun ks w hw => ?_
  refine hg hw ?_
  clear hw w
  rw [← sortW_keys]
  generalize hR : sortW X = R at *
  have hRm : ∀ x ∈ R, mget x.1 X = some x.2 := fun x hx => once_get hX (by rw [← hR] at hx; exact (sortW_perm X).subset hx)
  have hRl : R.length ≤ 1000000 := by rw [← hR, (sortW_perm X).length_eq]; exact hXl
  have hperm : (R.map wB).Perm (X.map wB) := by rw [← hR]; exact (sortW_perm X).map _
  refine s_cap ks fun c1 c2 c3 c4 => ?_
  have hkn : ks.n = R.length := by simpa using c1.symm
  refine fun w hw => ?_
  refine hg (show Holds B (SlC ty_api_Row 5 ⟨none, 0, 0⟩ [] :: _) w from hw.nilSl _ _) ?_
  clear hw w
  refine s_loop (α := Sl × Int) (ι := Nat) (fun x i => x.2 = (i : Int) ∧ i ≤ R.length)
    (fun x i => SlC ty_api_Row 5 x.1 ((R.take i).flatMap rowF) :: SlS ks (R.map Prod.fst) :: MapR strV wV mb X :: blk t4 (.cells [.int .i64 0, Sl.val ⟨none, 0, 0⟩].toArray ty_api_Result (0, 0)) :: blk rb (.cells [.pointer (some ⟨st, 0, none⟩), .map (some mb), os.val].toArray ty_eval_run (0, 0)) :: Sep.stars (X.map wB) :: SlC ty_api_Out 2 os (O.flatMap oF) :: Sep.stars (O.map oB) :: Γ) (fun x i => R.length - i) 0 ⟨rfl, Nat.zero_le _⟩ ?_
  rintro k' ⟨rows, jj⟩ j ⟨hj, hjl⟩ hk'
  simp only at hj hjl hk' ⊢
  subst hj
  unfold eval_Run.b2
  refine s_cap rows fun d1 d2 d3 d4 => ?_
  rw [flatMap_len _ 5 rowF_len, List.length_take, Nat.min_eq_left hjl] at d1
  refine s_ite (fun hb2 => ?_) fun hb2 => ?_
  · have hjl2 : j < R.length := by simp only [decide_eq_true_eq] at hb2; omega
    have hge : (R.map Prod.fst)[j]? = some R[j].1 := by rw [List.getElem?_map, List.getElem?_eq_getElem hjl2]; rfl
    have hmx := hRm _ (List.getElem_mem hjl2)
    have htk : R.take (j + 1) = R.take j ++ [R[j]] := List.take_succ_eq_append_getElem hjl2
    generalize R[j] = x at hge hmx htk
    refine s_idxS (L := R.map Prod.fst) (fun w hw => (own_rd (s := ks) hw).1) hge ?_
    refine s_ld (b := rb) (x := some mb) ?_
    refine s_look1 (b := mb) (enc := strV) (cV := wV) (cG := Value.agg) (g := fun x => recA x.1 x.2) (z := zRec) (a := x.1) (fun _ => rfl) mapRec keyE_str zeroRec ?_
    rw [hmx]
    refine s_bld (cs := rowF x) ?_ rfl
    refine s_bld1 (cs := rowF x) ?_
    refine s_app1 (s := rows) (m := 1) (us := rowF x) (fun rows' hrows' => ?_)
    refine s_ai ?_
    have e1 : (R.take j).flatMap rowF ++ rowF x = (R.take (j + 1)).flatMap rowF := by rw [htk]; simp
    rw [e1]
    exact hk' (rows', (j : Int) + 1) (j + 1) ⟨by simp, hjl2⟩ (by omega)
  · have hjl2 : j = R.length := by simp only [decide_eq_false_iff_not] at hb2; omega
    refine s_ld (b := rb) (x := os) ?_
    refine s_stN (b := t4) (l' := [.int .i64 0, os.val]) ?_
    refine s_ldN (b := t4) (l' := [.int .i64 0, os.val]) ?_
    rw [hjl2, List.take_length]
    refine s_pick (Sep.stars (X.map wB)) ?_
    refine fun w hw => ?_
    refine hg (show Holds B (Sep.stars (R.map wB) :: _) w from Holds.flat.2 ((Holds.flat.1 hw).perm (hperm.symm.append_right _))) ?_
    exact s_end (hgood rows)
theorem keys_mod (X : WX) : (modW X).map Prod.fst = X.map Prod.fst := by simp [modW, Function.comp_def]
theorem mset_len {ν : Type} (W : List (List UInt8 × ν)) (k : List UInt8) (v : ν) : (mset k v W).length ≤ W.length + 1 := by
  have h := congrArg List.length (mset_keys W k v)
  rw [List.length_map] at h
  rw [h]
  split
  · simp
  · simp
theorem step_wlen {n : Nat} {M : Recs} {W : WM} {O : OM} {o : OpM} : (stepW n M W O o).1.length ≤ W.length + 1 := by
  unfold stepW setW
  repeat' split
  all_goals first | exact mset_len _ _ _ | (simp only; omega) | skip
  unfold addW setW
  repeat' split
  all_goals first | exact mset_len _ _ _ | (simp only; omega)
theorem ops_wlen {n : Nat} {M : Recs} : ∀ {xs : List OpX} {W : WM} {O : OM}, (opsW n M xs W O).1.length ≤ W.length + xs.length
  | [], _, _ => by simp [opsW]
  | x :: xs, W, O => by
    rw [opsW_cons]
    have := step_wlen (n := n) (M := M) (W := W) (O := O) (o := x.1)
    split
    · simp only [List.length_cons]; omega
    · have h2 := ops_wlen (n := n) (M := M) (xs := xs) (W := (stepW n M W O x.1).1) (O := (stepW n M W O x.1).2.1)
      simp only [List.length_cons]; omega
theorem move_wlen {n : Nat} {M : Recs} {to : Int} : ∀ {ks : List (List UInt8)} {W : WM}, (moveW n M to ks W).1.length ≤ W.length + ks.length
  | [], _ => by simp [moveW]
  | k :: ks, W => by
    rw [moveW_cons]
    split
    · simp only [List.length_cons]; omega
    · exact Nat.le_trans move_wlen (Nat.le_trans (Nat.add_le_add_right (mset_len _ _ _) _) (by simp only [List.length_cons]; omega))
/-- Run. -/
theorem eval_Run_hg {Q : Array Value → Sl → K} {t : TxX} (htx : txOk t) (ht : ∀ w, Holds B Γ w → txRd w t)
    (hbad : (runW n M t).2.2 ≠ 0 → HG B (StoreR st n M :: Γ) (Q #[.int .i64 (runW n M t).2.2, Sl.val ⟨none, 0, 0⟩] ⟨none, 0, 0⟩))
    (hgood : (runW n M t).2.2 = 0 → ∀ (os : Sl) (O : OX) (rows : Sl) (R : WX), O.map Prod.fst = (runW n M t).2.1 → modW R = sortW (runW n M t).1 → (∀ p ∈ R, p.2.1.ok) → HG B (SlC ty_api_Out 2 os (O.flatMap oF) :: Sep.stars (O.map oB) :: SlC ty_api_Row 5 rows (R.flatMap rowF) :: Sep.stars (R.map wB) :: StoreR st n M :: Γ) (Q #[.int .i64 0, os.val] rows)) :
    HG B (StoreR st n M :: Γ) (eval_Run.call (some ⟨st, 0, none⟩) (txL t).toArray Q) := fun w hw => by
  refine eval_Run_ok _ _ _ _ ?_
  have hon : t.os.n = t.ops.length := rd_len opF_len (by omega) (ht w hw.drops).2.2.1
  refine hg hw ?_
  clear hw w
  unfold eval_Run
  refine s_new fun t3 => ?_
  refine s_new fun t4 => ?_
  refine s_mkMap (enc := strV) (cV := wV) fun mb => ?_
  refine s_new fun rb => ?_
  refine s_ld (b := t3) (x := t.kind) ?_
  refine fun w hw => ?_
  refine hg (show Holds B (Sep.stars (([] : WX).map wB) :: _) w from Holds.flat.2 hw) ?_
  clear hw w
  refine fun w hw => ?_
  refine hg (show Holds B (Sep.stars (([] : OX).map oB) :: _) w from Holds.flat.2 hw) ?_
  clear hw w
  refine fun w hw => ?_
  refine hg (show Holds B (SlC ty_api_Out 2 ⟨none, 0, 0⟩ (([] : OX).flatMap oF) :: _) w from hw.nilSl _ _) ?_
  clear hw w
  -- the end, for any
  have fin : ∀ (os : Sl) (X : WX) (O : OX) (e : Int), modW X = (runW n M t).1 → O.map Prod.fst = (runW n M t).2.1 → e = (runW n M t).2.2 → (∀ p ∈ X, p.2.1.ok) → HG B (blk t4 (.cells [.int .i64 0, Sl.val ⟨none, 0, 0⟩].toArray ty_api_Result (0, 0)) :: runL rb st mb os X O (StoreR st n M :: Γ)) (eval_Run.s1 Q ⟨t4, 0, none⟩ ⟨rb, 0, none⟩ e) := fun os X O e h1 h2 h3 h4 => by
    have hko : KeysOnce X := by unfold KeysOnce; rw [← keys_mod, h1]; exact once_run
    have hwl : X.length ≤ 1000000 := by
      have e1 : X.length = (modW X).length := by simp
      rw [e1, h1]
      unfold runW
      have := htx.2.2
      split
      · have h5 := move_wlen (n := n) (M := M) (to := t.to) (ks := t.writes) (W := [])
        simp only [List.length_nil] at h5
        simp only; omega
      · have h5 := ops_wlen (n := n) (M := M) (xs := t.ops) (W := []) (O := [])
        simp only [List.length_nil] at h5
        omega
    refine runEnd_hg hko hwl (fun h5 => ?_) fun h5 rows => ?_
    · rw [h3]; exact hbad (by rw [← h3]; exact h5)
    · refine hgood (by rw [← h3]; exact h5) os O rows (sortW X) h2 (by rw [sortW_mod, h1]) fun p hp => h4 p ((sortW_perm X).subset hp)
  refine s_ite (fun hb => ?_) fun hb => ?_
  · have hk2 : t.kind = 2 := by simpa using hb
    have hr : runW n M t = ((moveW n M t.to t.writes []).1, [], (moveW n M t.to t.writes []).2) := by unfold runW; rw [if_pos hk2]
    refine s_ldN (b := t3) (l' := txL t) ?_
    refine s_end (Δ := runL rb st mb ⟨none, 0, 0⟩ [] [] (StoreR st n M :: blk t4 (.cells [.int .i64 0, Sl.val ⟨none, 0, 0⟩].toArray ty_api_Result (0, 0)) :: Γ)) ?_
    refine runMove_hg (by simp) htx (fun w hw => (ht w hw.tail).2.1) fun X' h1 h2 => ?_
    refine s_end (Δ := blk t4 (.cells [.int .i64 0, Sl.val ⟨none, 0, 0⟩].toArray ty_api_Result (0, 0)) :: runL rb st mb ⟨none, 0, 0⟩ X' [] (StoreR st n M :: Γ)) ?_
    exact fin _ X' [] _ (by rw [hr]; exact h1) (by rw [hr]; rfl) (by rw [hr]; rfl) h2
  · have hk2 : ¬ t.kind = 2 := by simpa using hb
    have hr : runW n M t = opsW n M t.ops [] [] := by unfold runW; rw [if_neg hk2]
    refine s_ld (b := t3) (x := t.os) ?_
    refine s_end (Δ := runL rb st mb ⟨none, 0, 0⟩ [] [] (StoreR st n M :: blk t4 (.cells [.int .i64 0, Sl.val ⟨none, 0, 0⟩].toArray ty_api_Result (0, 0)) :: Γ)) ?_
    refine s_loop (α := Int × Int) (ι := Sl × WX × OX × Nat) (fun x i => x.1 = 0 ∧ x.2 = (i.2.2.2 : Int) ∧ i.2.2.2 ≤ t.ops.length ∧ (∀ p ∈ i.2.1, p.2.1.ok) ∧ i.2.2.1.length ≤ i.2.2.2 ∧ opsW n M (t.ops.drop i.2.2.2) (modW i.2.1) (i.2.2.1.map Prod.fst) = opsW n M t.ops [] [])
      (fun x i => runL rb st mb i.1 i.2.1 i.2.2.1 (StoreR st n M :: blk t4 (.cells [.int .i64 0, Sl.val ⟨none, 0, 0⟩].toArray ty_api_Result (0, 0)) :: Γ)) (fun x i => t.ops.length - i.2.2.2) (⟨none, 0, 0⟩, [], [], 0) ⟨rfl, rfl, Nat.zero_le _, by simp, Nat.le_refl _, rfl⟩ ?_
    rintro k' ⟨_, _⟩ ⟨os1, X1, O1, j⟩ ⟨rfl, rfl, hjl, hX1, hO1, he⟩ hk'
    simp only at hjl hX1 hO1 he hk' ⊢
    unfold eval_Run.b3
    refine s_ite (fun hb2 => ?_) fun hb2 => ?_
    · have hjl2 : j < t.ops.length := by simp only [decide_eq_true_eq] at hb2; omega
      have hge : t.ops[j]? = some t.ops[j] := List.getElem?_eq_getElem hjl2
      have hmem : t.ops[j] ∈ t.ops := List.getElem_mem hjl2
      rw [List.drop_eq_getElem_cons hjl2] at he
      generalize t.ops[j] = x at hge hmem he
      obtain ⟨o, osl⟩ := x
      refine s_idxN opF opF_len (fun w hw => (ht w hw.drops).2.2.1) hge ?_
      refine s_new fun o9 => ?_
      refine s_stN (b := o9) (l' := opF (o, osl)) ?_
      refine s_ldN (b := o9) (l' := opF (o, osl)) ?_
      refine s_end (Δ := runL rb st mb os1 X1 O1 (StoreR st n M :: blk t4 (.cells [.int .i64 0, Sl.val ⟨none, 0, 0⟩].toArray ty_api_Result (0, 0)) :: Γ)) ?_
      have hol := htx.2.2.1
      refine runStep_hg (htx.2.1 _ hmem) hX1 (by omega) (fun w hw => (ht w hw.tail).2.2.2 _ hmem) fun os2 X2 O2 h1 h2 h3 => ?_
      rw [opsW_cons] at he
      refine s_ite (fun hc => ?_) fun hc => ?_
      · have hc' : (stepW n M (modW X1) (O1.map Prod.fst) o).2.2 ≠ 0 := by simpa using hc
        rw [if_pos hc'] at he
        refine s_end (Δ := blk t4 (.cells [.int .i64 0, Sl.val ⟨none, 0, 0⟩].toArray ty_api_Result (0, 0)) :: runL rb st mb os2 X2 O2 (StoreR st n M :: Γ)) ?_
        exact fin os2 X2 O2 _ (by rw [hr, ← he, h1]) (by rw [hr, ← he, h2]) (by rw [hr, ← he]) h3
      · have hc' : (stepW n M (modW X1) (O1.map Prod.fst) o).2.2 = 0 := by simpa using hc
        rw [if_neg (by simp [hc'])] at he
        refine s_ai ?_
        rw [hc']
        refine hk' (0, (j : Int) + 1) (os2, X2, O2, j + 1) ⟨rfl, by simp, hjl2, h3, ?_, ?_⟩ (by simp only; omega)
        · have e1 := congrArg List.length h2
          have e2 := step_len (n := n) (M := M) (W := modW X1) (O := O1.map Prod.fst) (o := o)
          simp only [List.length_map] at e1 e2
          simp only; omega
        · simp only
          rw [h1, h2]; exact he
    · have hjl2 : j = t.ops.length := by simp only [decide_eq_false_iff_not] at hb2; omega
      rw [hjl2, List.drop_length, opsW_nil] at he
      refine s_end (Δ := blk t4 (.cells [.int .i64 0, Sl.val ⟨none, 0, 0⟩].toArray ty_api_Result (0, 0)) :: runL rb st mb os1 X1 O1 (StoreR st n M :: Γ)) ?_
      exact fin os1 X1 O1 _ (by rw [hr, ← he]) (by rw [hr, ← he]) (by rw [hr, ← he]) hX1
end
end Go.Proofs.YtinpgiafjjibnaaGreat
/- eval.Apply: a store gets what a transaction wrote. -/
namespace Go.Proofs.YtinpgiafjjibnaaGreat
open Go Go.Sep Go.Sep.Bt
set_option linter.unusedSimpArgs false
set_option linter.unusedVariables false
set_option maxRecDepth 100000

def sPut (n : Nat) (M : Recs) (k : ByteArray) (xs : List UInt8) : Recs := setM M k { sGet n M k with has := true, val := xs }
def sDel (n : Nat) (M : Recs) (k : ByteArray) : Recs := setM M k { sGet n M k with has := false, val := [] }
def apply0 (n : Nat) (M : Recs) (x : List UInt8 × Rec) : Recs := if (sGet n M (bs x.1)).cnt ≠ x.2.cnt then (sMove n M (bs x.1) x.2.home).1 else M
def apply1 (n : Nat) (M : Recs) (x : List UInt8 × Rec) : Recs := if x.2.has then sPut n (apply0 n M x) (bs x.1) x.2.val else sDel n (apply0 n M x) (bs x.1)
def applyM (n : Nat) (M : Recs) (W : WM) : Recs := W.foldl (apply1 n) M
theorem sMove_len2 (n : Nat) (M : Recs) (k : ByteArray) (to : Int) : (sMove n M k to).1.length ≤ M.length + 1 := by
  unfold sMove
  split
  · simp
  split
  · simp
  exact putM_len _ _ _
theorem apply0_len (n : Nat) (M : Recs) (x : List UInt8 × Rec) : (apply0 n M x).length ≤ M.length + 1 := by
  unfold apply0
  split
  · exact sMove_len2 _ _ _ _
  · omega
theorem apply1_len (n : Nat) (M : Recs) (x : List UInt8 × Rec) : (apply1 n M x).length ≤ M.length + 2 := by
  have h := apply0_len n M x
  unfold apply1 sPut sDel
  split
  · exact Nat.le_trans (setM_len _ _ _) (by omega)
  · exact Nat.le_trans (setM_len _ _ _) (by omega)
section
variable {B : World} {Γ Δ : List HProp} {st n : Nat} {M : Recs}
instance (priority := high) adr_add00 {b n m : Nat} : AdrIs (((⟨b, 0, none⟩ : Addr).add n).add m) b (n + m) := ⟨by rw [add_mk, add_mk, Nat.zero_add]⟩
abbrev rowL (x : List UInt8 × (Rec × Sl)) : List Value := [strV x.1, .bool x.2.1.has, x.2.2.val, .int .i64 x.2.1.home, .int .u64 x.2.1.cnt]
theorem apply_hg {s : Sl} {R : WX} {Q : K} (hr : ∀ w, Holds B Γ w → RdC w s 5 (R.flatMap rowF)) (hv : ∀ x ∈ R, ∀ w, Holds B Γ w → RdB w x.2.2 x.2.1.val) (hR : ∀ x ∈ R, x.1.length < 1000000000 ∧ x.2.1.ok) (hL : M.length + 2 * R.length < 100000000)
    (h : HG B (StoreR st n (applyM n M (modW R)) :: Γ) Q) : HG B (StoreR st n M :: Γ) (eval_Apply.call (some ⟨st, 0, none⟩) s Q) := fun w hw => by
  refine eval_Apply_ok _ _ _ _ ?_
  have hsn : s.n = R.length := rd_len rowF_len (by omega) (hr w hw.tail)
  refine hg hw ?_
  clear hw w
  unfold eval_Apply
  refine s_loop (α := Int) (ι := Nat × Recs) (fun x i => x = (i.1 : Int) ∧ i.1 ≤ R.length ∧ i.2 = applyM n M (modW (R.take i.1)) ∧ i.2.length ≤ M.length + 2 * i.1) (fun x i => StoreR st n i.2 :: Γ) (fun x i => R.length - i.1) (0, M) ⟨rfl, Nat.zero_le _, rfl, Nat.le_refl _⟩ ?_
  rintro k' _ ⟨i, N⟩ ⟨rfl, hi, hN, hNl⟩ hk'
  simp only at hi hN hNl hk' ⊢
  unfold eval_Apply.b1
  refine s_ite (fun hb => ?_) fun hb => ?_
  · have hil : i < R.length := by simp only [decide_eq_true_eq] at hb; omega
    have hge : R[i]? = some R[i] := List.getElem?_eq_getElem hil
    have hmem : R[i] ∈ R := List.getElem_mem hil
    have htk : R.take (i + 1) = R.take i ++ [R[i]] := List.take_succ_eq_append_getElem hil
    generalize R[i] = x at hge hmem htk
    obtain ⟨hxk, hxo⟩ := hR x hmem
    have hsz : (bs x.1).size = x.1.length := rfl
    refine s_idxN rowF rowF_len (fun w hw => hr w hw.tail) hge ?_
    refine s_new fun w5 => ?_
    refine s_stN (b := w5) (l' := rowL x) ?_
    repeat refine s_nx ?_
    refine s_own st ?_
    refine storeGet_spec (by omega) fun sl hok => ?_
    repeat refine s_nx ?_
    have next : ∀ N2, N2 = apply0 n N (x.1, x.2.1) → HG B (blk w5 (.cells (rowL x).toArray ty_api_Row (0, 0)) :: StoreR st n N2 :: Γ) (eval_Apply.s3 Q k' (some ⟨st, 0, none⟩) ⟨w5, 0, none⟩ s (s.n : Int) (i : Int)) := fun N2 hN2 => by
      have hl0 := apply0_len n N (x.1, x.2.1)
      have hl1 := apply1_len n N (x.1, x.2.1)
      have fin : HG B (StoreR st n (apply1 n N (x.1, x.2.1)) :: Γ) (eval_Apply.s2 Q k' (some ⟨st, 0, none⟩) s (s.n : Int) (i : Int)) := by
        unfold eval_Apply.s2
        refine s_ai ?_
        refine hk' ((i : Int) + 1) (i + 1, apply1 n N (x.1, x.2.1)) ⟨by simp, hil, ?_, by simp only; omega⟩ (by simp only; omega)
        simp only [htk, modW, List.map_append, List.map_cons, List.map_nil, applyM, List.foldl_append, List.foldl_cons, List.foldl_nil]
        rw [hN]; rfl
      unfold eval_Apply.s3
      repeat refine s_nx ?_
      refine s_ite (fun hc => ?_) fun hc => ?_
      · repeat refine s_nx ?_
        refine s_own st ?_
        refine storePutV_spec (by omega) (by rw [hN2]; omega) (fun w hw => hv x hmem w hw.drops) hxo.2.2 ?_
        have e : setM N2 (bs x.1) { sGet n N2 (bs x.1) with has := true, val := x.2.1.val } = apply1 n N (x.1, x.2.1) := by
          unfold apply1 sPut; rw [if_pos hc, ← hN2]
        rw [e]
        exact s_end fin
      · repeat refine s_nx ?_
        refine s_own st ?_
        refine storeDelete_spec (by omega) (by rw [hN2]; omega) ?_
        have e : setM N2 (bs x.1) { sGet n N2 (bs x.1) with has := false, val := [] } = apply1 n N (x.1, x.2.1) := by
          unfold apply1 sDel; rw [if_neg (by simp [hc]), ← hN2]
        rw [e]
        exact s_end fin
    refine s_ite (fun hc => ?_) fun hc => ?_
    · have hc' : (sGet n N (bs x.1)).cnt ≠ x.2.1.cnt := by simpa using hc
      repeat refine s_nx ?_
      refine s_own st ?_
      refine storeMove_spec (M := N) (by omega) (by omega) ?_
      exact s_end (next _ (by unfold apply0; rw [if_pos hc']))
    · have hc' : ¬ (sGet n N (bs x.1)).cnt ≠ x.2.1.cnt := by simpa using hc
      exact s_end (next _ (by unfold apply0; rw [if_neg hc']))
  · have hil : i = R.length := by simp only [decide_eq_false_iff_not] at hb; omega
    rw [hil, List.take_length] at hN
    rw [hN]
    exact h
end
end Go.Proofs.YtinpgiafjjibnaaGreat
/- Plain forms of functions, and that their code comes to them (package law07). -/
namespace Go.Proofs.YtinpgiafjjibnaaGreat
open Go Go.Sep
set_option linter.unusedVariables false
set_option linter.unusedSimpArgs false
set_option maxRecDepth 100000
set_option maxHeartbeats 4000000
attribute [local irreducible] G Gp Cx Tx Ex Sx Dx Ox Ax Lx Rx Fx Bx Bj Al Do Ld LdN St StN New CallF Ar DoU Rd Rd2 Pu Cd Ite Fv CallV CallY Ans0 Ans1 Ans2 Ans3 Ans4 Ans5 Ext Dead Dr WithS Sv LdS LdNS RdS Rd2S Nn Idx IdxA IdxS Fld Bld Slc SlcS Cat All LoopK RangeF RangeJ TakeD
namespace F_IRLaw07
instance at_68 : AT Tryz.prog 68 4 := ⟨by kernel_rfl⟩
instance cb_10 : CB Tryz.prog 10 := ⟨by kernel_rfl⟩
instance cb_19 : CB Tryz.prog 19 := ⟨by kernel_rfl⟩
instance cb_20 : CB Tryz.prog 20 := ⟨by kernel_rfl⟩
instance cb_21 : CB Tryz.prog 21 := ⟨by kernel_rfl⟩
instance cb_22 : CB Tryz.prog 22 := ⟨by kernel_rfl⟩
instance cb_23 : CB Tryz.prog 23 := ⟨by kernel_rfl⟩
instance cb_24 : CB Tryz.prog 24 := ⟨by kernel_rfl⟩
instance ct_3 : CT Tryz.prog 3 := ⟨by kernel_rfl⟩
instance ct_35 : CT Tryz.prog 35 := ⟨by kernel_rfl⟩
instance ct_36 : CT Tryz.prog 36 := ⟨by kernel_rfl⟩
instance ct_4 : CT Tryz.prog 4 := ⟨by kernel_rfl⟩
instance ct_52 : CT Tryz.prog 52 := ⟨by kernel_rfl⟩
instance ct_9 : CT Tryz.prog 9 := ⟨by kernel_rfl⟩
instance ft_38_0 : FT Tryz.prog 38 0 0 1 := ⟨by kernel_rfl⟩
instance ft_38_1 : FT Tryz.prog 38 1 1 1 := ⟨by kernel_rfl⟩
instance ft_54_1 : FT Tryz.prog 54 1 1 1 := ⟨by kernel_rfl⟩
instance ft_68_0 : FT Tryz.prog 68 0 0 1 := ⟨by kernel_rfl⟩
instance ft_68_1 : FT Tryz.prog 68 1 1 1 := ⟨by kernel_rfl⟩
instance ft_68_2 : FT Tryz.prog 68 2 2 1 := ⟨by kernel_rfl⟩
instance ft_68_3 : FT Tryz.prog 68 3 3 1 := ⟨by kernel_rfl⟩
instance mx : MX Tryz.prog := ⟨mixed⟩
instance pl_26 : PLT Tryz.prog 26 [(0, 1), (1, 1), (2, 1), (3, 1), (4, 1)] := ⟨_, Tryz.underlying26, by kernel_rfl⟩
instance pl_66 : PLT Tryz.prog 66 [(0, 1), (1, 1), (2, 1), (3, 1)] := ⟨_, Tryz.underlying66, by kernel_rfl⟩
instance sl_22 : SLT Tryz.prog 22 68 4 := ⟨by kernel_rfl⟩
instance sl_23 : SLT Tryz.prog 23 9 1 := ⟨by kernel_rfl⟩
instance sl_24 : SLT Tryz.prog 24 66 4 := ⟨by kernel_rfl⟩
instance sl_36 : SLT Tryz.prog 36 54 2 := ⟨by kernel_rfl⟩
instance sl_39 : SLT Tryz.prog 39 59 5 := ⟨by kernel_rfl⟩
instance sl_52 : SLT Tryz.prog 52 5 1 := ⟨by kernel_rfl⟩
instance st_9 : STT Tryz.prog 9 := ⟨by kernel_rfl⟩
instance sz_38 : SZ Tryz.prog 38 2 := ⟨by kernel_rfl⟩
instance sz_68 : SZ Tryz.prog 68 4 := ⟨by kernel_rfl⟩
instance un_30 : UN Tryz.prog 30 (.pointer 88) := ⟨Tryz.underlying30⟩
instance zt_26 : ZT Tryz.prog 26 (.agg #[(.int .i64 0), (Sl.val ⟨none, 0, 0⟩), (Sl.val ⟨none, 0, 0⟩), (Sl.val ⟨none, 0, 0⟩), (.int .i64 0)]) := ⟨Tryz.t26, by kernel_rfl, by kernel_rfl⟩
instance zt_38 : ZT Tryz.prog 38 (.agg #[(.int .i64 0), (Sl.val ⟨none, 0, 0⟩)]) := ⟨Tryz.t38, by kernel_rfl, by kernel_rfl⟩
instance zt_66 : ZT Tryz.prog 66 (.agg #[(.int .i64 0), (.string ⟨#[]⟩), (Sl.val ⟨none, 0, 0⟩), (.int .i64 0)]) := ⟨Tryz.t66, by kernel_rfl, by kernel_rfl⟩
instance zt_68 : ZT Tryz.prog 68 (.agg #[(.string ⟨#[]⟩), (Sl.val ⟨none, 0, 0⟩), (.bool false), (.int .i64 0)]) := ⟨Tryz.t68, by kernel_rfl, by kernel_rfl⟩
instance zt_9 : ZT Tryz.prog 9 (.string ⟨#[]⟩) := ⟨Tryz.t9, by kernel_rfl, by kernel_rfl⟩
end F_IRLaw07
def law07_speaks.s1 (Q : Bool → K)  (t0_1 : Bool) : K :=
  Q t0_1
def law07_speaks  (Q : Bool → K) : K :=
  store_New.call 1 fun t6x0 t6x1 =>
  Ite ((t6x0).isNone)
    (Q false)
    (New 9 #[(.string ⟨#[110]⟩)] fun t13 =>
    Bld #[(.int .i64 0), (.string ⟨#[]⟩), (Sl.val ⟨none, 0, 0⟩), (.int .i64 0), (.int .i64 0), (.string ⟨#[]⟩), (Sl.val ⟨none, 0, 0⟩), (.int .i64 0)] (fun i => some (i * 4, 4)) [(0, (.agg #[(.int .i64 6), (.string ⟨#[110]⟩), (Sl.val ⟨none, 0, 0⟩), (.int .i64 5)])), (1, (.agg #[(.int .i64 1), (.string ⟨#[110]⟩), (Sl.val ⟨none, 0, 0⟩), (.int .i64 0)]))] fun ct16 =>
    New 66 ct16 fun t16 =>
    eval_Run.call t6x0 #[(.int .i64 1), (Sl.val ⟨none, 0, 0⟩), (Sl.val (Sl.mk (some t13) 1 1)), (Sl.val (Sl.mk (some t16) 2 2)), (.int .i64 0)] fun t18x0 t18x1 =>
    New 38 #[(.int .i64 0), (Sl.val ⟨none, 0, 0⟩)] fun r3 =>
    StN r3 2 t18x0 <|
    Ld r3 (Value.int .i64) fun t22 =>
    Ite (decide (t22 = 0))
      (Ld (r3.add 1) Sl.val fun t26 =>
      Ite (decide ((t26.n : Int) = 1))
        (Ld (r3.add 1) Sl.val fun t32 =>
        Idx t32 0 2 fun t33 =>
        Ld (t33.add 1) Sl.val fun t35 =>
        Rd Tryz.prog (convert 52 9 (Sl.val t35)) Value.string fun t36 =>
        Ite (t36.toList == (⟨#[0, 0, 0, 0, 0, 0, 0, 5]⟩ : ByteArray).toList)
          (law07_speaks.s1 Q (decide ((t18x1.n : Int) = 1)))
          (law07_speaks.s1 Q false))
        (law07_speaks.s1 Q false))
      (law07_speaks.s1 Q false))
theorem law07_speaks_ok  (Q : Bool → K) (w : World) (h : law07_speaks  Q w) : law07_speaks.call  Q w := by
  have hJ1000005 : JH 1000005 fun D => D [] (fun C => ∀ (t0_1 : Bool), C [(0, (.bool t0_1))] (law07_speaks.s1 Q t0_1)) := by intros; exact ⟨fun _ h => ⟨_, _, h⟩⟩
  exact g_walk 44 h Tryz.func5
def law07_great.s2 (Q : Bool → K) (X1 : Int → K) (t8_2 : Sl) (t9_2 : Int) (t10_2 : Int) (t23_2 : Bool) : K :=
  Ite t23_2
    (Q true)
    (Ar (IntKind.wrap .i64 (t10_2 + 1)) fun t24 =>
    X1 t24)
def law07_great.b1 (Q : Bool → K)  (X1 : Int → K) (t8_1 : Sl) (t9_1 : Int) (t10_1 : Int) : K :=
  Ite (decide (t10_1 < t9_1))
    (Idx t8_1 t10_1 4 fun t12 =>
    LdN t12 4 fun t13 =>
    New 68 #[(.string ⟨#[]⟩), (Sl.val ⟨none, 0, 0⟩), (.bool false), (.int .i64 0)] fun c4 =>
    StN c4 4 t13 <|
    Ld c4 Value.string fun t15 =>
    Ite (decide ((200 : Int) < (t15.size : Int)))
      (law07_great.s2 Q X1 t8_1 t9_1 t10_1 true)
      (Ld (c4.add 1) Sl.val fun t20 =>
      law07_great.s2 Q X1 t8_1 t9_1 t10_1 (decide ((200 : Int) < (t20.n : Int)))))
    (Q false)
def law07_great (cells0 : Sl) (Q : Bool → K) : K :=
  Ite (decide ((40 : Int) < (cells0.n : Int)))
    (Q true)
    (LoopK (α := Int) (fun X x => law07_great.b1 Q X cells0 (cells0.n : Int) x) 0)
theorem law07_great_ok (cells0 : Sl) (Q : Bool → K) (w : World) (h : law07_great cells0 Q w) : law07_great.call cells0 Q w := by
  have hJ7 : ∀ (X1 : Int → K), XH 4 X1 → JH 7 fun D => ∃ (t8_2 : Sl) (t9_2 : Int) (t10_2 : Int), D [(8, (Sl.val t8_2)), (9, (.int .i64 t9_2)), (10, (.int .i64 t10_2))] (fun C => ∀ (t23_2 : Bool), C [(8, (Sl.val t8_2)), (9, (.int .i64 t9_2)), (10, (.int .i64 t10_2)), (23, (.bool t23_2))] (law07_great.s2 Q X1 t8_2 t9_2 t10_2 t23_2)) := by intros; exact ⟨fun _ ⟨_, _, _, h⟩ => ⟨_, _, h⟩⟩
  have hL4 : ∀ (t8_1 : Sl) (t9_1 : Int), LH 4 (fun x : Int => [(8, (Sl.val t8_1)), (9, (.int .i64 t9_1)), (10, (.int .i64 x))]) (fun X x => law07_great.b1 Q X t8_1 t9_1 x) := by intros; exact ⟨⟩
  exact g_walk 25 h Tryz.func6
def law07_filled.b3 (Q : (Option Addr) → (Option Addr) → K) (X1 : Int → K) (X3 : Int → K) (s4_3 : (Option Addr)) (m6_3 : (Option Addr)) (c8_3 : Addr) (t18_3 : Sl) (t19_3 : Int) (t20_3 : Int) (k9_3 : Int) : K :=
  Ld (c8_3.add 3) (Value.int .i64) fun t40 =>
  Ar (bitsOf .and .i64 t40 3) fun t41 =>
  Ite (decide (k9_3 < t41))
    (Ld c8_3 Value.string fun t47 =>
    store_Store_Move.call s4_3 t47 k9_3 fun t49 =>
    Ld c8_3 Value.string fun t52 =>
    ref06_Store_Move.call m6_3 t52 k9_3 fun t54 =>
    Ar (IntKind.wrap .i64 (k9_3 + 1)) fun t44 =>
    X3 t44)
    (Ar (IntKind.wrap .i64 (t20_3 + 1)) fun t55 =>
    X1 t55)
def law07_filled.s2 (Q : (Option Addr) → (Option Addr) → K) (X1 : Int → K) (s4_2 : (Option Addr)) (m6_2 : (Option Addr)) (c8_2 : Addr) (t18_2 : Sl) (t19_2 : Int) (t20_2 : Int) : K :=
  LoopK (α := Int) (fun X x => law07_filled.b3 Q X1 X s4_2 m6_2 c8_2 t18_2 t19_2 t20_2 x) 0
def law07_filled.b1 (Q : (Option Addr) → (Option Addr) → K)  (X1 : Int → K) (s4_1 : (Option Addr)) (m6_1 : (Option Addr)) (t18_1 : Sl) (t19_1 : Int) (t20_1 : Int) : K :=
  Ite (decide (t20_1 < t19_1))
    (Idx t18_1 t20_1 4 fun t22 =>
    LdN t22 4 fun t23 =>
    New 68 #[(.string ⟨#[]⟩), (Sl.val ⟨none, 0, 0⟩), (.bool false), (.int .i64 0)] fun c8 =>
    StN c8 4 t23 <|
    Ld (c8.add 2) Value.bool fun t25 =>
    Ite t25
      (Ld c8 Value.string fun t28 =>
      Ld (c8.add 1) Sl.val fun t30 =>
      store_Store_Put.call s4_1 t28 t30 <|
      Ld c8 Value.string fun t34 =>
      Ld (c8.add 1) Sl.val fun t36 =>
      ref06_Store_Put.call m6_1 t34 t36 <|
      law07_filled.s2 Q X1 s4_1 m6_1 c8 t18_1 t19_1 t20_1)
      (law07_filled.s2 Q X1 s4_1 m6_1 c8 t18_1 t19_1 t20_1))
    (Q s4_1 m6_1)
def law07_filled (cells0 : Sl) (Q : (Option Addr) → (Option Addr) → K) : K :=
  store_New.call 3 fun t11x0 t11x1 =>
  ref06_New.call 3 fun t14 =>
  Ite ((t11x0).isNone)
    (Q none t14)
    (LoopK (α := Int) (fun X x => law07_filled.b1 Q X t11x0 t14 cells0 (cells0.n : Int) x) 0)
theorem law07_filled_ok (cells0 : Sl) (Q : (Option Addr) → (Option Addr) → K) (w : World) (h : law07_filled cells0 Q w) : law07_filled.call cells0 Q w := by
  have hL12 : ∀ (X1 : Int → K), XH 6 X1 → ∀ (s4_3 : (Option Addr)) (m6_3 : (Option Addr)) (c8_3 : Addr) (t18_3 : Sl) (t19_3 : Int) (t20_3 : Int), LH 12 (fun x : Int => [(4, (.pointer s4_3)), (6, (.pointer m6_3)), (8, (.pointer (some c8_3))), (9, (.int .i64 x)), (18, (Sl.val t18_3)), (19, (.int .i64 t19_3)), (20, (.int .i64 t20_3))]) (fun X x => law07_filled.b3 Q X1 X s4_3 m6_3 c8_3 t18_3 t19_3 t20_3 x) := by intros; exact ⟨⟩
  have hJ11 : ∀ (X1 : Int → K), XH 6 X1 → JH 11 fun D => ∃ (s4_2 : (Option Addr)) (m6_2 : (Option Addr)) (c8_2 : Addr) (t18_2 : Sl) (t19_2 : Int) (t20_2 : Int), D [(4, (.pointer s4_2)), (6, (.pointer m6_2)), (8, (.pointer (some c8_2))), (18, (Sl.val t18_2)), (19, (.int .i64 t19_2)), (20, (.int .i64 t20_2))] (fun C => C [(4, (.pointer s4_2)), (6, (.pointer m6_2)), (8, (.pointer (some c8_2))), (18, (Sl.val t18_2)), (19, (.int .i64 t19_2)), (20, (.int .i64 t20_2))] (law07_filled.s2 Q X1 s4_2 m6_2 c8_2 t18_2 t19_2 t20_2)) := by intros; exact ⟨fun _ ⟨_, _, _, _, _, _, h⟩ => ⟨_, _, h⟩⟩
  have hL6 : ∀ (s4_1 : (Option Addr)) (m6_1 : (Option Addr)) (t18_1 : Sl) (t19_1 : Int), LH 6 (fun x : Int => [(4, (.pointer s4_1)), (6, (.pointer m6_1)), (18, (Sl.val t18_1)), (19, (.int .i64 t19_1)), (20, (.int .i64 x))]) (fun X x => law07_filled.b1 Q X s4_1 m6_1 t18_1 t19_1 x) := by intros; exact ⟨⟩
  exact g_walk 58 h Tryz.func8
end Go.Proofs.YtinpgiafjjibnaaGreat
/- The example of the law's chapter on transactions. -/
namespace Go.Proofs.YtinpgiafjjibnaaGreat
open Go Go.Sep Go.Sep.Bt
set_option linter.unusedSimpArgs false
set_option linter.unusedVariables false
set_option maxRecDepth 100000

def exOps : List OpX := [(⟨6, [110], [], 5⟩, ⟨none, 0, 0⟩), (⟨1, [110], [], 0⟩, ⟨none, 0, 0⟩)]
def exTx (a b : Nat) : TxX := ⟨1, [], [[110]], exOps, 0, ⟨none, 0, 0⟩, ⟨some ⟨a, 0, none⟩, 1, 1⟩, ⟨some ⟨b, 0, none⟩, 2, 2⟩⟩
theorem exRun (a b : Nat) : runW 1 [] (exTx a b) = ([([110], ⟨true, [0, 0, 0, 0, 0, 0, 0, 5], 0, 0⟩)], [(true, [0, 0, 0, 0, 0, 0, 0, 5])], 0) := by
  have hv : partV (uOf 5) 8 = [0, 0, 0, 0, 0, 0, 0, 5] := by decide
  have hh : homeOf [110] 1 = 0 := by decide
  have hn : nowM 1 [] [] [110] = ⟨false, [], 0, 0⟩ := by simp [nowM, mget, sGet, getM, hh]
  have hs1 : stepW 1 [] [] [] ⟨6, [110], [], 5⟩ = ([([110], ⟨true, [0, 0, 0, 0, 0, 0, 0, 5], 0, 0⟩)], [], 0) := by
    simp [stepW, addW, hn, overS, setW, mset, hv]
  have hn2 : nowM 1 [] [([110], ⟨true, [0, 0, 0, 0, 0, 0, 0, 5], 0, 0⟩)] [110] = ⟨true, [0, 0, 0, 0, 0, 0, 0, 5], 0, 0⟩ := by simp [nowM, mget]
  have hs2 : stepW 1 [] [([110], ⟨true, [0, 0, 0, 0, 0, 0, 0, 5], 0, 0⟩)] [] ⟨1, [110], [], 0⟩ = ([([110], ⟨true, [0, 0, 0, 0, 0, 0, 0, 5], 0, 0⟩)], [(true, [0, 0, 0, 0, 0, 0, 0, 5])], 0) := by
    simp [stepW, hn2]
  unfold runW
  rw [if_neg (by simp [exTx])]
  show opsW 1 [] exOps [] [] = _
  unfold exOps
  rw [opsW_cons, hs1, if_neg (by simp), opsW_cons, hs2, if_neg (by simp), opsW_nil]
section
variable {B : World} {Γ Δ : List HProp}
theorem speaks7 {q : Bool → K} (h : HG B Γ (q true)) : HG B Γ (law07_speaks.call q) := fun w hw => by
  refine law07_speaks_ok _ _ ?_
  refine hg hw ?_
  clear hw w
  unfold law07_speaks
  refine storeNew_spec (n := 1) (by omega) (by omega) fun st => ?_
  refine s_f ?_
  refine s_new fun t13 => ?_
  refine s_bldF (cs := exOps.flatMap opF) ?_
  refine s_new fun t16 => ?_
  refine s_own st ?_
  refine eval_Run_hg (t := exTx t13 t16) ?_ ?_ (fun hb => ?_) fun _ os O rows R hO hR _ => ?_
  · exact ⟨by simp [exTx], by simp [exTx, exOps, OpM.ok], by simp [exTx, exOps], by simp [exTx], by simp [exTx], by simp [exTx]⟩
  · intro w hw
    refine ⟨RdC.none', ?_, ?_, ?_⟩
    · exact RdC.of_blk (E := ty_string) (b := t13) (vs := [strV [110]]) (cs := #[strV [110]]) hw (by simp) rfl rfl 1
    · exact RdC.of_blk (E := ty_api_Op) (b := t16) (n := 2) (vs := exOps.flatMap opF) (cs := (exOps.flatMap opF).toArray) hw (by simp) (by simp) rfl 2
    · intro x hx
      simp only [exTx, exOps, List.mem_cons, List.not_mem_nil, or_false] at hx
      rcases hx with rfl | rfl <;> exact RdC.none'
  · exact absurd (by rw [exRun]) hb
  · rw [exRun] at hO hR
    have hO1 : ∃ s, O = [((true, [0, 0, 0, 0, 0, 0, 0, 5]), s)] := by
      match O, hO with
      | [(x, s)], hO => exact ⟨s, by simp at hO; rw [hO]⟩
      | _ :: _ :: _, hO => simp at hO
    obtain ⟨s, rfl⟩ := hO1
    have hRl : R.length = 1 := by
      have := congrArg List.length hR
      simpa [sortW] using this
    refine s_cap os fun a1 a2 a3 a4 => ?_
    refine s_cap rows fun b1 b2 b3 b4 => ?_
    rw [flatMap_len _ 2 oF_len] at a1
    rw [flatMap_len _ 5 rowF_len] at b1
    simp only [List.length_cons, List.length_nil] at a1
    have hon : os.n = 1 := by omega
    have hrn : rows.n = 1 := by omega
    refine s_new fun r3 => ?_
    refine s_stN (b := r3) (l' := [.int .i64 0, os.val]) ?_
    refine s_ld (b := r3) (x := 0) ?_
    refine s_t ?_
    refine s_ld (b := r3) (x := os) ?_
    refine s_t ?_
    refine s_ld (b := r3) (x := os) ?_
    refine s_idx (s := os) (i := 0) ?_
    refine s_ldE (s := os) (x := s) rfl ?_
    refine fun w hw => r_str (xs := [0, 0, 0, 0, 0, 0, 0, 5]) (by kernel_rfl) ?_ ?_
    · exact rdB_of (Γ := Γ) (Holds.flat.1 (hw.drops (Δ := Sep.stars (List.map oB [((true, [0, 0, 0, 0, 0, 0, 0, 5]), s)]) :: Γ)))
    refine hg hw ?_
    clear hw w
    refine s_t ?_
    unfold law07_speaks.s1
    rw [show decide ((rows.n : Int) = 1) = true by simp [hrn]]
    exact s_end h
end
end Go.Proofs.YtinpgiafjjibnaaGreat
/- How the arguments of laws read. -/
namespace Go.Proofs.YtinpgiafjjibnaaGreat
open Go Go.Sep
def Sh_ty_s_argosylaw07_Cell : Sh := (.sl (.fld 0 1 .str (.fld 1 1 (.sl (.int .u8) 1) (.fld 2 1 .bool (.fld 3 1 (.int .i64) .nil)))) 4)
theorem sh_22 : mkSh Tryz.prog 9 22 = Sh_ty_s_argosylaw07_Cell := by kernel_rfl
def Sh_ty_api_Txn : Sh := (.fld 0 1 (.int .i64) (.fld 1 1 (.sl .str 1) (.fld 2 1 (.sl .str 1) (.fld 3 1 (.sl (.fld 0 1 (.int .i64) (.fld 1 1 .str (.fld 2 1 (.sl (.int .u8) 1) (.fld 3 1 (.int .i64) .nil)))) 4) (.fld 4 1 (.int .i64) .nil)))))
theorem sh_26 : mkSh Tryz.prog 9 26 = Sh_ty_api_Txn := by kernel_rfl
def Sh_ty_s_api_Txn : Sh := (.sl (.fld 0 1 (.int .i64) (.fld 1 1 (.sl .str 1) (.fld 2 1 (.sl .str 1) (.fld 3 1 (.sl (.fld 0 1 (.int .i64) (.fld 1 1 .str (.fld 2 1 (.sl (.int .u8) 1) (.fld 3 1 (.int .i64) .nil)))) 4) (.fld 4 1 (.int .i64) .nil))))) 5)
theorem sh_61 : mkSh Tryz.prog 9 61 = Sh_ty_s_api_Txn := by kernel_rfl
end Go.Proofs.YtinpgiafjjibnaaGreat
