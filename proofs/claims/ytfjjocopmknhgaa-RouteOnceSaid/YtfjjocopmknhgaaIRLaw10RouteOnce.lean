/- Plain forms of functions, and that their code comes to them (package law10_RouteOnce). -/
import Derived.Test.YtfjjocopmknhgaaCalls
namespace Go.Proofs.Ytfjjocopmknhgaa
open Go Go.Sep
set_option linter.unusedVariables false
set_option linter.unusedSimpArgs false
set_option maxRecDepth 100000
set_option maxHeartbeats 4000000
attribute [local irreducible] G Gp Cx Tx Ex Sx Dx Ox Ax Lx Rx Fx Bx Bj Al Do Ld LdN St StN New CallF Ar DoU Rd Rd2 Pu Cd Ite Fv CallV CallY Ans0 Ans1 Ans2 Ans3 Ans4 Ans5 Ext Dead Dr WithS Sv LdS LdNS RdS Rd2S Nn Idx IdxA IdxS Fld Bld Slc SlcS Cat All LoopK RangeF RangeJ TakeD
namespace F_IRLaw10RouteOnce
instance at_32 : AT Try.prog 32 2 := ⟨by kernel_rfl⟩
instance at_36 : AT Try.prog 36 4 := ⟨by kernel_rfl⟩
instance at_39 : AT Try.prog 39 3 := ⟨by kernel_rfl⟩
instance cb_11 : CB Try.prog 11 := ⟨by kernel_rfl⟩
instance cb_12 : CB Try.prog 12 := ⟨by kernel_rfl⟩
instance cb_13 : CB Try.prog 13 := ⟨by kernel_rfl⟩
instance cb_14 : CB Try.prog 14 := ⟨by kernel_rfl⟩
instance cb_15 : CB Try.prog 15 := ⟨by kernel_rfl⟩
instance cb_16 : CB Try.prog 16 := ⟨by kernel_rfl⟩
instance ct_3 : CT Try.prog 3 := ⟨by kernel_rfl⟩
instance ct_34 : CT Try.prog 34 := ⟨by kernel_rfl⟩
instance ct_9 : CT Try.prog 9 := ⟨by kernel_rfl⟩
instance ft_32_0 : FT Try.prog 32 0 0 1 := ⟨by kernel_rfl⟩
instance ft_32_1 : FT Try.prog 32 1 1 1 := ⟨by kernel_rfl⟩
instance ft_36_2 : FT Try.prog 36 2 2 1 := ⟨by kernel_rfl⟩
instance ft_36_3 : FT Try.prog 36 3 3 1 := ⟨by kernel_rfl⟩
instance ft_39_2 : FT Try.prog 39 2 2 1 := ⟨by kernel_rfl⟩
instance mx : MX Try.prog := ⟨mixed⟩
instance pl_39 : PLT Try.prog 39 [(0, 1), (1, 1), (2, 1)] := ⟨_, Try.underlying39, by kernel_rfl⟩
instance sl_22 : SLT Try.prog 22 32 2 := ⟨by kernel_rfl⟩
instance sl_29 : SLT Try.prog 29 39 3 := ⟨by kernel_rfl⟩
instance sl_30 : SLT Try.prog 30 36 4 := ⟨by kernel_rfl⟩
instance st_9 : STT Try.prog 9 := ⟨by kernel_rfl⟩
instance sz_32 : SZ Try.prog 32 2 := ⟨by kernel_rfl⟩
instance sz_36 : SZ Try.prog 36 4 := ⟨by kernel_rfl⟩
instance sz_39 : SZ Try.prog 39 3 := ⟨by kernel_rfl⟩
instance un_25 : UN Try.prog 25 (.pointer 112) := ⟨Try.underlying25⟩
instance zt_32 : ZT Try.prog 32 (.agg #[(.string ⟨#[]⟩), (.int .i64 0)]) := ⟨Try.t32, by kernel_rfl, by kernel_rfl⟩
instance zt_36 : ZT Try.prog 36 (.agg #[(.bool false), (Sl.val ⟨none, 0, 0⟩), (.int .i64 0), (.int .u64 0)]) := ⟨Try.t36, by kernel_rfl, by kernel_rfl⟩
instance zt_39 : ZT Try.prog 39 (.agg #[(.string ⟨#[]⟩), (.int .i64 0), (.int .u64 0)]) := ⟨Try.t39, by kernel_rfl, by kernel_rfl⟩
end F_IRLaw10RouteOnce
def law10_RouteOnce.s6 (Q : Bool → K) (X2 : Sl → Sl → Int → K) (X3 : Int → K) (X4 : Int → K) (marks7_6 : Sl) (i12_6 : Int) (r13_6 : Addr) (m15_6 : Addr) (want16_6 : Int) (t63_6 : Sl) (t64_6 : Int) (t65_6 : Int) (t70_6 : Sl) (t71_6 : Int) (t72_6 : Int) : K :=
  LdN r13_6 4 fun t99 =>
  LdN m15_6 3 fun t100 =>
  route_Look.call t99 t100 fun t101 =>
  Ite (decide (t101 ≠ want16_6))
    (Q false)
    (Ar (IntKind.wrap .i64 (t72_6 + 1)) fun t104 =>
    X4 t104)
def law10_RouteOnce.s5 (Q : Bool → K) (X2 : Sl → Sl → Int → K) (X3 : Int → K) (X4 : Int → K) (marks7_5 : Sl) (i12_5 : Int) (r13_5 : Addr) (k14_5 : Int) (m15_5 : Addr) (want16_5 : Int) (t63_5 : Sl) (t64_5 : Int) (t65_5 : Int) (t70_5 : Sl) (t71_5 : Int) (t72_5 : Int) : K :=
  Dr <|
  Idx marks7_5 k14_5 3 fun t90 =>
  Ld (t90.add 2) (Value.int .u64) fun t92 =>
  Idx marks7_5 i12_5 3 fun t95 =>
  Ld (t95.add 2) (Value.int .u64) fun t97 =>
  Ite (decide (t97 < t92))
    (law10_RouteOnce.s6 Q X2 X3 X4 marks7_5 i12_5 r13_5 m15_5 1 t63_5 t64_5 t65_5 t70_5 t71_5 t72_5)
    (law10_RouteOnce.s6 Q X2 X3 X4 marks7_5 i12_5 r13_5 m15_5 want16_5 t63_5 t64_5 t65_5 t70_5 t71_5 t72_5)
def law10_RouteOnce.b4 (Q : Bool → K) (X2 : Sl → Sl → Int → K) (X3 : Int → K) (X4 : Int → K) (marks7_4 : Sl) (i12_4 : Int) (r13_4 : Addr) (t63_4 : Sl) (t64_4 : Int) (t65_4 : Int) (t70_4 : Sl) (t71_4 : Int) (t72_4 : Int) : K :=
  Ite (decide (t72_4 < t71_4))
    (Idx t70_4 t72_4 3 fun t75 =>
    LdN t75 3 fun t76 =>
    New 39 #[(.string ⟨#[]⟩), (.int .i64 0), (.int .u64 0)] fun m15 =>
    StN m15 3 t76 <|
    Dr <|
    Idx marks7_4 t72_4 3 fun t79 =>
    Ld (t79.add 2) (Value.int .u64) fun t81 =>
    Idx marks7_4 i12_4 3 fun t84 =>
    Ld (t84.add 2) (Value.int .u64) fun t86 =>
    Ite (decide (t81 < t86))
      (law10_RouteOnce.s5 Q X2 X3 X4 marks7_4 i12_4 r13_4 t72_4 m15 2 t63_4 t64_4 t65_4 t70_4 t71_4 t72_4)
      (law10_RouteOnce.s5 Q X2 X3 X4 marks7_4 i12_4 r13_4 t72_4 m15 0 t63_4 t64_4 t65_4 t70_4 t71_4 t72_4))
    (Ar (IntKind.wrap .i64 (t65_4 + 1)) fun t105 =>
    X3 t105)
def law10_RouteOnce.b3 (Q : Bool → K) (X2 : Sl → Sl → Int → K) (X3 : Int → K) (marks7_3 : Sl) (t63_3 : Sl) (t64_3 : Int) (t65_3 : Int) : K :=
  Ite (decide (t65_3 < t64_3))
    (Idx t63_3 t65_3 4 fun t68 =>
    LdN t68 4 fun t69 =>
    New 36 #[(.bool false), (Sl.val ⟨none, 0, 0⟩), (.int .i64 0), (.int .u64 0)] fun r13 =>
    StN r13 4 t69 <|
    LoopK (α := Int) (fun X x => law10_RouteOnce.b4 Q X2 X3 X marks7_3 t65_3 r13 t63_3 t64_3 t65_3 marks7_3 (marks7_3.n : Int) x) 0)
    (Q true)
def law10_RouteOnce.b2 (Q : Bool → K)  (X2 : Sl → Sl → Int → K) (key1_2 : ByteArray) (s5_2 : (Option Addr)) (t34_2 : Sl) (t35_2 : Int) (marks7_2 : Sl) (records8_2 : Sl) (t36_2 : Int) : K :=
  Ite (decide (t36_2 < t35_2))
    (Idx t34_2 t36_2 2 fun t38 =>
    LdN t38 2 fun t39 =>
    New 32 #[(.string ⟨#[]⟩), (.int .i64 0)] fun m10 =>
    StN m10 2 t39 <|
    store_Store_Get.call s5_2 key1_2 fun t42 =>
    New 36 #[(.bool false), (Sl.val ⟨none, 0, 0⟩), (.int .i64 0), (.int .u64 0)] fun r11 =>
    StN r11 4 t42 <|
    Ld (r11.add 2) (Value.int .i64) fun t46 =>
    Ld (r11.add 3) (Value.int .u64) fun t48 =>
    Bld #[(.string ⟨#[]⟩), (.int .i64 0), (.int .u64 0)] (fun i => some (i * 3, 3)) [(0, (.agg #[(.string key1_2), (.int .i64 t46), (.int .u64 t48)]))] fun ct50 =>
    New 39 ct50 fun t50 =>
    Do Try.prog (Builtin.append_ #[29, 29] 29 #[(Sl.val marks7_2), (Sl.val (Sl.mk (some t50) 1 1))]) Sl.val fun t51 =>
    LdN r11 4 fun t53 =>
    Bld #[(.bool false), (Sl.val ⟨none, 0, 0⟩), (.int .i64 0), (.int .u64 0)] (fun i => some (i * 4, 4)) [(0, (.agg t53))] fun ct54 =>
    New 36 ct54 fun t54 =>
    Do Try.prog (Builtin.append_ #[30, 30] 30 #[(Sl.val records8_2), (Sl.val (Sl.mk (some t54) 1 1))]) Sl.val fun t55 =>
    Ld m10 Value.string fun t58 =>
    Ld (m10.add 1) (Value.int .i64) fun t60 =>
    store_Store_Move.call s5_2 t58 t60 fun t61 =>
    Ar (IntKind.wrap .i64 (t36_2 + 1)) fun t62 =>
    X2 t51 t55 t62)
    (LoopK (α := Int) (fun X x => law10_RouteOnce.b3 Q X2 X marks7_2 records8_2 (records8_2.n : Int) x) 0)
def law10_RouteOnce.s1 (Q : Bool → K)  (moves0_1 : Sl) (key1_1 : ByteArray) (t25_1 : Bool) : K :=
  Ite t25_1
    (Q true)
    (store_New.call 3 fun t27x0 t27x1 =>
    Ite ((t27x0).isNone)
      (Q false)
      (New 39 #[] fun t32 =>
      New 36 #[] fun t33 =>
      LoopK (α := Sl × Sl × Int) (fun X x => law10_RouteOnce.b2 Q (fun marks7_2 records8_2 t36_2 => X (marks7_2, records8_2, t36_2)) key1_1 t27x0 moves0_1 (moves0_1.n : Int) x.1 x.2.1 x.2.2) ((Sl.mk (some t32) 0 0), (Sl.mk (some t33) 0 0), 0)))
def law10_RouteOnce (moves0 : Sl) (key1 : ByteArray) (Q : Bool → K) : K :=
  law10_speaks.call  fun t17 =>
  Ite (!t17)
    (Q false)
    (law10_great.call moves0 fun t20 =>
    Ite t20
      (law10_RouteOnce.s1 Q moves0 key1 true)
      (law10_RouteOnce.s1 Q moves0 key1 (decide ((200 : Int) < (key1.size : Int)))))
theorem law10_RouteOnce_ok (moves0 : Sl) (key1 : ByteArray) (Q : Bool → K) (w : World) (h : law10_RouteOnce moves0 key1 Q w) : law10_RouteOnce.call moves0 key1 Q w := by
  have hJ28 : ∀ (X2 : (Sl × Sl × Int) → K), XH 10 X2 → ∀ (X3 : Int → K), XH 18 X3 → ∀ (X4 : Int → K), XH 21 X4 → JH 28 fun D => ∃ (marks7_6 : Sl) (i12_6 : Int) (r13_6 : Addr) (m15_6 : Addr) (t63_6 : Sl) (t64_6 : Int) (t65_6 : Int) (t70_6 : Sl) (t71_6 : Int) (t72_6 : Int), D [(7, (Sl.val marks7_6)), (12, (.int .i64 i12_6)), (13, (.pointer (some r13_6))), (15, (.pointer (some m15_6))), (63, (Sl.val t63_6)), (64, (.int .i64 t64_6)), (65, (.int .i64 t65_6)), (70, (Sl.val t70_6)), (71, (.int .i64 t71_6)), (72, (.int .i64 t72_6))] (fun C => ∀ (want16_6 : Int), C [(7, (Sl.val marks7_6)), (12, (.int .i64 i12_6)), (13, (.pointer (some r13_6))), (15, (.pointer (some m15_6))), (16, (.int .i64 want16_6)), (63, (Sl.val t63_6)), (64, (.int .i64 t64_6)), (65, (.int .i64 t65_6)), (70, (Sl.val t70_6)), (71, (.int .i64 t71_6)), (72, (.int .i64 t72_6))] (law10_RouteOnce.s6 Q (fun marks7_2 records8_2 t36_2 => X2 (marks7_2, records8_2, t36_2)) X3 X4 marks7_6 i12_6 r13_6 m15_6 want16_6 t63_6 t64_6 t65_6 t70_6 t71_6 t72_6)) := by intros; exact ⟨fun _ ⟨_, _, _, _, _, _, _, _, _, _, h⟩ => ⟨_, _, h⟩⟩
  have hJ26 : ∀ (X2 : (Sl × Sl × Int) → K), XH 10 X2 → ∀ (X3 : Int → K), XH 18 X3 → ∀ (X4 : Int → K), XH 21 X4 → JH 26 fun D => ∃ (marks7_5 : Sl) (i12_5 : Int) (r13_5 : Addr) (k14_5 : Int) (m15_5 : Addr) (t63_5 : Sl) (t64_5 : Int) (t65_5 : Int) (t70_5 : Sl) (t71_5 : Int) (t72_5 : Int), D [(7, (Sl.val marks7_5)), (12, (.int .i64 i12_5)), (13, (.pointer (some r13_5))), (14, (.int .i64 k14_5)), (15, (.pointer (some m15_5))), (63, (Sl.val t63_5)), (64, (.int .i64 t64_5)), (65, (.int .i64 t65_5)), (70, (Sl.val t70_5)), (71, (.int .i64 t71_5)), (72, (.int .i64 t72_5))] (fun C => ∀ (want16_5 : Int), C [(7, (Sl.val marks7_5)), (12, (.int .i64 i12_5)), (13, (.pointer (some r13_5))), (14, (.int .i64 k14_5)), (15, (.pointer (some m15_5))), (16, (.int .i64 want16_5)), (63, (Sl.val t63_5)), (64, (.int .i64 t64_5)), (65, (.int .i64 t65_5)), (70, (Sl.val t70_5)), (71, (.int .i64 t71_5)), (72, (.int .i64 t72_5))] (law10_RouteOnce.s5 Q (fun marks7_2 records8_2 t36_2 => X2 (marks7_2, records8_2, t36_2)) X3 X4 marks7_5 i12_5 r13_5 k14_5 m15_5 want16_5 t63_5 t64_5 t65_5 t70_5 t71_5 t72_5)) := by intros; exact ⟨fun _ ⟨_, _, _, _, _, _, _, _, _, _, _, h⟩ => ⟨_, _, h⟩⟩
  have hL21 : ∀ (X2 : (Sl × Sl × Int) → K), XH 10 X2 → ∀ (X3 : Int → K), XH 18 X3 → ∀ (marks7_4 : Sl) (i12_4 : Int) (r13_4 : Addr) (t63_4 : Sl) (t64_4 : Int) (t65_4 : Int) (t70_4 : Sl) (t71_4 : Int), LH 21 (fun x : Int => [(7, (Sl.val marks7_4)), (12, (.int .i64 i12_4)), (13, (.pointer (some r13_4))), (63, (Sl.val t63_4)), (64, (.int .i64 t64_4)), (65, (.int .i64 t65_4)), (70, (Sl.val t70_4)), (71, (.int .i64 t71_4)), (72, (.int .i64 x))]) (fun X x => law10_RouteOnce.b4 Q (fun marks7_2 records8_2 t36_2 => X2 (marks7_2, records8_2, t36_2)) X3 X marks7_4 i12_4 r13_4 t63_4 t64_4 t65_4 t70_4 t71_4 x) := by intros; exact ⟨⟩
  have hL18 : ∀ (X2 : (Sl × Sl × Int) → K), XH 10 X2 → ∀ (marks7_3 : Sl) (t63_3 : Sl) (t64_3 : Int), LH 18 (fun x : Int => [(7, (Sl.val marks7_3)), (63, (Sl.val t63_3)), (64, (.int .i64 t64_3)), (65, (.int .i64 x))]) (fun X x => law10_RouteOnce.b3 Q (fun marks7_2 records8_2 t36_2 => X2 (marks7_2, records8_2, t36_2)) X marks7_3 t63_3 t64_3 x) := by intros; exact ⟨⟩
  have hL10 : ∀ (key1_2 : ByteArray) (s5_2 : (Option Addr)) (t34_2 : Sl) (t35_2 : Int), LH 10 (fun x : Sl × Sl × Int => [(1, (.string key1_2)), (5, (.pointer s5_2)), (7, (Sl.val x.1)), (8, (Sl.val x.2.1)), (34, (Sl.val t34_2)), (35, (.int .i64 t35_2)), (36, (.int .i64 x.2.2))]) (fun X x => law10_RouteOnce.b2 Q (fun marks7_2 records8_2 t36_2 => X (marks7_2, records8_2, t36_2)) key1_2 s5_2 t34_2 t35_2 x.1 x.2.1 x.2.2) := by intros; exact ⟨⟩
  have hJ4 : JH 4 fun D => ∃ (moves0_1 : Sl) (key1_1 : ByteArray), D [(0, (Sl.val moves0_1)), (1, (.string key1_1))] (fun C => ∀ (t25_1 : Bool), C [(0, (Sl.val moves0_1)), (1, (.string key1_1)), (25, (.bool t25_1))] (law10_RouteOnce.s1 Q moves0_1 key1_1 t25_1)) := by intros; exact ⟨fun _ ⟨_, _, h⟩ => ⟨_, _, h⟩⟩
  exact g_walk 106 h Try.func3
end Go.Proofs.Ytfjjocopmknhgaa
