/- Texts of the claim RouteRight, one behind the other. -/
import Derived.Test.YtfjjocopmknhgaaGreatRouteRightM4
/- Plain forms of functions, and that their code comes to them (package order). -/
namespace Go.Proofs.YtfjjocopmknhgaaGreat
open Go Go.Sep
set_option linter.unusedVariables false
set_option linter.unusedSimpArgs false
set_option maxRecDepth 100000
set_option maxHeartbeats 4000000
attribute [local irreducible] G Gp Cx Tx Ex Sx Dx Ox Ax Lx Rx Fx Bx Bj Al Do Ld LdN St StN New CallF Ar DoU Rd Rd2 Pu Cd Ite Fv CallV CallY Ans0 Ans1 Ans2 Ans3 Ans4 Ans5 Ext Dead Dr WithS Sv LdS LdNS RdS Rd2S Nn Idx IdxA IdxS Fld Bld Slc SlcS Cat All LoopK RangeF RangeJ TakeD
namespace F_IROrder
instance at_105 : AT Tryz.prog 105 3 := ⟨by kernel_rfl⟩
instance at_42 : AT Tryz.prog 42 10 := ⟨by kernel_rfl⟩
instance cb_55 : CB Tryz.prog 55 := ⟨by kernel_rfl⟩
instance cb_92 : CB Tryz.prog 92 := ⟨by kernel_rfl⟩
instance cb_93 : CB Tryz.prog 93 := ⟨by kernel_rfl⟩
instance ct_3 : CT Tryz.prog 3 := ⟨by kernel_rfl⟩
instance ct_40 : CT Tryz.prog 40 := ⟨by kernel_rfl⟩
instance ft_105_1 : FT Tryz.prog 105 1 1 1 := ⟨by kernel_rfl⟩
instance ft_26_0 : FT Tryz.prog 26 0 0 1 := ⟨by kernel_rfl⟩
instance ft_42_1 : FT Tryz.prog 42 1 4 5 := ⟨by kernel_rfl⟩
instance ft_42_2 : FT Tryz.prog 42 2 9 1 := ⟨by kernel_rfl⟩
instance mx : MX Tryz.prog := ⟨mixed⟩
instance sl_122 : SLT Tryz.prog 122 3 1 := ⟨by kernel_rfl⟩
instance sl_40 : SLT Tryz.prog 40 105 3 := ⟨by kernel_rfl⟩
instance sz_105 : SZ Tryz.prog 105 3 := ⟨by kernel_rfl⟩
instance zt_105 : ZT Tryz.prog 105 (.agg #[(.string ⟨#[]⟩), (.int .i64 0), (.int .u64 0)]) := ⟨Tryz.t105, by kernel_rfl, by kernel_rfl⟩
instance zt_3 : ZT Tryz.prog 3 (.int .i64 0) := ⟨Tryz.t3, by kernel_rfl, by kernel_rfl⟩
end F_IROrder
def order_Single.s1 (Q : Bool → K)  (t2_1 : Bool) : K :=
  Q t2_1
def order_Single (o0 : (Array Value)) (Q : Bool → K) : K :=
  New 42 o0 fun o1 =>
  Ld (o1.add 4) (Value.int .i64) fun t5 =>
  Ite (decide (t5 = 1))
    (LdN o1 10 fun t8 =>
    order_Homes.call t8 fun t9 =>
    order_Single.s1 Q (decide ((t9.n : Int) = 1)))
    (order_Single.s1 Q false)
theorem order_Single_ok (o0 : (Array Value)) (Q : Bool → K) (w : World) (h : order_Single o0 Q w) : order_Single.call o0 Q w := by
  have hJ1000001 : JH 1000001 fun D => D [] (fun C => ∀ (t2_1 : Bool), C [(2, (.bool t2_1))] (order_Single.s1 Q t2_1)) := by intros; exact ⟨fun _ h => ⟨_, _, h⟩⟩
  exact g_walk 13 h Tryz.func16
def order_Homes.s2 (Q : Sl → K) (X1 : Sl → Int → K) (out2_2 : Sl) : K :=
  slices_Sort_s_int_int.call out2_2 <|
  slices_Compact_s_int_int.call out2_2 fun t25 =>
  Q t25
def order_Homes.b1 (Q : Sl → K)  (X1 : Sl → Int → K) (t6_1 : Sl) (t7_1 : Int) (out2_1 : Sl) (t8_1 : Int) : K :=
  Ite (decide (t8_1 < t7_1))
    (Idx t6_1 t8_1 3 fun t10 =>
    LdN t10 3 fun t11 =>
    New 105 #[(.string ⟨#[]⟩), (.int .i64 0), (.int .u64 0)] fun m4 =>
    StN m4 3 t11 <|
    Ld (m4.add 1) (Value.int .i64) fun t14 =>
    New 3 #[(.int .i64 t14)] fun t15 =>
    Do Tryz.prog (Builtin.append_ #[122, 122] 122 #[(Sl.val out2_1), (Sl.val (Sl.mk (some t15) 1 1))]) Sl.val fun t16 =>
    Ar (IntKind.wrap .i64 (t8_1 + 1)) fun t17 =>
    X1 t16 t17)
    (Ite (decide ((out2_1.n : Int) = 0))
      (New 3 #[(.int .i64 0)] fun t21 =>
      order_Homes.s2 Q X1 (Sl.mk (some t21) 1 1))
      (order_Homes.s2 Q X1 out2_1))
def order_Homes (o0 : (Array Value)) (Q : Sl → K) : K :=
  New 42 o0 fun o1 =>
  Ld (o1.add 9) Sl.val fun t6 =>
  LoopK (α := Sl × Int) (fun X x => order_Homes.b1 Q (fun out2_1 t8_1 => X (out2_1, t8_1)) t6 (t6.n : Int) x.1 x.2) ((Sl.mk none 0 0), 0)
theorem order_Homes_ok (o0 : (Array Value)) (Q : Sl → K) (w : World) (h : order_Homes o0 Q w) : order_Homes.call o0 Q w := by
  have hJ8 : ∀ (X1 : (Sl × Int) → K), XH 2 X1 → JH 8 fun D => D [] (fun C => ∀ (out2_2 : Sl), C [(2, (Sl.val out2_2))] (order_Homes.s2 Q (fun out2_1 t8_1 => X1 (out2_1, t8_1)) out2_2)) := by intros; exact ⟨fun _ h => ⟨_, _, h⟩⟩
  have hL2 : ∀ (t6_1 : Sl) (t7_1 : Int), LH 2 (fun x : Sl × Int => [(2, (Sl.val x.1)), (6, (Sl.val t6_1)), (7, (.int .i64 t7_1)), (8, (.int .i64 x.2))]) (fun X x => order_Homes.b1 Q (fun out2_1 t8_1 => X (out2_1, t8_1)) t6_1 t7_1 x.1 x.2) := by intros; exact ⟨⟩
  exact g_walk 26 h Tryz.func55
end Go.Proofs.YtfjjocopmknhgaaGreat
/- Plain forms of functions, and that their code comes to them (package ref09). -/
namespace Go.Proofs.YtfjjocopmknhgaaGreat
open Go Go.Sep
set_option linter.unusedVariables false
set_option linter.unusedSimpArgs false
set_option maxRecDepth 100000
set_option maxHeartbeats 4000000
attribute [local irreducible] G Gp Cx Tx Ex Sx Dx Ox Ax Lx Rx Fx Bx Bj Al Do Ld LdN St StN New CallF Ar DoU Rd Rd2 Pu Cd Ite Fv CallV CallY Ans0 Ans1 Ans2 Ans3 Ans4 Ans5 Ext Dead Dr WithS Sv LdS LdNS RdS Rd2S Nn Idx IdxA IdxS Fld Bld Slc SlcS Cat All LoopK RangeF RangeJ TakeD
namespace F_IRRef09
instance at_26 : AT Tryz.prog 26 5 := ⟨by kernel_rfl⟩
instance at_37 : AT Tryz.prog 37 3 := ⟨by kernel_rfl⟩
instance cb_10 : CB Tryz.prog 10 := ⟨by kernel_rfl⟩
instance cb_13 : CB Tryz.prog 13 := ⟨by kernel_rfl⟩
instance ct_3 : CT Tryz.prog 3 := ⟨by kernel_rfl⟩
instance ct_35 : CT Tryz.prog 35 := ⟨by kernel_rfl⟩
instance ct_40 : CT Tryz.prog 40 := ⟨by kernel_rfl⟩
instance ct_9 : CT Tryz.prog 9 := ⟨by kernel_rfl⟩
instance ft_105_0 : FT Tryz.prog 105 0 0 1 := ⟨by kernel_rfl⟩
instance ft_105_1 : FT Tryz.prog 105 1 1 1 := ⟨by kernel_rfl⟩
instance ft_37_0 : FT Tryz.prog 37 0 0 1 := ⟨by kernel_rfl⟩
instance ft_37_1 : FT Tryz.prog 37 1 1 1 := ⟨by kernel_rfl⟩
instance ft_37_2 : FT Tryz.prog 37 2 2 1 := ⟨by kernel_rfl⟩
instance ft_39_0 : FT Tryz.prog 39 0 0 3 := ⟨by kernel_rfl⟩
instance ft_39_1 : FT Tryz.prog 39 1 3 1 := ⟨by kernel_rfl⟩
instance ft_42_0 : FT Tryz.prog 42 0 0 4 := ⟨by kernel_rfl⟩
instance ft_42_1 : FT Tryz.prog 42 1 4 5 := ⟨by kernel_rfl⟩
instance ft_42_2 : FT Tryz.prog 42 2 9 1 := ⟨by kernel_rfl⟩
instance mx : MX Tryz.prog := ⟨mixed⟩
instance sl_23 : SLT Tryz.prog 23 9 1 := ⟨by kernel_rfl⟩
instance sl_40 : SLT Tryz.prog 40 105 3 := ⟨by kernel_rfl⟩
instance sz_37 : SZ Tryz.prog 37 3 := ⟨by kernel_rfl⟩
instance zt_37 : ZT Tryz.prog 37 (.agg #[(.int .i64 0), (.int .u64 0), (.int .u64 0)]) := ⟨Tryz.t37, by kernel_rfl, by kernel_rfl⟩
end F_IRRef09
def ref09_Right.s3 (Q : Bool → K) (X2 : Int → K) (regions1_3 : Int) (o2_3 : Addr) (keys6_3 : Sl) (i7_3 : Int) (t92_3 : Bool) : K :=
  Ite t92_3
    (Q false)
    (Ar (IntKind.wrap .i64 (i7_3 + 1)) fun t62 =>
    X2 t62)
def ref09_Right.b2 (Q : Bool → K)  (X2 : Int → K) (regions1_2 : Int) (o2_2 : Addr) (keys6_2 : Sl) (i7_2 : Int) : K :=
  Ite (decide (i7_2 < (keys6_2.n : Int)))
    (Dr <|
    Ld (o2_2.add 9) Sl.val fun t64 =>
    Idx t64 i7_2 3 fun t66 =>
    Ld t66 Value.string fun t68 =>
    Idx keys6_2 i7_2 1 fun t71 =>
    Ld t71 Value.string fun t72 =>
    Ite (!(t68.toList == t72.toList))
      (ref09_Right.s3 Q X2 regions1_2 o2_2 keys6_2 i7_2 true)
      (Ld (o2_2.add 9) Sl.val fun t76 =>
      Idx t76 i7_2 3 fun t78 =>
      Ld (t78.add 1) (Value.int .i64) fun t80 =>
      Ite (decide (t80 < 0))
        (ref09_Right.s3 Q X2 regions1_2 o2_2 keys6_2 i7_2 true)
        (Ld (o2_2.add 9) Sl.val fun t85 =>
        Idx t85 i7_2 3 fun t87 =>
        Ld (t87.add 1) (Value.int .i64) fun t89 =>
        ref09_Right.s3 Q X2 regions1_2 o2_2 keys6_2 i7_2 (decide (regions1_2 ≤ t89)))))
    (Q true)
def ref09_Right.s1 (Q : Bool → K)  (regions1_1 : Int) (o2_1 : Addr) (t47_1 : Bool) : K :=
  Ite t47_1
    (Q false)
    (LdN (o2_1.add 4) 5 fun t49 =>
    ref05_Keys.call t49 fun t50 =>
    Ld (o2_1.add 9) Sl.val fun t52 =>
    Ite (decide ((t52.n : Int) ≠ (t50.n : Int)))
      (Q false)
      (LoopK (α := Int) (fun X x => ref09_Right.b2 Q X regions1_1 o2_1 t50 x) 0))
def ref09_Right (o0 : (Array Value)) (regions1 : Int) (Q : Bool → K) : K :=
  New 42 o0 fun o2 =>
  LdN o2 3 fun t10 =>
  New 37 #[(.int .i64 0), (.int .u64 0), (.int .u64 0)] fun id5 =>
  StN id5 3 t10 <|
  LdN (o2.add 4) 5 fun t12 =>
  ref05_Right.call t12 regions1 fun t14 =>
  Ite (!t14)
    (ref09_Right.s1 Q regions1 o2 true)
    (Ld id5 (Value.int .i64) fun t18 =>
    Ite (decide (t18 < 0))
      (ref09_Right.s1 Q regions1 o2 true)
      (Ld id5 (Value.int .i64) fun t23 =>
      Ite (decide ((8 : Int) < t23))
        (ref09_Right.s1 Q regions1 o2 true)
        (Ld (id5.add 1) (Value.int .u64) fun t28 =>
        Ite (decide (t28 = 0))
          (ref09_Right.s1 Q regions1 o2 true)
          (Ld (id5.add 2) (Value.int .u64) fun t33 =>
          Ite (decide (t33 = 0))
            (ref09_Right.s1 Q regions1 o2 true)
            (Ld (o2.add 3) (Value.int .i64) fun t39 =>
            Ite (decide (t39 < 0))
              (ref09_Right.s1 Q regions1 o2 true)
              (Ld (o2.add 3) (Value.int .i64) fun t45 =>
              ref09_Right.s1 Q regions1 o2 (decide ((2 : Int) < t45))))))))
theorem ref09_Right_ok (o0 : (Array Value)) (regions1 : Int) (Q : Bool → K) (w : World) (h : ref09_Right o0 regions1 Q w) : ref09_Right.call o0 regions1 Q w := by
  have hJ11 : ∀ (X2 : Int → K), XH 8 X2 → JH 11 fun D => ∃ (regions1_3 : Int) (o2_3 : Addr) (keys6_3 : Sl) (i7_3 : Int), D [(1, (.int .i64 regions1_3)), (2, (.pointer (some o2_3))), (6, (Sl.val keys6_3)), (7, (.int .i64 i7_3))] (fun C => ∀ (t92_3 : Bool), C [(1, (.int .i64 regions1_3)), (2, (.pointer (some o2_3))), (6, (Sl.val keys6_3)), (7, (.int .i64 i7_3)), (92, (.bool t92_3))] (ref09_Right.s3 Q X2 regions1_3 o2_3 keys6_3 i7_3 t92_3)) := by intros; exact ⟨fun _ ⟨_, _, _, _, h⟩ => ⟨_, _, h⟩⟩
  have hL8 : ∀ (regions1_2 : Int) (o2_2 : Addr) (keys6_2 : Sl), LH 8 (fun x : Int => [(1, (.int .i64 regions1_2)), (2, (.pointer (some o2_2))), (6, (Sl.val keys6_2)), (7, (.int .i64 x))]) (fun X x => ref09_Right.b2 Q X regions1_2 o2_2 keys6_2 x) := by intros; exact ⟨⟩
  have hJ3 : JH 3 fun D => ∃ (regions1_1 : Int) (o2_1 : Addr), D [(1, (.int .i64 regions1_1)), (2, (.pointer (some o2_1)))] (fun C => ∀ (t47_1 : Bool), C [(1, (.int .i64 regions1_1)), (2, (.pointer (some o2_1))), (47, (.bool t47_1))] (ref09_Right.s1 Q regions1_1 o2_1 t47_1)) := by intros; exact ⟨fun _ ⟨_, _, h⟩ => ⟨_, _, h⟩⟩
  exact g_walk 93 h Tryz.func15
end Go.Proofs.YtfjjocopmknhgaaGreat
/- The regions of an order's keys: order.Homes, order.Single; the document's Right of orders. -/
namespace Go.Proofs.YtfjjocopmknhgaaGreat
open Go Go.Sep
set_option linter.unusedSimpArgs false
set_option linter.unusedVariables false
set_option maxRecDepth 100000

abbrev SlI (s : Sl) (L : List Int) : HProp := SlC ty_int 1 s (L.map (Value.int .i64))
section
variable {B : World} {Γ Δ : List HProp} {k : K}
theorem compactI_hg {s : Sl} {L : List Int} {Q : Sl → K} (hL : L.length < 100000000) (h : ∀ s', HG B (SlI s' (cmpct L) :: Γ) (Q s')) : HG B (SlI s L :: Γ) (slices_Compact_s_int_int.call s Q) := by
  refine fun w hw => slices_Compact_s_int_int_ok _ _ _ ?_
  refine hg hw ?_
  clear hw w
  unfold slices_Compact_s_int_int
  refine s_cap s fun a1 a2 a3 a4 => ?_
  rw [List.length_map, Nat.mul_one] at a1
  refine s_ite (fun hb => ?_) fun hb => ?_
  · have e : cmpct L = L := by
      match L, a1 with
      | [], _ => rfl
      | [x], _ => rfl
      | x :: y :: L, a1 => simp only [List.length_cons] at a1; simp only [decide_eq_true_eq] at hb; omega
    rw [e] at h
    exact h s
  have hn2 : 2 ≤ L.length := by simp only [decide_eq_false_iff_not] at hb; omega
  refine s_loopC (α := Int) (fun x => ∃ i : Nat, x = (i : Int) ∧ 1 ≤ i ∧ i ≤ L.length ∧ cmpct (L.take i) = L.take i) (fun x => L.length - x.toNat) ⟨1, rfl, Nat.le_refl _, by omega, ?_⟩ fun k' x hx hk' => ?_
  · match L, hn2 with
    | x :: L, _ => simp [cmpct]
  obtain ⟨i, rfl, hi1, hi, hc⟩ := hx
  unfold slices_Compact_s_int_int.b1
  refine s_ite (fun hb2 => ?_) fun hb2 => ?_
  rotate_left
  · have hil : i = L.length := by simp only [decide_eq_false_iff_not] at hb2; omega
    rw [hil, List.take_length] at hc
    rw [hc] at h
    exact h s
  have hil : i < L.length := by simp only [decide_eq_true_eq] at hb2; omega
  obtain ⟨j, rfl⟩ : ∃ j, i = j + 1 := ⟨i - 1, by omega⟩
  -- what one more makes
  have step : ∀ m, m + 1 < L.length → cmpct (L.take (m + 2)) = if L[m + 1]? = L[m]? then cmpct (L.take (m + 1)) else cmpct (L.take (m + 1)) ++ L[m + 1]?.toList := fun m hm => by
    have t1 : L.take (m + 2) = L.take m ++ [L[m], L[m + 1]] := by rw [List.take_succ_eq_append_getElem hm, List.take_succ_eq_append_getElem (by omega), List.append_assoc]; rfl
    have t2 : L.take (m + 1) = L.take m ++ [L[m]] := List.take_succ_eq_append_getElem (by omega)
    rw [t1, t2, cmpct_snoc, List.getElem?_eq_getElem hm, List.getElem?_eq_getElem (show m < L.length by omega)]
    simp
  obtain ⟨a, ha⟩ : ∃ a, L[j + 1]? = some a := ⟨_, List.getElem?_eq_getElem hil⟩
  obtain ⟨b, hb'⟩ : ∃ b, L[j]? = some b := ⟨_, List.getElem?_eq_getElem (by omega)⟩
  refine s_dr ?_
  refine s_idx1 (c := Value.int .i64) (L := L) (j := j + 1) (fun w hw => (own_rd (s := s) hw).1) ha ?_ rfl
  refine s_ai ?_
  refine s_idx1 (c := Value.int .i64) (L := L) (j := j) (fun w hw => (own_rd (s := s) hw).1) hb' ?_ (by omega)
  have hst := step j hil
  rw [ha, hb'] at hst
  refine s_ite (fun he => ?_) fun he => ?_
  rotate_left
  · have hne : ¬ some a = some b := by simpa using he
    rw [if_neg hne] at hst
    refine s_ai ?_
    refine hk' _ ⟨j + 2, by simp; omega, by omega, hil, ?_⟩ (by omega)
    rw [hst, hc, List.take_succ_eq_append_getElem hil]
    rw [List.getElem?_eq_getElem hil] at ha
    rw [Option.some.inj ha]; rfl
  -- two that are one
  have hab : some a = some b := by simpa using he
  rw [if_pos hab, hc] at hst
  refine s_slc (lo := j + 1) (hi := s.n) (mx := s.c) ?_
  refine s_loop (α := Int × Int) (ι := Nat × Nat × List Int) (fun y i => y.1 = (i.1 : Int) ∧ y.2 = (i.2.1 : Int) ∧ 1 ≤ i.2.1 ∧ j + 1 + i.2.1 ≤ L.length ∧ i.1 < j + 1 + i.2.1 ∧ i.2.2.length = L.length ∧ i.2.2.drop (j + i.2.1) = L.drop (j + i.2.1) ∧ i.2.2.take i.1 = cmpct (L.take (j + 1 + i.2.1)))
    (fun y i => SlI s i.2.2 :: Γ) (fun y i => L.length - i.2.1) (j + 1, 1, L) ⟨rfl, rfl, Nat.le_refl _, by simp only; omega, by simp only; omega, rfl, rfl, hst.symm⟩ ?_
  rintro k2 ⟨_, _⟩ ⟨p, q, M⟩ ⟨rfl, rfl, hq1, hq, hpq, hM, hd, ht⟩ hk2
  simp only at hq1 hq hpq hM hd ht hk2 ⊢
  unfold slices_Compact_s_int_int.b2
  simp only
  refine s_cap s fun d1 d2 d3 d4 => ?_
  rw [List.length_map, Nat.mul_one] at d1
  refine s_ite (fun hb3 => ?_) fun hb3 => ?_
  · have hql : j + 1 + q < L.length := by simp only [decide_eq_true_eq] at hb3; omega
    obtain ⟨x, hx⟩ : ∃ x, L[j + 1 + q]? = some x := ⟨_, List.getElem?_eq_getElem hql⟩
    obtain ⟨y, hy⟩ : ∃ y, L[j + q]? = some y := ⟨_, List.getElem?_eq_getElem (by omega)⟩
    have hMx : M[j + 1 + q]? = some x := by
      have := congrArg (·[1]?) hd
      simp only [List.getElem?_drop] at this
      rw [show j + q + 1 = j + 1 + q by omega] at this
      rw [this, hx]
    have hMy : M[j + q]? = some y := by
      have := congrArg (·[0]?) hd
      simp only [List.getElem?_drop, Nat.add_zero] at this
      rw [this, hy]
    have hrd : ∀ w, Holds B (SlI s M :: Γ) w → RdC w ⟨cutA s.a (j + 1) s.c 1, s.n - (j + 1), s.c - (j + 1)⟩ 1 ((M.drop (j + 1)).map (Value.int .i64)) := fun w hw => by
      have := (own_rd (s := s) hw).1.drop (l := j + 1) (c := s.c) (by omega) d2 d3
      rwa [Nat.mul_one, ← List.map_drop] at this
    have hst2 := step (j + q) (by omega)
    rw [show j + q + 1 = j + 1 + q by omega, hx, hy, show j + q + 2 = j + 1 + (q + 1) by omega] at hst2
    refine s_dr ?_
    refine s_idx1 (c := Value.int .i64) (L := M.drop (j + 1)) (j := q) hrd (by rw [List.getElem?_drop]; exact hMx) ?_ rfl
    refine s_ai ?_
    refine s_idx1 (c := Value.int .i64) (L := M.drop (j + 1)) (j := q - 1) hrd (by rw [List.getElem?_drop, show j + 1 + (q - 1) = j + q by omega]; exact hMy) ?_ (by omega)
    unfold slices_Compact_s_int_int.s3
    refine s_ite (fun he2 => ?_) fun he2 => ?_
    · have hne : ¬ some x = some y := by simpa using he2
      rw [if_neg hne] at hst2
      refine s_idx1 (c := Value.int .i64) (L := M.drop (j + 1)) (j := q) hrd (by rw [List.getElem?_drop]; exact hMx) ?_ rfl
      refine s_idx (s := s) (i := p) ?_
      rw [← add0 (elA s p 1)]
      refine s_stE (s := s) ?_ (by simp; omega)
      rw [show p * 1 + 0 = p by omega, show Value.int .i64 x = (Value.int .i64) x from rfl, ← List.map_set]
      refine s_ai ?_
      refine s_ai ?_
      refine hk2 _ (p + 1, q + 1, M.set p x) ⟨by simp, by simp, by simp only; omega, by simp only; omega, by simp only; omega, by simpa using hM, ?_, ?_⟩ (by simp only; omega)
      · simp only
        rw [List.drop_set_of_lt (by omega), show j + (q + 1) = (j + q) + 1 by omega, ← List.drop_drop, hd, List.drop_drop]
      · simp only
        rw [set_take (by omega), ht, hst2]; rfl
    · have heq : some x = some y := by simpa using he2
      rw [if_pos heq] at hst2
      refine s_ai ?_
      refine hk2 _ (p, q + 1, M) ⟨rfl, by simp, by simp only; omega, by simp only; omega, by simp only; omega, hM, ?_, ?_⟩ (by simp only; omega)
      · simp only
        rw [show j + (q + 1) = (j + q) + 1 by omega, ← List.drop_drop, hd, List.drop_drop]
      · simp only
        rw [ht, hst2]
  · have hql : j + 1 + q = L.length := by simp only [decide_eq_false_iff_not] at hb3; omega
    rw [hql, List.take_length] at ht
    refine s_slc (lo := p) (hi := s.n) (mx := s.c) ?_
    refine s_shrink (s := s) (m := p) (c' := s.c) (by omega) (by omega) (Nat.le_refl _) ?_
    rw [show (M.map (Value.int .i64)).take (p * 1) = (cmpct L).map (Value.int .i64) by rw [Nat.mul_one, ← List.map_take, ht]]
    refine s_clear (s := ⟨s.a, p, s.c⟩) (l := p) (q := s.n - p) (m := s.c) rfl (Nat.le_refl _) (by simp only; omega) (by omega) ?_
    refine s_slc (lo := 0) (hi := p) (mx := s.c) ?_
    rw [cut0 d3]
    exact h ⟨s.a, p, s.c⟩
/-- The regions of some marks. -/
def homesM (L : List MkX) : List Int := cmpct (sortI (if L.length = 0 then [0] else L.map MkX.home))
theorem sortI_len (L : List Int) : (sortI L).length = L.length := (List.mergeSort_perm L _).length_eq
theorem homes_hg {ms : Sl} {L : List MkX} {pre : List Value} {Q : Sl → K} (hpre : pre.length = 9) (hr : ∀ w, Holds B Γ w → RdC w ms 3 (L.flatMap mkL)) (hL : L.length ≤ 1000) (h : ∀ s, HG B (SlI s (homesM L) :: Γ) (Q s)) : HG B Γ (order_Homes.call (pre ++ [ms.val]).toArray Q) := fun w hw => by
  refine order_Homes_ok _ _ _ ?_
  have hn : ms.n = L.length := rd_len mkL_len (by omega) (hr w hw)
  refine Sep.hg hw ?_
  clear hw w
  unfold order_Homes
  refine s_new fun o1 => ?_
  refine s_ld (b := o1) (x := ms) ?_ (by rw [nth_eq, List.getElem?_append_right (by omega), hpre]; rfl)
  refine s_end (Δ := Γ) ?_
  have fin : ∀ (s : Sl) (H : List Int), H = (if L.length = 0 then [0] else L.map MkX.home) → H.length ≤ 1001 → HG B (SlI s H :: Γ) (order_Homes.s2 Q (fun _ _ => Q s) s) := fun s H hH hl => by
    unfold order_Homes.s2
    refine fun w hw => slices_SortI_spec (by omega) hw fun w hw => ?_
    refine Sep.hg hw ?_
    clear hw w
    refine compactI_hg (by rw [sortI_len]; omega) fun s' => ?_
    have := h s'
    unfold homesM at this
    rw [← hH] at this
    exact this
  refine s_nilS (E := ty_int) (esz := 1) (vs := ([] : List Int).map (Value.int .i64)) ?_
  refine s_loop (α := Sl × Int) (ι := Nat) (fun x i => x.2 = (i : Int) ∧ i ≤ L.length) (fun x i => SlI x.1 ((L.take i).map MkX.home) :: Γ) (fun x i => L.length - i) 0 ⟨rfl, Nat.zero_le _⟩ ?_
  rintro k' ⟨o, _⟩ i ⟨rfl, hi⟩ hk'
  simp only at hi hk' ⊢
  refine s_cap o fun b1 b2 b3 b4 => ?_
  rw [List.length_map, List.length_map, List.length_take] at b1
  unfold order_Homes.b1
  refine s_ite (fun hb => ?_) fun hb => ?_
  · have hil : i < L.length := by simp only [decide_eq_true_eq] at hb; omega
    have hge : L[i]? = some L[i] := List.getElem?_eq_getElem hil
    have htk : L.take (i + 1) = L.take i ++ [L[i]] := List.take_succ_eq_append_getElem hil
    generalize L[i] = m at hge htk
    refine s_idxN mkL mkL_len (fun w hw => hr w hw.drops) hge ?_
    refine s_new fun m4 => ?_
    repeat refine s_nx ?_
    refine s_app1 (s := o) (m := 1) (us := [.int .i64 m.home]) (fun o2 ho2 => ?_)
    refine s_ai ?_
    rw [show ((L.take i).map MkX.home).map (Value.int .i64) ++ [.int .i64 m.home] = ((L.take (i + 1)).map MkX.home).map (Value.int .i64) by rw [htk]; simp]
    exact s_end (hk' (o2, (i : Int) + 1) (i + 1) ⟨by simp, hil⟩ (by omega))
  · have hil : i = L.length := by simp only [decide_eq_false_iff_not] at hb; omega
    rw [hil, List.take_length]
    have fin2 : ∀ (X1 : Sl → Int → K) (s : Sl) (H : List Int), H = (if L.length = 0 then [0] else L.map MkX.home) → H.length ≤ 1001 → HG B (SlI s H :: Γ) (order_Homes.s2 Q X1 s) := fun X1 s H hH hl => by
      have := fin s H hH hl
      unfold order_Homes.s2 at this ⊢
      exact this
    refine s_ite (fun hc => ?_) fun hc => ?_
    · have h0 : L.length = 0 := by simp only [decide_eq_true_eq] at hc; omega
      refine s_new fun t21 => ?_
      refine s_conv (A' := SlI ⟨some ⟨t21, 0, none⟩, 1, 1⟩ [0]) (blk_SlC (vs := [.int .i64 0]) rfl (by simp)) ?_
      exact s_end (fin2 _ _ [0] (by rw [if_pos h0]) (by simp))
    · have h0 : L.length ≠ 0 := by simp only [decide_eq_false_iff_not] at hc; omega
      exact fin2 _ o _ (by rw [if_neg h0]) (by rw [List.length_map]; omega)
theorem single_hg {a b c d : Int} {t : TxX} {ms : Sl} {L : List MkX} {Q : Bool → K} (hr : ∀ w, Holds B Γ w → RdC w ms 3 (L.flatMap mkL)) (hL : L.length ≤ 1000) (h : HG B Γ (Q (decide (t.kind = 1) && decide ((homesM L).length = 1)))) : HG B Γ (order_Single.call (orL a b c d t ms).toArray Q) := fun w hw => by
  refine order_Single_ok _ _ _ ?_
  refine Sep.hg hw ?_
  clear hw w
  unfold order_Single
  refine s_new fun o1 => ?_
  repeat refine s_nx ?_
  unfold order_Single.s1
  refine s_ite (fun hb => ?_) fun hb => ?_
  · repeat refine s_nx ?_
    refine homes_hg (pre := [.int .i64 a, .int .u64 b, .int .u64 c, .int .i64 d, .int .i64 t.kind, t.rs.val, t.ws.val, t.os.val, .int .i64 t.to]) (L := L) rfl (fun w hw => hr w hw.drops) hL fun s => ?_
    refine s_cap s fun b1 b2 b3 b4 => ?_
    rw [List.length_map, Nat.mul_one] at b1
    rw [hb, Bool.true_and] at h
    rw [show decide ((s.n : Int) = 1) = decide ((homesM L).length = 1) from decide_eq_decide.2 (by omega)]
    exact s_end h
  · rw [hb, Bool.false_and] at h
    exact s_end h
/-- The document's Right, of an order that is. -/
theorem right09_hg {t : TxX} {ms : Sl} {L : List MkX} {Q : Bool → K} (hrt : rightT 3 t = true) (hr : ∀ w, Holds B Γ w → txRd w t) (hm : ∀ w, Holds B Γ w → RdC w ms 3 (L.flatMap mkL)) (hl : t.reads.length < 1000000 ∧ t.writes.length < 1000000 ∧ t.ops.length < 1000000)
    (hL : L.map MkX.key = keysT (t.reads ++ t.writes)) (hh : ∀ m ∈ L, 0 ≤ m.home ∧ m.home < 3) (h : HG B Γ (Q true)) : HG B Γ (ref09_Right.call (orL 0 1 1 0 t ms).toArray 3 Q) := fun w hw => by
  refine ref09_Right_ok _ _ _ _ ?_
  have hn : ms.n = L.length := rd_len mkL_len (by omega) (hm w hw)
  refine Sep.hg hw ?_
  clear hw w
  unfold ref09_Right
  refine s_new fun o2 => ?_
  repeat refine s_nx ?_
  refine s_new fun id5 => ?_
  repeat refine s_nx ?_
  refine right05_hg (t := t) (n := 3) (fun w hw => hr w hw.drops) ⟨by omega, by omega, by omega⟩ ?_
  rw [hrt]
  repeat refine s_nx ?_
  refine s_f ?_ (by simp)
  repeat refine s_nx ?_
  refine s_f ?_ (by simp)
  repeat refine s_nx ?_
  refine s_f ?_ (by simp)
  repeat refine s_nx ?_
  refine s_f ?_ (by simp)
  repeat refine s_nx ?_
  refine s_f ?_ (by simp)
  repeat refine s_nx ?_
  unfold ref09_Right.s1
  refine s_f ?_ (by simp)
  repeat refine s_nx ?_
  refine keys05_hg (t := t) (fun w hw => (hr w hw.drops).1) (fun w hw => (hr w hw.drops).2.1) (by omega) (by omega) fun ks => ?_
  rw [← hL]
  refine s_cap ks fun b1 b2 b3 b4 => ?_
  rw [List.length_map, List.length_map, Nat.mul_one] at b1
  repeat refine s_nx ?_
  have hkl := keysT_len (t.reads ++ t.writes)
  rw [← hL, List.length_map, List.length_append] at hkl
  refine s_f ?_ (by simp; omega)
  refine s_loopC (α := Int) (fun x => ∃ i : Nat, x = (i : Int) ∧ i ≤ L.length) (fun x => L.length - x.toNat) ⟨0, rfl, Nat.zero_le _⟩ fun k' x hx hk' => ?_
  obtain ⟨i, rfl, hi⟩ := hx
  unfold ref09_Right.b2
  refine s_ite (fun hb => ?_) fun hb => s_end h
  have hil : i < L.length := by simp only [decide_eq_true_eq] at hb; omega
  have hge : L[i]? = some L[i] := List.getElem?_eq_getElem hil
  have hmem : L[i] ∈ L := List.getElem_mem hil
  generalize L[i] = m at hge hmem
  obtain ⟨h1, h2⟩ := hh m hmem
  repeat refine s_nx ?_
  refine s_idxF0 mkL (c := Value.string) (v := bs m.key) mkL_len (fun w hw => hm w hw.drops) hge rfl ?_
  refine s_idxS (L := L.map MkX.key) (fun w hw => (own_rd (s := ks) hw).1) (by rw [List.getElem?_map, hge]; rfl) ?_
  refine s_f ?_ (by simp)
  repeat refine s_nx ?_
  refine s_idxF1 mkL (off := 1) (c := Value.int .i64) (v := m.home) mkL_len (fun w hw => hm w hw.drops) hge rfl ?_
  refine s_f ?_ (by simp; omega)
  repeat refine s_nx ?_
  refine s_idxF1 mkL (off := 1) (c := Value.int .i64) (v := m.home) mkL_len (fun w hw => hm w hw.drops) hge rfl ?_
  unfold ref09_Right.s3
  refine s_f ?_ (by simp; omega)
  refine s_ai ?_
  exact hk' _ ⟨i + 1, by simp, hil⟩ (by omega)
end
theorem cmpct_one {L : List Int} : (cmpct L).length = 1 ↔ L ≠ [] ∧ ∀ a ∈ L, ∀ b ∈ L, a = b := by
  constructor
  · intro h
    obtain ⟨x, hx⟩ := List.length_eq_one_iff.1 h
    have hm : ∀ a ∈ L, a = x := fun a ha => by
      have := cmpct_mem.2 ha
      rw [hx] at this
      simpa using this
    refine ⟨fun e => ?_, fun a ha b hb => by rw [hm a ha, hm b hb]⟩
    rw [e] at hx
    cases hx
  · rintro ⟨h1, h2⟩
    match L, h1 with
    | x :: L, _ =>
      have : ∀ (L : List Int), (∀ a ∈ L, a = x) → cmpct (x :: L) = [x] := by
        intro L
        induction L with
        | nil => intro _; rfl
        | cons y L ih =>
          intro h
          have hy := h y List.mem_cons_self
          rw [cmpct, if_pos hy, hy]
          exact ih fun a ha => h a (List.mem_cons_of_mem _ ha)
      rw [this L fun a ha => h2 a (List.mem_cons_of_mem _ ha) x List.mem_cons_self]; rfl
theorem homes_one (L : List MkX) : (homesM L).length = 1 ↔ ∀ a ∈ L, ∀ b ∈ L, a.home = b.home := by
  unfold homesM
  rw [cmpct_one]
  have hm : ∀ {M : List Int} {x : Int}, x ∈ sortI M ↔ x ∈ M := fun {M x} => (List.mergeSort_perm M _).mem_iff
  split
  · rename_i h0
    have : L = [] := List.length_eq_zero_iff.1 h0
    subst this
    simp only [hm]
    refine ⟨fun _ => by simp, fun _ => ⟨fun e => ?_, by simp⟩⟩
    have := congrArg List.length e
    rw [sortI_len] at this
    cases this
  · rename_i h0
    simp only [hm]
    constructor
    · rintro ⟨_, h⟩ a ha b hb
      exact h _ (List.mem_map.2 ⟨a, ha, rfl⟩) _ (List.mem_map.2 ⟨b, hb, rfl⟩)
    · intro h
      refine ⟨fun e => ?_, fun x hx y hy => ?_⟩
      · have := congrArg List.length e
        rw [sortI_len, List.length_map] at this
        exact h0 this
      · obtain ⟨a, ha, rfl⟩ := List.mem_map.1 hx
        obtain ⟨b, hb, rfl⟩ := List.mem_map.1 hy
        exact h a ha b hb
end Go.Proofs.YtfjjocopmknhgaaGreat
/- A transaction that a law is given can be read. -/
namespace Go.Proofs.YtfjjocopmknhgaaGreat
open Go Go.Sep Go.RowKit
set_option linter.unusedSimpArgs false
set_option linter.unusedVariables false
theorem flatMap1 {α β : Type} (f : α → β) (L : List α) : L.flatMap (fun x => [f x]) = L.map f := by induction L <;> simp_all
theorem rdy_op {w : World} {cs : List Value} (hc : cs.length = 4) (y : Rdy w (.fld 0 1 (.int .i64) (.fld 1 1 .str (.fld 2 1 (.sl (.int .u8) 1) (.fld 3 1 (.int .i64) .nil)))) cs) :
    ∃ x : OpX, cs = opF x ∧ RdB w x.2 x.1.val ∧ -9223372036854775808 ≤ x.1.n ∧ x.1.n ≤ 9223372036854775807 := by
  match cs, hc with
  | [a, b, c, d], _ =>
    obtain ⟨⟨x0, e0, _⟩, ⟨x1, e1, _⟩, ⟨s, e2, _, _, h1, h2⟩, ⟨x3, e3, w3⟩, _⟩ := y
    cases e0; cases e1; cases e2; cases e3
    simp [Lit.wf, IntKind.min, IntKind.max, IntKind.signed, IntKind.bits] at w3
    obtain ⟨xs, _, h3⟩ := rd_bytes h1 h2
    obtain ⟨l, rfl⟩ := bs_of x1
    exact ⟨(⟨x0, l, xs, x3⟩, s), rfl, h3, by simp only; omega⟩
theorem rdy_texts {w : World} {s : Sl} (h1 : s.a = none → s.n = 0 ∧ s.c = 0) (h2 : ∀ a i, s.a = some a → i < s.n → ∃ cs', cs'.length = 1 ∧ (∀ j, j < 1 → w.cell? (a.add (i * 1 + j)) = cs'[j]?) ∧ Rdy w .str cs') : ∃ L : List (List UInt8), RdC w s 1 (L.map strV) := by
  obtain ⟨L, _, hL, _⟩ := rd_list (fun x : List UInt8 => [strV x]) (fun _ => True) (fun _ => rfl) h1 h2 fun cs hc hr => by
    obtain ⟨b, rfl, _⟩ := hr
    obtain ⟨x, rfl⟩ := bs_of b
    exact ⟨x, rfl, trivial⟩
  exact ⟨L, by rw [flatMap1] at hL; exact hL⟩
theorem rdy_txn {w : World} {cs : Array Value} (hc : cs.size = 5) (y : Rdy w Sh_ty_api_Txn (Value.agg cs).cells.toList) : ∃ t : TxX, cs = (txL t).toArray ∧ txRd w t ∧ ∀ x ∈ t.ops, -9223372036854775808 ≤ x.1.n ∧ x.1.n ≤ 9223372036854775807 := by
  obtain ⟨l⟩ := cs
  match l, hc with
  | [a, b, c, d, e], _ =>
    obtain ⟨⟨x0, e0, _⟩, ⟨rs, e1, _, _, r1, r2⟩, ⟨ws, e2, _, _, w1, w2⟩, ⟨os, e3, _, _, o1, o2⟩, ⟨x4, e4, _⟩, _⟩ := y
    cases e0; cases e1; cases e2; cases e3; cases e4
    obtain ⟨R, hR⟩ := rdy_texts r1 r2
    obtain ⟨S, hS⟩ := rdy_texts w1 w2
    obtain ⟨O, _, hO, hd⟩ := rd_list opF (fun x => RdB w x.2 x.1.val ∧ -9223372036854775808 ≤ x.1.n ∧ x.1.n ≤ 9223372036854775807) opF_len o1 o2 fun cs hc hr => rdy_op hc hr
    exact ⟨⟨x0, R, S, O, x4, rs, ws, os⟩, rfl, ⟨hR, hS, hO, fun x hx => (hd x hx).1⟩, fun x hx => (hd x hx).2⟩
theorem txRd_old {B w : World} {Γ : List HProp} {t : TxX} (h : txRd B t) (hw : Holds B Γ w) : txRd w t := ⟨h.1.old hw, h.2.1.old hw, h.2.2.1.old hw, fun x hx => (h.2.2.2 x hx).old hw⟩
end Go.Proofs.YtfjjocopmknhgaaGreat
/- Plain forms of functions, and that their code comes to them (package law10_RouteRight). -/
namespace Go.Proofs.YtfjjocopmknhgaaGreat
open Go Go.Sep
set_option linter.unusedVariables false
set_option linter.unusedSimpArgs false
set_option maxRecDepth 100000
set_option maxHeartbeats 4000000
attribute [local irreducible] G Gp Cx Tx Ex Sx Dx Ox Ax Lx Rx Fx Bx Bj Al Do Ld LdN St StN New CallF Ar DoU Rd Rd2 Pu Cd Ite Fv CallV CallY Ans0 Ans1 Ans2 Ans3 Ans4 Ans5 Ext Dead Dr WithS Sv LdS LdNS RdS Rd2S Nn Idx IdxA IdxS Fld Bld Slc SlcS Cat All LoopK RangeF RangeJ TakeD
namespace F_IRLaw10RouteRight
instance at_26 : AT Tryz.prog 26 5 := ⟨by kernel_rfl⟩
instance at_42 : AT Tryz.prog 42 10 := ⟨by kernel_rfl⟩
instance cb_10 : CB Tryz.prog 10 := ⟨by kernel_rfl⟩
instance cb_11 : CB Tryz.prog 11 := ⟨by kernel_rfl⟩
instance cb_12 : CB Tryz.prog 12 := ⟨by kernel_rfl⟩
instance cb_13 : CB Tryz.prog 13 := ⟨by kernel_rfl⟩
instance cb_14 : CB Tryz.prog 14 := ⟨by kernel_rfl⟩
instance cb_15 : CB Tryz.prog 15 := ⟨by kernel_rfl⟩
instance cb_16 : CB Tryz.prog 16 := ⟨by kernel_rfl⟩
instance cb_7 : CB Tryz.prog 7 := ⟨by kernel_rfl⟩
instance cb_8 : CB Tryz.prog 8 := ⟨by kernel_rfl⟩
instance cb_9 : CB Tryz.prog 9 := ⟨by kernel_rfl⟩
instance ct_3 : CT Tryz.prog 3 := ⟨by kernel_rfl⟩
instance ct_9 : CT Tryz.prog 9 := ⟨by kernel_rfl⟩
instance fc_47_2 : FC Tryz.prog 47 2 2 := ⟨by kernel_rfl⟩
instance ft_26_0 : FT Tryz.prog 26 0 0 1 := ⟨by kernel_rfl⟩
instance mx : MX Tryz.prog := ⟨mixed⟩
instance pl_37 : PLT Tryz.prog 37 [(0, 1), (1, 1), (2, 1)] := ⟨_, Tryz.underlying37, by kernel_rfl⟩
instance pl_39 : PLT Tryz.prog 39 [(0, 3), (3, 1)] := ⟨_, Tryz.underlying39, by kernel_rfl⟩
instance sl_23 : SLT Tryz.prog 23 9 1 := ⟨by kernel_rfl⟩
instance sz_42 : SZ Tryz.prog 42 10 := ⟨by kernel_rfl⟩
instance un_31 : UN Tryz.prog 31 (.pointer 119) := ⟨Tryz.underlying31⟩
instance un_4 : UN Tryz.prog 4 .bool := ⟨Tryz.underlying4⟩
instance zt_37 : ZT Tryz.prog 37 (.agg #[(.int .i64 0), (.int .u64 0), (.int .u64 0)]) := ⟨Tryz.t37, by kernel_rfl, by kernel_rfl⟩
instance zt_39 : ZT Tryz.prog 39 (.agg #[(.int .i64 0), (.int .u64 0), (.int .u64 0), (.int .i64 0)]) := ⟨Tryz.t39, by kernel_rfl, by kernel_rfl⟩
instance zt_42 : ZT Tryz.prog 42 (.agg #[(.int .i64 0), (.int .u64 0), (.int .u64 0), (.int .i64 0), (.int .i64 0), (Sl.val ⟨none, 0, 0⟩), (Sl.val ⟨none, 0, 0⟩), (Sl.val ⟨none, 0, 0⟩), (.int .i64 0), (Sl.val ⟨none, 0, 0⟩)]) := ⟨Tryz.t42, by kernel_rfl, by kernel_rfl⟩
end F_IRLaw10RouteRight
def law10_RouteRight.s3 (Q : Bool → K) (X2 : Bool → Int → Int → K) (t3_3 : Addr) (s5_3 : (Option Addr)) (o7_3 : Addr) (one8_3 : Bool) (h12_3 : Int) (t39_3 : Sl) (t40_3 : Int) (t41_3 : Int) : K :=
  Ar (IntKind.wrap .i64 (t41_3 + 1)) fun t60 =>
  X2 one8_3 h12_3 t60
def law10_RouteRight.s4 (Q : Bool → K) (X2 : Bool → Int → Int → K) (t4_4 : Bool) : K :=
  Q t4_4
def law10_RouteRight.b2 (Q : Bool → K)  (X2 : Bool → Int → Int → K) (t3_2 : Addr) (s5_2 : (Option Addr)) (o7_2 : Addr) (t39_2 : Sl) (t40_2 : Int) (one8_2 : Bool) (home9_2 : Int) (t41_2 : Int) : K :=
  Ite (decide (t41_2 < t40_2))
    (Idx t39_2 t41_2 1 fun t43 =>
    Ld t43 Value.string fun t44 =>
    store_Store_Get.call s5_2 t44 fun t47 =>
    Fld t47 2 (Value.int .i64) fun t48 =>
    Ite one8_2
      (Ite (decide (home9_2 < 0))
        (law10_RouteRight.s3 Q X2 t3_2 s5_2 o7_2 true t48 t39_2 t40_2 t41_2)
        (law10_RouteRight.s3 Q X2 t3_2 s5_2 o7_2 (decide (home9_2 = t48)) t48 t39_2 t40_2 t41_2))
      (law10_RouteRight.s3 Q X2 t3_2 s5_2 o7_2 false t48 t39_2 t40_2 t41_2))
    (LdN o7_2 10 fun t61 =>
    ref09_Right.call t61 3 fun t62 =>
    Ite t62
      (LdN o7_2 10 fun t64 =>
      order_Single.call t64 fun t65 =>
      Ite one8_2
        (Ld t3_2 (Value.int .i64) fun t69 =>
        law10_RouteRight.s4 Q X2 (t65 == (decide (t69 = 1))))
        (law10_RouteRight.s4 Q X2 (t65 == false)))
      (law10_RouteRight.s4 Q X2 false))
def law10_RouteRight.s1 (Q : Bool → K)  (moves0_1 : Sl) (t3_1 : Addr) (t25_1 : Bool) : K :=
  Ite t25_1
    (Q true)
    (law10_moved.call moves0_1 fun t28x0 t28x1 =>
    Ite ((t28x0).isNone)
      (Q false)
      (Bld #[(.int .i64 0), (.int .u64 0), (.int .u64 0), (.int .i64 0)] ([(0, 3), (3, 1)][·]?) [(0, (.agg #[(.int .i64 0), (.int .u64 1), (.int .u64 1)]))] fun t35 =>
      LdN t3_1 5 fun t36 =>
      route_Make.call t28x0 t35 t36 fun t37 =>
      New 42 #[(.int .i64 0), (.int .u64 0), (.int .u64 0), (.int .i64 0), (.int .i64 0), (Sl.val ⟨none, 0, 0⟩), (Sl.val ⟨none, 0, 0⟩), (Sl.val ⟨none, 0, 0⟩), (.int .i64 0), (Sl.val ⟨none, 0, 0⟩)] fun o7 =>
      StN o7 10 t37 <|
      LdN t3_1 5 fun t38 =>
      ref05_Keys.call t38 fun t39 =>
      LoopK (α := Bool × Int × Int) (fun X x => law10_RouteRight.b2 Q (fun one8_2 home9_2 t41_2 => X (one8_2, home9_2, t41_2)) t3_1 t28x0 o7 t39 (t39.n : Int) x.1 x.2.1 x.2.2) (true, (-1), 0)))
def law10_RouteRight (moves0 : Sl) (t1 : (Array Value)) (Q : Bool → K) : K :=
  New 26 t1 fun t3 =>
  law10_speaks.call  fun t13 =>
  Ite (!t13)
    (Q false)
    (law10_great.call moves0 fun t16 =>
    Ite t16
      (law10_RouteRight.s1 Q moves0 t3 true)
      (LdN t3 5 fun t18 =>
      ref05_Great.call t18 fun t19 =>
      Ite t19
        (law10_RouteRight.s1 Q moves0 t3 true)
        (LdN t3 5 fun t22 =>
        ref05_Right.call t22 3 fun t23 =>
        law10_RouteRight.s1 Q moves0 t3 (!t23))))
theorem law10_RouteRight_ok (moves0 : Sl) (t1 : (Array Value)) (Q : Bool → K) (w : World) (h : law10_RouteRight moves0 t1 Q w) : law10_RouteRight.call moves0 t1 Q w := by
  have hJ15 : ∀ (X2 : (Bool × Int × Int) → K), XH 11 X2 → JH 15 fun D => ∃ (t3_3 : Addr) (s5_3 : (Option Addr)) (o7_3 : Addr) (h12_3 : Int) (t39_3 : Sl) (t40_3 : Int) (t41_3 : Int), D [(3, (.pointer (some t3_3))), (5, (.pointer s5_3)), (7, (.pointer (some o7_3))), (12, (.int .i64 h12_3)), (39, (Sl.val t39_3)), (40, (.int .i64 t40_3)), (41, (.int .i64 t41_3))] (fun C => ∀ (one8_3 : Bool), C [(3, (.pointer (some t3_3))), (5, (.pointer s5_3)), (7, (.pointer (some o7_3))), (8, (.bool one8_3)), (12, (.int .i64 h12_3)), (39, (Sl.val t39_3)), (40, (.int .i64 t40_3)), (41, (.int .i64 t41_3))] (law10_RouteRight.s3 Q (fun one8_2 home9_2 t41_2 => X2 (one8_2, home9_2, t41_2)) t3_3 s5_3 o7_3 one8_3 h12_3 t39_3 t40_3 t41_3)) := by intros; exact ⟨fun _ ⟨_, _, _, _, _, _, _, h⟩ => ⟨_, _, h⟩⟩
  have hJ1000017 : ∀ (X2 : (Bool × Int × Int) → K), XH 11 X2 → JH 1000017 fun D => D [] (fun C => ∀ (t4_4 : Bool), C [(4, (.bool t4_4))] (law10_RouteRight.s4 Q (fun one8_2 home9_2 t41_2 => X2 (one8_2, home9_2, t41_2)) t4_4)) := by intros; exact ⟨fun _ h => ⟨_, _, h⟩⟩
  have hL11 : ∀ (t3_2 : Addr) (s5_2 : (Option Addr)) (o7_2 : Addr) (t39_2 : Sl) (t40_2 : Int), LH 11 (fun x : Bool × Int × Int => [(3, (.pointer (some t3_2))), (5, (.pointer s5_2)), (7, (.pointer (some o7_2))), (8, (.bool x.1)), (9, (.int .i64 x.2.1)), (39, (Sl.val t39_2)), (40, (.int .i64 t40_2)), (41, (.int .i64 x.2.2))]) (fun X x => law10_RouteRight.b2 Q (fun one8_2 home9_2 t41_2 => X (one8_2, home9_2, t41_2)) t3_2 s5_2 o7_2 t39_2 t40_2 x.1 x.2.1 x.2.2) := by intros; exact ⟨⟩
  have hJ4 : JH 4 fun D => ∃ (moves0_1 : Sl) (t3_1 : Addr), D [(0, (Sl.val moves0_1)), (3, (.pointer (some t3_1)))] (fun C => ∀ (t25_1 : Bool), C [(0, (Sl.val moves0_1)), (3, (.pointer (some t3_1))), (25, (.bool t25_1))] (law10_RouteRight.s1 Q moves0_1 t3_1 t25_1)) := by intros; exact ⟨fun _ ⟨_, _, h⟩ => ⟨_, _, h⟩⟩
  exact g_walk 74 h Tryz.func3
end Go.Proofs.YtfjjocopmknhgaaGreat
/- The order of a right transaction is right, and single just if all its keys are at home in one region. -/
namespace Go.Proofs.YtfjjocopmknhgaaGreat
open Go Go.Sep Go.Sep.Bt
set_option linter.unusedSimpArgs false
set_option linter.unusedVariables false
set_option maxRecDepth 100000

theorem right_same {a b : TxX} (h : SameP a b) (n : Int) : rightT n a = rightT n b := by
  obtain ⟨h1, h2, h3, h4, h5⟩ := h
  have hl : a.ops.length = b.ops.length := by have := congrArg List.length h5; simpa using this
  have ho : (a.ops.all fun x => opRight a x.1) = (b.ops.all fun x => opRight b x.1) := by
    have e : ∀ o, opRight a o = opRight b o := fun o => by unfold opRight; rw [h3, h4]
    have e2 : ∀ (t : TxX), (t.ops.all fun x => opRight b x.1) = ((t.ops.map Prod.fst).all fun o => opRight b o) := fun t => by rw [List.all_map]; rfl
    simp only [e]
    rw [e2 a, e2 b, h5]
  unfold rightT headBad keysBad
  rw [h1, h2, h3, h4, hl, ho]
/-- All homes are regions. -/
abbrev HomesOk (n : Nat) (M : Recs) : Prop := ∀ x ∈ M, 0 ≤ x.2.home ∧ x.2.home < (n : Int)
theorem homeOf_lt (l : List UInt8) {n : Nat} (hn : 1 ≤ n) : homeOf l n < n := by
  rw [homeOf_sum l hn]
  exact Nat.mod_lt _ (by omega)
theorem HomesOk.get {n : Nat} {M : Recs} (h : HomesOk n M) (hn : 1 ≤ n) (k : ByteArray) : 0 ≤ (sGet n M k).home ∧ (sGet n M k).home < (n : Int) := by
  unfold sGet
  cases hm : getM M k with
  | none =>
    have := homeOf_lt k.toList hn
    simp only [Option.getD_none]
    omega
  | some r => exact h _ (getM_mem hm)
theorem HomesOk.move {n : Nat} {M : Recs} (h : HomesOk n M) (k : ByteArray) (to : Int) : HomesOk n (sMove n M k to).1 := by
  unfold sMove
  split
  · exact h
  rename_i h1
  split
  · exact h
  · intro x hx
    rcases putM_mem hx with rfl | hx
    · simp only; omega
    · exact h x hx
theorem HomesOk.moves {n : Nat} : ∀ {L : List Mv} {M : Recs}, HomesOk n M → HomesOk n (movesM n M L)
  | [], _, h => h
  | m :: L, M, h => by
    show HomesOk n (movesM n (sMove n M m.key m.to).1 L)
    exact HomesOk.moves (h.move _ _)
section
variable {B : World} {Γ Δ : List HProp} {q : Bool → K}
theorem RouteRight_hg {L1 : List Mv} {m1 : Sl} {t : TxX} (h1 : RdC B m1 2 (L1.flatMap mvF)) (ht : txRd B t) (h : HG B Γ (q true)) : HG B Γ (law10_RouteRight.call m1 (txL t).toArray q) := fun w hw => by
  refine law10_RouteRight_ok _ _ _ _ ?_
  refine Sep.hg hw ?_
  clear hw w
  unfold law10_RouteRight
  refine s_new fun t3 => ?_
  refine speaks10 ?_
  refine s_f ?_
  have out : HG B (blk t3 (.cells (txL t).toArray ty_api_Txn (0, 0)) :: Γ) (law10_RouteRight.s1 q m1 ⟨t3, 0, none⟩ true) := by
    unfold law10_RouteRight.s1
    exact s_t (s_end h)
  refine great10 h1 ?_
  refine s_ite (fun hb => out) fun hb => ?_
  repeat refine s_nx ?_
  refine great05_hg (t := t) (fun w hw => txRd_old ht hw) ?_
  refine s_ite (fun hb2 => out) fun hb2 => ?_
  have htg : ¬ GreatP t := by simpa only [decide_eq_false_iff_not] using hb2
  obtain ⟨l1, l2, l3, l4, l5⟩ := small_of htg
  repeat refine s_nx ?_
  refine right05_hg (t := t) (n := 3) (fun w hw => txRd_old ht hw) ⟨by omega, by omega, by omega⟩ ?_
  by_cases hrt : rightT 3 t = true
  rotate_left
  · rw [show rightT 3 t = false by simpa using hrt]
    exact out
  rw [hrt]
  unfold law10_RouteRight.s1
  refine s_f ?_
  simp only [mvGreat, Bool.or_eq_false_iff, decide_eq_false_iff_not, List.any_eq_false, decide_eq_true_eq] at hb
  refine moved_hg (fun w hw => h1.old hw) (by omega) (fun m hm => by have := hb.2 m hm; omega) fun st sd hMl => ?_
  have hH : HomesOk 3 (movesM 3 [] L1) := HomesOk.moves (by simp)
  generalize movesM 3 [] L1 = M at hMl hH
  refine s_f ?_
  repeat refine s_nx ?_
  refine s_own st ?_
  refine make_hg (t := t) (a := 0) (b := 1) (c := 1) (d := 0) (fun w hw => txRd_old ht hw) ⟨by omega, by omega, by omega, fun x hx => by have := (l5 x hx).2; omega⟩ (fun x hx => by have := l4 x hx; omega) fun t' ms ht' => ?_
  refine s_new fun o7 => ?_
  repeat refine s_nx ?_
  refine keys05_hg (t := t) (fun w hw => (txRd_old ht hw).1) (fun w hw => (txRd_old ht hw).2.1) (by omega) (by omega) fun ks => ?_
  have hkl := keysT_len (t.reads ++ t.writes)
  rw [List.length_append] at hkl
  have hks : ∀ x ∈ keysT (t.reads ++ t.writes), x.length ≤ 200 := fun x hx => l4 x (keysT_mem.1 hx)
  have hrt' : rightT 3 t' = true := by rw [right_same ht', hrt]
  obtain ⟨c1, c2, c3, c4, c5⟩ := ht'
  have c6 : t'.ops.length = t.ops.length := by have := congrArg List.length c5; simpa using this
  have hkk : keysT (t.reads ++ t.writes) = keysT (t'.reads ++ t'.writes) := by rw [c3, c4]
  generalize hK : keysT (t.reads ++ t.writes) = KS at hkl hks hkk
  refine s_cap ks fun a1 a2 a3 a4 => ?_
  rw [List.length_map, Nat.mul_one] at a1
  -- the end
  have fin : ∀ one : Bool, (one = true ↔ ∀ a ∈ mksOf 3 M KS, ∀ b ∈ mksOf 3 M KS, a.home = b.home) → HG B (SlS ks KS :: StoreR st 3 M :: blk o7 (.cells (orL 0 1 1 0 t' ms).toArray ty_api_Order (0, 0)) :: SlC ty_api_Mark 3 ms ((mksOf 3 M KS).flatMap mkL) :: blk t3 (.cells (txL t).toArray ty_api_Txn (0, 0)) :: txC t' Γ)
      (LdN (⟨o7, 0, none⟩ : Addr) 10 fun t61 =>
    ref09_Right.call t61 3 fun t62 =>
    Ite t62
      (LdN (⟨o7, 0, none⟩ : Addr) 10 fun t64 =>
      order_Single.call t64 fun t65 =>
      Ite one
        (Ld (⟨t3, 0, none⟩ : Addr) (Value.int .i64) fun t69 =>
        law10_RouteRight.s4 q (fun _ _ _ => q true) (t65 == (decide (t69 = 1))))
        (law10_RouteRight.s4 q (fun _ _ _ => q true) (t65 == false)))
      (law10_RouteRight.s4 q (fun _ _ _ => q true) false)) := fun one hone => by
    have hml : (mksOf 3 M KS).length ≤ 80 := by rw [mksOf, List.length_map]; omega
    repeat refine s_nx ?_
    refine right09_hg (t := t') (L := mksOf 3 M KS) hrt' (fun w hw => txC_rd (Γ := Γ) hw.drops) (fun w hw => (own_rd (s := ms) hw).1) ⟨by rw [c3]; omega, by rw [c4]; omega, by omega⟩ ?_ (fun m hm => ?_) ?_
    · rw [← hkk, mksOf, List.map_map]
      exact List.map_id'' (fun _ => rfl) KS
    · obtain ⟨x, _, rfl⟩ := List.mem_map.1 hm
      exact hH.get (by omega) (bs x)
    refine s_t ?_
    repeat refine s_nx ?_
    refine single_hg (t := t') (L := mksOf 3 M KS) (fun w hw => (own_rd (s := ms) hw).1) (by omega) ?_
    have hone2 : decide ((homesM (mksOf 3 M KS)).length = 1) = one := by
      rw [Bool.eq_iff_iff, decide_eq_true_eq, homes_one, hone]
    rw [hone2, c1]
    unfold law10_RouteRight.s4
    refine s_ite (fun ho => ?_) fun ho => ?_
    · repeat refine s_nx ?_
      rw [ho, Bool.and_true, show (decide (t.kind = 1) == decide (t.kind = 1)) = true by simp]
      exact s_end h
    · rw [ho, Bool.and_false]
      exact s_end h
  have fin2 : ∀ (X2 : Bool → Int → Int → K) (one : Bool), (one = true ↔ ∀ a ∈ mksOf 3 M KS, ∀ b ∈ mksOf 3 M KS, a.home = b.home) → HG B (SlS ks KS :: StoreR st 3 M :: blk o7 (.cells (orL 0 1 1 0 t' ms).toArray ty_api_Order (0, 0)) :: SlC ty_api_Mark 3 ms ((mksOf 3 M KS).flatMap mkL) :: blk t3 (.cells (txL t).toArray ty_api_Txn (0, 0)) :: txC t' Γ)
      (LdN (⟨o7, 0, none⟩ : Addr) 10 fun t61 =>
    ref09_Right.call t61 3 fun t62 =>
    Ite t62
      (LdN (⟨o7, 0, none⟩ : Addr) 10 fun t64 =>
      order_Single.call t64 fun t65 =>
      Ite one
        (Ld (⟨t3, 0, none⟩ : Addr) (Value.int .i64) fun t69 =>
        law10_RouteRight.s4 q X2 (t65 == (decide (t69 = 1))))
        (law10_RouteRight.s4 q X2 (t65 == false)))
      (law10_RouteRight.s4 q X2 false)) := fun X2 one hone => by
    have := fin one hone
    unfold law10_RouteRight.s4 at this ⊢
    exact this
  refine s_end (Δ := SlS ks KS :: StoreR st 3 M :: blk o7 (.cells (orL 0 1 1 0 t' ms).toArray ty_api_Order (0, 0)) :: SlC ty_api_Mark 3 ms ((mksOf 3 M KS).flatMap mkL) :: blk t3 (.cells (txL t).toArray ty_api_Txn (0, 0)) :: txC t' Γ) ?_
  refine s_loopC (α := Bool × Int × Int) (fun x => ∃ i : Nat, x.2.2 = (i : Int) ∧ i ≤ KS.length ∧ (x.1 = true ↔ ∀ a ∈ mksOf 3 M (KS.take i), ∀ b ∈ mksOf 3 M (KS.take i), a.home = b.home) ∧ (i = 0 ∧ x.2.1 = -1 ∨ 0 ≤ x.2.1 ∧ ∃ m ∈ mksOf 3 M (KS.take i), m.home = x.2.1)) (fun x => KS.length - x.2.2.toNat) ⟨0, rfl, Nat.zero_le _, by simp [mksOf], .inl ⟨rfl, rfl⟩⟩ fun k' x hx hk' => ?_
  obtain ⟨one, home, _⟩ := x
  obtain ⟨i, rfl, hi, hone, hhome⟩ := hx
  simp only at hone hhome hk' ⊢
  unfold law10_RouteRight.b2
  refine s_ite (fun hb => ?_) fun hb => ?_
  rotate_left
  · have hil : i = KS.length := by simp only [decide_eq_false_iff_not] at hb; omega
    rw [hil, List.take_length] at hone
    exact fin2 _ one hone
  have hil : i < KS.length := by simp only [decide_eq_true_eq] at hb; omega
  have hge : KS[i]? = some KS[i] := List.getElem?_eq_getElem hil
  have hmem : KS[i] ∈ KS := List.getElem_mem hil
  have htk : mksOf 3 M (KS.take (i + 1)) = mksOf 3 M (KS.take i) ++ [mkOf 3 M KS[i]] := by
    rw [List.take_succ_eq_append_getElem hil, mksOf, List.map_append]; rfl
  generalize KS[i] = x at hge hmem htk
  have hxl := hks x hmem
  have hsz : (bs x).size = x.length := rfl
  refine s_idxS (L := KS) (fun w hw => (own_rd (s := ks) hw).1) hge ?_
  refine s_own st ?_
  refine storeGet_spec (by omega) fun sl hok => ?_
  have hhx := hH.get (by omega) (bs x)
  have hmx : (mkOf 3 M x).home = (sGet 3 M (bs x)).home := rfl
  refine s_fld (x := (sGet 3 M (bs x)).home) ?_
  generalize (sGet 3 M (bs x)).home = hx at hhx hmx
  have next : ∀ one' : Bool, (one' = true ↔ one = true ∧ (i = 0 ∨ home = hx)) → HG B (Bytes ty_uint8 sl (sGet 3 M (bs x)).val :: SlS ks KS :: StoreR st 3 M :: blk o7 (.cells (orL 0 1 1 0 t' ms).toArray ty_api_Order (0, 0)) :: SlC ty_api_Mark 3 ms ((mksOf 3 M KS).flatMap mkL) :: blk t3 (.cells (txL t).toArray ty_api_Txn (0, 0)) :: txC t' Γ) (law10_RouteRight.s3 q (fun one8_2 home9_2 t41_2 => k' (one8_2, home9_2, t41_2)) ⟨t3, 0, none⟩ (some ⟨st, 0, none⟩) ⟨o7, 0, none⟩ one' hx ks (ks.n : Int) (i : Int)) := fun one' hone' => by
    unfold law10_RouteRight.s3
    refine s_ai ?_
    refine s_end (hk' (one', hx, (i : Int) + 1) ⟨i + 1, by simp, hil, ?_, .inr ⟨hhx.1, mkOf 3 M x, by rw [htk]; simp, hmx⟩⟩ (by simp only; omega))
    simp only
    rw [hone', hone, htk]
    constructor
    · rintro ⟨g1, g2⟩ a ha b hb
      have key : ∀ a ∈ mksOf 3 M (KS.take i) ++ [mkOf 3 M x], a.home = hx := fun a ha => by
        rcases List.mem_append.1 ha with ha | ha
        · rcases g2 with g2 | g2
          · rw [g2] at ha; simp [mksOf] at ha
          · rcases hhome with ⟨h0, _⟩ | ⟨_, m, hm, hm2⟩
            · rw [h0] at ha; simp [mksOf] at ha
            · rw [g1 a ha m hm, hm2, g2]
        · rw [List.mem_singleton.1 ha]; exact hmx
      rw [key a ha, key b hb]
    · intro g
      refine ⟨fun a ha b hb => g a (List.mem_append_left _ ha) b (List.mem_append_left _ hb), ?_⟩
      rcases hhome with ⟨h0, _⟩ | ⟨_, m, hm, hm2⟩
      · exact .inl h0
      · refine .inr ?_
        rw [← hm2, ← hmx]
        exact g m (List.mem_append_left _ hm) _ (by simp)
  refine s_ite (fun hc => ?_) fun hc => ?_
  · subst hc
    refine s_ite (fun hd => ?_) fun hd => ?_
    · have hd' : home < 0 := by simpa using hd
      refine s_end (next true ?_)
      rcases hhome with ⟨h0, _⟩ | ⟨h0, _⟩
      · simp [h0]
      · omega
    · have hd' : ¬ home < 0 := by simpa using hd
      refine s_end (next (decide (home = hx)) ?_)
      rcases hhome with ⟨_, h0⟩ | ⟨h0, m, hm, _⟩
      · omega
      · have : i ≠ 0 := by
          rintro rfl
          simp [mksOf] at hm
        simp [this]
  · subst hc
    refine s_end (next false ?_)
    simp
end
end Go.Proofs.YtfjjocopmknhgaaGreat

namespace Go.Proofs.YtfjjocopmknhgaaGreat
open Go Go.Sep Go.RowKit
theorem RouteRight_walk (W : World) (s0 : Sl) (y0 : Rdy W Sh_ty_s_argosylaw10_Move (Sl.val s0).cells.toList) (c1 : Array Value) (y1 : Rdy W Sh_ty_api_Txn (Value.agg c1).cells.toList) (h1 : c1.size = 5) :
    Calls Tryz.prog 3 #[s0.val, .agg c1] W (Ret fun v w' => v = .bool true ∧ Below W.heap.size W w') := by
  obtain ⟨L0, hL0, _⟩ := rdy_moves y0
  obtain ⟨t, rfl, ht, _⟩ := rdy_txn h1 y1
  exact law_call (RouteRight_hg (Γ := []) hL0 ht (fun w h => ⟨rfl, h⟩) W (Holds.start W))
end Go.Proofs.YtfjjocopmknhgaaGreat
