/- A B-tree, whatever its keys and values: the plain forms of its functions (printed by tools/mkbt.py), and what they do. Holds for every program. -/
import Derived.Test.YtfjjocopmknhgaaHg3
namespace Go.Sep
open Go Go.RowKit
set_option linter.unusedSimpArgs false
set_option linter.unusedVariables false
namespace Bt

/-- What a tree's functions are told of types and of each other. -/
structure BtT (κ : Type) where
  P : Program
  tI : Nat
  tSI : Nat
  tV : Nat
  tK : Nat
  tSK : Nat
  tN : Nat
  tT : Nat
  nv : Nat
  kz : Value
  vz : List Value
  kV : κ → Value
  cv : Value
  bsC : Sl → κ → Value → (Int → Bool → K) → K
  nsearchC : Option Addr → κ → (Int → Bool → K) → K
  nputC : Option Addr → Array Value → (Array Value → Bool → Option Addr → Option Addr → K) → K
  insIC : Sl → Int → Sl → (Sl → K) → K
  insKC : Sl → Int → Sl → (Sl → K) → K
  cloneIC : Sl → (Sl → K) → K
  cloneKC : Sl → (Sl → K) → K

section
variable {κ : Type}
def tnew (G : BtT κ)  (Q : (Option Addr) → K) : K :=
  New G.tN #[(Sl.val ⟨none, 0, 0⟩), (Sl.val ⟨none, 0, 0⟩)] fun t2 =>
  New G.tT #[(.pointer (some t2)), (.int .i64 0)] fun t4 =>
  Q (some t4)
def nsearch (G : BtT κ) (n0 : (Option Addr)) (key1 : κ) (Q : Int → Bool → K) : K :=
  Nn n0 fun t7 =>
  Ld t7 Sl.val fun t9 =>
  G.bsC t9 key1 G.cv fun t11x0 t11x1 =>
  Q t11x0 t11x1
def tget_b1 (G : BtT κ) (Q : (Array Value) → Bool → K)  (X1 : (Option Addr) → K) (key1_1 : κ) (value4_1 : Addr) (n6_1 : (Option Addr)) : K :=
  G.nsearchC n6_1 key1_1 fun t16x0 t16x1 =>
  Ite t16x1
    (Nn n6_1 fun t21 =>
    Ld t21 Sl.val fun t23 =>
    Idx t23 t16x0 (G.nv + 1) fun t25 =>
    LdN (t25.add 1) G.nv fun t27 =>
    StN value4_1 G.nv t27 <|
    LdN value4_1 G.nv fun r0 =>
    Q r0 true)
    (Nn n6_1 fun t29 =>
    Ld (t29.add 1) Sl.val fun t31 =>
    Ite (decide ((t31.n : Int) = 0))
      (LdN value4_1 G.nv fun t34 =>
      StN value4_1 G.nv t34 <|
      LdN value4_1 G.nv fun r0 =>
      Q r0 false)
      (Ld (t29.add 1) Sl.val fun t38 =>
      Idx t38 t16x0 1 fun t40 =>
      Ld t40 Value.pointer fun t41 =>
      X1 t41))
def tget (G : BtT κ) (t0 : (Option Addr)) (key1 : κ) (Q : (Array Value) → Bool → K) : K :=
  New G.tV G.vz.toArray fun value4 =>
  Nn t0 fun t10 =>
  Ld t10 Value.pointer fun t12 =>
  LoopK (α := (Option Addr)) (fun X x => tget_b1 G Q X key1 value4 x) t12
def nput_s2 (G : BtT κ) (Q : (Array Value) → Bool → (Option Addr) → (Option Addr) → K)  (old4_2 : Addr) (had5_2 : Bool) (right7_2 : Addr) (m12_2 : Addr) : K :=
  LdN old4_2 G.nv fun t153 =>
  StN old4_2 G.nv t153 <|
  LdN old4_2 G.nv fun r0 =>
  Q r0 had5_2 (some m12_2) (some right7_2)
def nput_s1 (G : BtT κ) (Q : (Array Value) → Bool → (Option Addr) → (Option Addr) → K)  (n0_1 : (Option Addr)) (old4_1 : Addr) (had5_1 : Bool) : K :=
  Nn n0_1 fun t101 =>
  Ld t101 Sl.val fun t103 =>
  Ite (decide ((t103.n : Int) ≤ 5))
    (LdN old4_1 G.nv fun t106 =>
    StN old4_1 G.nv t106 <|
    LdN old4_1 G.nv fun r0 =>
    Q r0 had5_1 none none)
    (Ld t101 Sl.val fun t111 =>
    Idx t111 2 (G.nv + 1) fun t112 =>
    LdN t112 (G.nv + 1) fun t113 =>
    New G.tI (G.kz :: G.vz).toArray fun m12 =>
    StN m12 (G.nv + 1) t113 <|
    Ld t101 Sl.val fun t117 =>
    Slc t117 3 (t117.n : Int) (t117.c : Int) (G.nv + 1) fun t118 =>
    G.cloneIC t118 fun t119 =>
    New G.tN #[(Sl.val t119), (Sl.val ⟨none, 0, 0⟩)] fun t121 =>
    Ld t101 Sl.val fun t126 =>
    Slc t126 0 2 2 (G.nv + 1) fun t127 =>
    St t101 (Sl.val t127) <|
    Ld (t101.add 1) Sl.val fun t133 =>
    Ite (decide ((0 : Int) < (t133.n : Int)))
      (Ld (t101.add 1) Sl.val fun t140 =>
      Slc t140 3 (t140.n : Int) (t140.c : Int) 1 fun t141 =>
      G.cloneKC t141 fun t142 =>
      St (t121.add 1) (Sl.val t142) <|
      Ld (t101.add 1) Sl.val fun t149 =>
      Slc t149 0 3 3 1 fun t150 =>
      St (t101.add 1) (Sl.val t150) <|
      nput_s2 G Q old4_1 had5_1 t121 m12)
      (nput_s2 G Q old4_1 had5_1 t121 m12))
def nput (G : BtT κ) (n0 : (Option Addr)) (x1 : (Array Value)) (Q : (Array Value) → Bool → (Option Addr) → (Option Addr) → K) : K :=
  New G.tI x1 fun x3 =>
  New G.tV G.vz.toArray fun old4 =>
  Ld x3 G.kV fun t16 =>
  G.nsearchC n0 t16 fun t17x0 t17x1 =>
  Ite t17x1
    (Nn n0 fun t64 =>
    Ld t64 Sl.val fun t66 =>
    Idx t66 t17x0 (G.nv + 1) fun t68 =>
    LdN (t68.add 1) G.nv fun t70 =>
    StN old4 G.nv t70 <|
    Dr <|
    Ld t64 Sl.val fun t74 =>
    LdN (x3.add 1) G.nv fun t77 =>
    Idx t74 t17x0 (G.nv + 1) fun t78 =>
    StN (t78.add 1) G.nv t77 <|
    LdN old4 G.nv fun t80 =>
    StN old4 G.nv t80 <|
    LdN old4 G.nv fun r0 =>
    Q r0 true none none)
    (Nn n0 fun t84 =>
    Ld (t84.add 1) Sl.val fun t86 =>
    Ite (decide ((t86.n : Int) = 0))
      (Dr <| WithS fun S =>
      LdS S t84 Sl.val fun t93 =>
      LdNS S x3 (G.nv + 1) fun t95 =>
      Bld (G.kz :: G.vz).toArray (fun i => some (i * (G.nv + 1), (G.nv + 1))) [(0, (.agg t95))] fun ct96 =>
      New G.tI ct96 fun t96 =>
      Sv S <|
      G.insIC t93 t17x0 (Sl.mk (some t96) 1 1) fun t97 =>
      St t84 (Sl.val t97) <|
      nput_s1 G Q (some t84) old4 false)
      (Dr <|
      Ld (t84.add 1) Sl.val fun t24 =>
      Idx t24 t17x0 1 fun t26 =>
      Ld t26 Value.pointer fun t27 =>
      LdN x3 (G.nv + 1) fun t28 =>
      G.nputC t27 t28 fun t29x0 t29x1 t29x2 t29x3 =>
      StN old4 G.nv t29x0 <|
      Ite (!(t29x2).isNone)
        (Dr <| WithS fun S =>
        Nn t29x2 fun t43 =>
        LdS S t84 Sl.val fun t40 =>
        LdNS S t43 (G.nv + 1) fun t44 =>
        Bld (G.kz :: G.vz).toArray (fun i => some (i * (G.nv + 1), (G.nv + 1))) [(0, (.agg t44))] fun ct45 =>
        New G.tI ct45 fun t45 =>
        Sv S <|
        G.insIC t40 t17x0 (Sl.mk (some t45) 1 1) fun t46 =>
        St t84 (Sl.val t46) <|
        Ld (t84.add 1) Sl.val fun t53 =>
        Ar (IntKind.wrap .i64 (t17x0 + 1)) fun t55 =>
        New G.tK #[(.pointer t29x3)] fun t57 =>
        G.insKC t53 t55 (Sl.mk (some t57) 1 1) fun t58 =>
        St (t84.add 1) (Sl.val t58) <|
        nput_s1 G Q (some t84) old4 t29x1)
        (nput_s1 G Q (some t84) old4 t29x1)))
def tput_s3 (G : BtT κ) (Q : (Array Value) → Bool → K)  (t6_3 : Addr) (old8_3 : Addr) (had9_3 : Bool) : K :=
  LdN old8_3 G.nv fun t51 =>
  StN t6_3 G.nv t51 <|
  LdN t6_3 G.nv fun r0 =>
  Q r0 had9_3
def tput_s2 (G : BtT κ) (Q : (Array Value) → Bool → K)  (t0_2 : (Option Addr)) (t6_2 : Addr) (old8_2 : Addr) (had9_2 : Bool) : K :=
  Ite (!had9_2)
    (Nn t0_2 fun t45 =>
    Ld (t45.add 1) (Value.int .i64) fun t47 =>
    Ar (IntKind.wrap .i64 (t47 + 1)) fun t48 =>
    St (t45.add 1) (.int .i64 t48) <|
    tput_s3 G Q t6_2 old8_2 had9_2)
    (tput_s3 G Q t6_2 old8_2 had9_2)
def tput_s1 (G : BtT κ) (Q : (Array Value) → Bool → K)  (t0_1 : (Option Addr)) (t6_1 : Addr) (old8_1 : Addr) (had9_1 : Bool) (mid10_1 : (Option Addr)) (right11_1 : (Option Addr)) : K :=
  Ite (!(mid10_1).isNone)
    (Dr <| WithS fun S =>
    Nn mid10_1 fun t29 =>
    Nn t0_1 fun t33 =>
    LdNS S t29 (G.nv + 1) fun t30 =>
    LdS S t33 Value.pointer fun t35 =>
    All [
      (Bld (G.kz :: G.vz).toArray (fun i => some (i * (G.nv + 1), (G.nv + 1))) [(0, (.agg t30))] fun ct31 =>
      New G.tI ct31 fun t31 =>
      Sv S <|
      New G.tK #[(.pointer t35), (.pointer right11_1)] fun t37 =>
      Sv S <|
      New G.tN #[(Sl.val (Sl.mk (some t31) 1 1)), (Sl.val (Sl.mk (some t37) 2 2))] fun t39 =>
      St t33 (.pointer (some t39)) <|
      tput_s2 G Q (some t33) t6_1 old8_1 had9_1),
      (New G.tK #[(.pointer t35), (.pointer right11_1)] fun t37 =>
      Sv S <|
      Bld (G.kz :: G.vz).toArray (fun i => some (i * (G.nv + 1), (G.nv + 1))) [(0, (.agg t30))] fun ct31 =>
      New G.tI ct31 fun t31 =>
      Sv S <|
      New G.tN #[(Sl.val (Sl.mk (some t31) 1 1)), (Sl.val (Sl.mk (some t37) 2 2))] fun t39 =>
      St t33 (.pointer (some t39)) <|
      tput_s2 G Q (some t33) t6_1 old8_1 had9_1)
      ])
    (tput_s2 G Q t0_1 t6_1 old8_1 had9_1)
def tput (G : BtT κ) (t0 : (Option Addr)) (key1 : κ) (value2 : (Array Value)) (Q : (Array Value) → Bool → K) : K :=
  New G.tV value2 fun value5 =>
  New G.tV G.vz.toArray fun t6 =>
  Dr <| WithS fun S =>
  Nn t0 fun t14 =>
  LdS S t14 Value.pointer fun t16 =>
  LdNS S value5 G.nv fun t18 =>
  Bld (G.kz :: G.vz).toArray ([(0, 1), (1, G.nv)][·]?) [(0, (G.kV key1)), (1, (.agg t18))] fun t19 =>
  All [
    (G.nputC t16 t19 fun t20x0 t20x1 t20x2 t20x3 =>
    New G.tV G.vz.toArray fun old8 =>
    StN old8 G.nv t20x0 <|
    tput_s1 G Q (some t14) t6 old8 t20x1 t20x2 t20x3),
    (New G.tV G.vz.toArray fun old8 =>
    Sv S <|
    G.nputC t16 t19 fun t20x0 t20x1 t20x2 t20x3 =>
    StN old8 G.nv t20x0 <|
    tput_s1 G Q (some t14) t6 old8 t20x1 t20x2 t20x3)
    ]
end

/-- A value's cells. -/
abbrev Cel (n : Nat) := {l : List Value // l.length = n ∧ l.all flatV = true}
section
variable {κ : Type} (G : BtT κ)
abbrev BtT.It := κ × Cel G.nv
def BtT.f (x : G.It) : List Value := G.kV x.1 :: x.2.1
abbrev BtT.z0 (h : G.vz.length = G.nv ∧ G.vz.all flatV = true) : Cel G.nv := ⟨G.vz, h⟩
theorem BtT.f_len (x : G.It) : (G.f x).length = G.nv + 1 := by simp [BtT.f, x.2.2.1]

/-- What is asked of a tree's functions, and of how keys are compared. -/
structure BtOk (c : κ → κ → Int) : Prop where
  kf : ∀ k, flatV (G.kV k) = true
  kzf : flatV G.kz = true
  vz : G.vz.length = G.nv ∧ G.vz.all flatV = true
  TI : appT G.P G.tSI G.tSI G.tI (G.nv + 1) = true
  ZI : apZT G.P G.tSI 3 G.tI (G.nv + 1) = true
  TK : appT G.P G.tSK G.tSK G.tK 1 = true
  ZK : apZT G.P G.tSK 3 G.tK 1 = true
  tr : ∀ {a b d}, c a b < 0 → c b d < 0 → c a d < 0
  eq : ∀ {a b}, c a b = 0 ↔ a = b
  sw : ∀ {a b}, c a b < 0 ↔ 0 < c b a
  cmp : ∀ {B : World} {Γ : List HProp} (a b : κ) (vs : List Value) (q : Int → K), vs.length = G.nv → HG B Γ (q (c a b)) → HG B Γ (CallV G.P G.cv [(.agg (G.kV a :: vs).toArray), G.kV b] (Ans1 (fun (t : Int) => (Value.int .i64) t) q))
  bs : ∀ s k Q w, bsK G.P (G.nv + 1) s (G.kV k) G.cv Q w → G.bsC s k G.cv Q w
  search : ∀ n k Q w, nsearch G n k Q w → G.nsearchC n k Q w
  put : ∀ n x Q w, nput G n x Q w → G.nputC n x Q w
  insI : ∃ R rot, ∀ s i v Q w, insK G.P G.tSI 3 R (G.nv + 1) rot s i v Q w → G.insIC s i v Q w
  insK : ∃ R rot, ∀ s i v Q w, insK G.P G.tSK 3 R 1 rot s i v Q w → G.insKC s i v Q w
  cloneI : ∀ s Q w, cloneK G.P G.tI G.tSI s Q w → G.cloneIC s Q w
  cloneK : ∀ s Q w, cloneK G.P G.tK G.tSK s Q w → G.cloneKC s Q w
end

section
variable {κ : Type} {G : BtT κ} {c : κ → κ → Int} {B : World} {Γ Δ : List HProp}
/-- Keys rise. -/
def Srt (c : κ → κ → Int) {ν : Type} (L : List (κ × ν)) : Prop := L.Pairwise fun x y => c x.1 y.1 < 0
theorem f_flat (ok : BtOk G c) (x : G.It) : ∀ v ∈ G.f x, flatV v = true := fun v hv => by
  rcases List.mem_cons.1 hv with rfl | hv
  · exact ok.kf _
  · exact List.all_eq_true.1 x.2.2.2 v hv
theorem fl_flat (ok : BtOk G c) (L : List G.It) : ∀ v ∈ L.flatMap G.f, flatV v = true := fun v hv => by
  obtain ⟨x, _, hx⟩ := List.mem_flatMap.1 hv
  exact f_flat ok x v hx
theorem cc (ok : BtOk G c) {a b : κ} (h : 0 < c a b) (h2 : c a b < 0) : False := by omega

theorem s_search (ok : BtOk G c) {b : Nat} {s kd : Sl} {its : List G.It} {k : κ} {Q : Int → Bool → K} [p : Own b Γ (blk b (.cells [s.val, kd.val].toArray G.tN (0, 0))) Δ] {Δ2 : List HProp} [q : OwnS s Γ (SlC G.tI (G.nv + 1) s (its.flatMap G.f)) Δ2]
    (hs : Srt c its) (hl : its.length ≤ 1000) (hfound : ∀ A v C, its = A ++ (k, v) :: C → HG B Γ (Q A.length true)) (hnot : ∀ A C, its = A ++ C → (∀ x ∈ A, c x.1 k < 0) → (∀ x ∈ C, c k x.1 < 0) → HG B Γ (Q A.length false)) :
    HG B Γ (G.nsearchC (some ⟨b, 0, none⟩) k Q) := by
  refine fun w hw => ok.search _ _ _ _ ?_
  refine hg hw ?_
  clear hw w
  unfold nsearch
  refine s_nn ?_
  refine s_ld (b := b) (x := s) ?_
  refine fun w hw => ok.bs _ _ _ _ ?_
  refine hg hw ?_
  clear hw w
  obtain ⟨A, C, hAC, hA, hC⟩ : ∃ A C, its = A ++ C ∧ (∀ x ∈ A, c x.1 k < 0) ∧ ∀ x ∈ C, 0 ≤ c x.1 k := by
    clear hfound hnot q hl
    induction its with
    | nil => exact ⟨[], [], rfl, by simp, by simp⟩
    | cons x L ih =>
      have hs' := List.pairwise_cons.1 hs
      by_cases h : c x.1 k < 0
      · obtain ⟨A, C, h1, h2, h3⟩ := ih hs'.2
        exact ⟨x :: A, C, by rw [h1]; rfl, List.forall_mem_cons.2 ⟨h, h2⟩, h3⟩
      · refine ⟨[], x :: L, rfl, by simp, fun y hy => ?_⟩
        rcases List.mem_cons.1 hy with rfl | hy
        · omega
        · have h1 := hs'.1 y hy
          refine Int.not_lt.1 fun h2 => h (ok.tr h1 h2)
  subst hAC
  have hlen : (A ++ C).length = A.length + C.length := List.length_append
  refine s_bs (s := s) (L := A ++ C) (f := G.f) (c := fun x => c x.1 k) (p := A.length) G.f_len (by omega) (fun i x hx hi => ?_) (fun i x hx hi => ?_) (by omega) (fun x hx q hq => ok.cmp _ _ _ _ x.2.2.1 hq) ?_ (by omega)
  · rw [List.getElem?_append_left hi] at hx
    exact hA x (List.mem_of_getElem? hx)
  · rw [List.getElem?_append_right hi] at hx
    exact hC x (List.mem_of_getElem? hx)
  · have e : (A ++ C)[A.length]? = C.head? := by rw [List.getElem?_append_right (Nat.le_refl _), Nat.sub_self, List.head?_eq_getElem?]
    rw [e]
    cases C with
    | nil => simpa using hnot A [] rfl hA (by simp)
    | cons x C =>
      have hs2 := (List.pairwise_append.1 hs).2.1
      by_cases h0 : c x.1 k = 0
      · have := ok.eq.1 h0
        obtain ⟨xk, v⟩ := x
        simp only at this; subst this
        simpa [h0] using hfound A v C rfl
      · have h1 : 0 < c x.1 k := by have := hC x List.mem_cons_self; omega
        have := hnot A (x :: C) rfl hA (fun y hy => by
          rcases List.mem_cons.1 hy with rfl | hy
          · exact ok.sw.2 h1
          · exact ok.tr (ok.sw.2 h1) ((List.pairwise_cons.1 hs2).1 y hy))
        simpa [h0] using this
end
end Bt
end Go.Sep
