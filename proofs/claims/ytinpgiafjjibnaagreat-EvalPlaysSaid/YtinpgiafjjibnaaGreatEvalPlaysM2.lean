/- Texts of the claim EvalPlays, one behind the other. -/
import Derived.Test.YtinpgiafjjibnaaGreatEvalPlaysM1
import Derived.Test.YtinpgiafjjibnaaGreatProg
/- The library's Insert, Delete and Clone on slices of one's own. Holds for every program. -/
namespace Go.Sep
open Go Go.RowKit
set_option linter.unusedSimpArgs false
set_option linter.unusedVariables false

/-- slices.Insert, as it is printed. -/
def insK (P : Program) (T J R esz : Nat) (rot : Sl → Int → K → K) (s0 : Sl) (i1 : Int) (v2 : Sl) (Q : Sl → K) : K :=
  Slc s0 i1 (s0.n : Int) (s0.c : Int) esz fun _ =>
  Ite (decide ((v2.n : Int) = 0))
    (Q s0)
    (Ite (decide (i1 = (s0.n : Int)))
      (Do P (Builtin.append_ #[T, T] T #[(Sl.val s0), (Sl.val v2)]) Sl.val fun t25 =>
      Q t25)
      (Ar (IntKind.wrap .i64 ((s0.n : Int) + (v2.n : Int))) fun t28 =>
      Do P (Builtin.cap_ #[T] J #[(Sl.val s0)]) (Value.int .i64) fun t30 =>
      Ite (decide (t30 < t28))
        (Slc s0 0 i1 (s0.c : Int) esz fun t34 =>
        Ar (IntKind.wrap .i64 ((s0.n : Int) + (v2.n : Int))) fun t37 =>
        Ar (IntKind.wrap .i64 (t37 - i1)) fun t39 =>
        Do P (Builtin.append_ #[T, J] T #[(Sl.val t34), (.int .i64 t39)]) Sl.val fun t40 =>
        Slc t40 i1 (t40.n : Int) (t40.c : Int) esz fun t43 =>
        Do P (Builtin.copy_ #[T, T] J #[(Sl.val t43), (Sl.val v2)]) (Value.int .i64) fun t45 =>
        Dr <|
        Ar (IntKind.wrap .i64 (i1 + (v2.n : Int))) fun t49 =>
        Slc t40 t49 (t40.n : Int) (t40.c : Int) esz fun t50 =>
        Slc s0 i1 (s0.n : Int) (s0.c : Int) esz fun t53 =>
        Do P (Builtin.copy_ #[T, T] J #[(Sl.val t50), (Sl.val t53)]) (Value.int .i64) fun t54 =>
        Q t40)
        (Ar (IntKind.wrap .i64 ((s0.n : Int) + (v2.n : Int))) fun t59 =>
        Slc s0 0 t59 (s0.c : Int) esz fun t60 =>
        Ar (IntKind.wrap .i64 (i1 + (v2.n : Int))) fun t65 =>
        Slc t60 t65 (t60.n : Int) (t60.c : Int) esz fun t66 =>
        Rd P (Extern.SlicesOverlaps.overlaps #[T, T] #[R] [(Sl.val v2), (Sl.val t66)].toArray) Value.bool fun t67 =>
        Ite (!t67)
          (Dr <|
          Ar (IntKind.wrap .i64 (i1 + (v2.n : Int))) fun t72 =>
          Slc t60 t72 (t60.n : Int) (t60.c : Int) esz fun t73 =>
          Slc t60 i1 (t60.n : Int) (t60.c : Int) esz fun t76 =>
          Do P (Builtin.copy_ #[T, T] J #[(Sl.val t73), (Sl.val t76)]) (Value.int .i64) fun t77 =>
          Slc t60 i1 (t60.n : Int) (t60.c : Int) esz fun t80 =>
          Do P (Builtin.copy_ #[T, T] J #[(Sl.val t80), (Sl.val v2)]) (Value.int .i64) fun t82 =>
          Q t60)
          (Slc t60 (s0.n : Int) (t60.n : Int) (t60.c : Int) esz fun t86 =>
          Do P (Builtin.copy_ #[T, T] J #[(Sl.val t86), (Sl.val v2)]) (Value.int .i64) fun t88 =>
          Slc t60 i1 (t60.n : Int) (t60.c : Int) esz fun t91 =>
          rot t91 (v2.n : Int) <|
          Q t60))))
/-- slices.Delete, as it is printed. -/
def delK (P : Program) (T Z esz : Nat) (s0 : Sl) (i1 j2 : Int) (Q : Sl → K) : K :=
  Slc s0 i1 j2 (s0.n : Int) esz fun _ =>
  Ite (decide (i1 = j2))
    (Q s0)
    (Dr <|
    Slc s0 0 i1 (s0.c : Int) esz fun t22 =>
    Slc s0 j2 (s0.n : Int) (s0.c : Int) esz fun t25 =>
    Do P (Builtin.append_ #[T, T] T #[(Sl.val t22), (Sl.val t25)]) Sl.val fun t26 =>
    Slc t26 (t26.n : Int) (s0.n : Int) (t26.c : Int) esz fun t31 =>
    Do P (Builtin.clear_ #[T] Z #[(Sl.val t31)]) id fun _ =>
    Q t26)
/-- slices.Clone, as it is printed. -/
def cloneK (P : Program) (E T : Nat) (s0 : Sl) (Q : Sl → K) : K :=
  Ite ((s0).a.isNone)
    (Q (Sl.mk none 0 0))
    (New E #[] fun t5 =>
    Do P (Builtin.append_ #[T, T] T #[(Sl.val (Sl.mk (some t5) 0 0)), (Sl.val s0)]) Sl.val fun t7 =>
    Q t7)

theorem layAt_mid {A X C us : List Value} {p : Nat} (hp : p = A.length) (h : X.length = us.length) : layAt (A ++ (X ++ C)) p us = A ++ (us ++ C) := by
  subst hp
  simp only [layAt, List.take_left, List.append_assoc, List.append_cancel_left_eq]
  rw [← h, List.drop_append, List.drop_eq_nil_of_le (by omega), List.nil_append, show A.length + X.length - A.length = X.length by omega, List.drop_left]

section
variable {P : Program} {B w : World} {Γ Δ Δ2 : List HProp} {E esz : Nat} {s x : Sl} {vs us : List Value}

theorem s_ovl {T R t l : Nat} {d : Sl} {cs : List Value} {k : Bool → K} (hd : d = ⟨cutA s.a l s.c esz, s.n - l, s.c - l⟩) (h : HG B Γ (k false)) [p : OwnS s Γ (SlC E esz s vs) Δ] [q : Own t Δ (blk t (.cells cs.toArray E (0, 0))) Δ2] (hc : 0 < s.c) (he : 0 < esz) (hT : appT P T T E esz = true) :
    HG B Γ (Rd P (Extern.SlicesOverlaps.overlaps #[T, T] #[R] [(Sl.val ⟨some ⟨t, 0, none⟩, 1, 1⟩), (Sl.val d)].toArray) Value.bool k) := fun w hw => by
  obtain ⟨hs1, _⟩ := appT_spec hT
  obtain ⟨hsl, hsz⟩ := sliceT_spec hs1
  obtain ⟨_, _, hsp, hnil⟩ := own_cap hw p
  have h1 := hw.perm (p.perm.trans (q.perm.cons _))
  cases ha : s.a with
  | none => have := hnil ha; omega
  | some a =>
    obtain ⟨cs2, fz, h2, _, _, hsz2, _, _, _⟩ := slOpen h1 ha
    have hb2 := h2.block
    have hb1 := h2.swap.block
    have hne := h2.swap.apart
    obtain ⟨b, off, sp⟩ := a
    have hsp' := hsp _ ha
    simp only at hsp'; subst hsp'
    simp only at hb2 hne hsz2
    have hmul : 0 < s.c * esz := Nat.mul_pos hc he
    refine ⟨false, ?_, h w hw⟩
    have hcut : ∃ o, cutA s.a l s.c esz = some ⟨b, o, none⟩ := by
      rw [ha]; unfold cutA
      split
      · exact ⟨_, rfl⟩
      · exact ⟨_, by simp only [Option.map_some, add_mk]; rfl⟩
    obtain ⟨o, ho⟩ := hcut
    subst hd
    simp only [Sl.val, ho]
    exact Go.Lib.run_overlaps_apart w T R E hsl esz (fun w => sizeT_spec hsz) ⟨t, 0, none⟩ ⟨b, o, none⟩ 1 1 _ _ hne E E cs.toArray.size cs2.size (by simp [World.shape?, hb1]) (by simp [World.shape?, hb2]) (by omega) (by simp [World.frozen?, hb1]) (by simp [World.frozen?, hb1])

theorem blk_rd {t : Nat} {cs : List Value} {T : TypeId} {k : Nat} (he : cs.length = esz) [q : Own t Γ (blk t (.cells cs.toArray T (0, 0))) Δ] : ∀ w, Holds B Γ w → RdC w ⟨some ⟨t, 0, none⟩, 1, k⟩ esz cs := fun w hw =>
  RdC.of_blk (E := T) (hw.perm q.perm) List.mem_cons_self (by simp) (by simpa using he) k
theorem flat_take {n : Nat} (h : ∀ v ∈ vs, flatV v = true) : ∀ v ∈ vs.take n, flatV v = true := fun v hv => h v (List.mem_of_mem_take hv)
theorem flat_drop {n : Nat} (h : ∀ v ∈ vs, flatV v = true) : ∀ v ∈ vs.drop n, flatV v = true := fun v hv => h v (List.mem_of_mem_drop hv)
theorem cutA_spot {a : Option Addr} {l m : Nat} (h : ∀ b, a = some b → b.spot = none) : ∀ b, cutA a l m esz = some b → b.spot = none := fun b hb => by
  unfold cutA at hb
  split at hb
  · exact h b hb
  · cases ha : a with
    | none => rw [ha] at hb; cases hb
    | some c =>
      rw [ha] at hb
      obtain ⟨cb, co, cs⟩ := c
      have := h _ ha
      simp only at this; subst this
      simp only [Option.map_some, add_mk, Option.some.injEq] at hb
      rw [← hb]
/-- One more among a slice's elements. -/
theorem s_ins {T J R i t : Nat} {rot : Sl → Int → K → K} {Q : Sl → K} (hi : i ≤ s.n) (hn : s.n < 50000000) (he : us.length = esz) (he0 : 0 < esz) (hvf : ∀ v ∈ vs, flatV v = true) (huf : ∀ v ∈ us, flatV v = true)
    (h : ∀ s', s'.n = s.n + 1 → HG B (SlC E esz s' (vs.take (i * esz) ++ us ++ vs.drop (i * esz)) :: Δ2) (Q s')) [p : OwnS s Γ (SlC E esz s vs) Δ] [q : Own t Δ (blk t (.cells us.toArray E (0, 0))) Δ2] (hT : appT P T T E esz = true) (hJ : apZT P T J E esz = true) :
    HG B Γ (insK P T J R esz rot s i ⟨some ⟨t, 0, none⟩, 1, 1⟩ Q) := by
  refine fun w hw => ?_
  refine hg (hw.perm (p.perm.trans (q.perm.cons _))) ?_
  clear hw w p q
  refine s_cap s fun h1 h2 h3 h4 => ?_
  unfold insK
  dsimp only
  refine s_slc (lo := i) (hi := s.n) (mx := s.c) ?_
  refine s_f ?_
  refine s_ite (fun hb => ?_) fun hb => ?_
  · have hin : i = s.n := by simp only [decide_eq_true_eq] at hb; omega
    refine s_append (us := us) (blk_rd he) huf (by simp only; omega) (hT := hT) fun s' hs' => ?_
    have e1 : vs.take (i * esz) = vs := List.take_of_length_le (by rw [h1, hin]; exact Nat.le_refl _)
    have e2 : vs.drop (i * esz) = [] := List.drop_eq_nil_of_le (by rw [h1, hin]; exact Nat.le_refl _)
    have h5 := h s' (by simpa using hs')
    rw [e1, e2, List.append_nil] at h5
    exact s_end (Δ := SlC E esz s' (vs ++ us) :: Δ2) h5
  have hin : i < s.n := by simp only [decide_eq_false_iff_not] at hb; omega
  have hsa : ∃ a, s.a = some a := by
    cases ha : s.a with
    | none => have := h4 ha; omega
    | some a => exact ⟨a, rfl⟩
  have hle : i * esz ≤ s.n * esz := Nat.mul_le_mul_right _ hi
  have hle1 : (i + 1) * esz ≤ s.n * esz := Nat.mul_le_mul_right _ hin
  have hx1 : (s.n + 1) * esz = s.n * esz + esz := by rw [Nat.add_mul, Nat.one_mul]
  have hx2 : (i + 1) * esz = i * esz + esz := by rw [Nat.add_mul, Nat.one_mul]
  have hx3 : (s.n + 1 - i) * esz = s.n * esz + esz - i * esz := by rw [Nat.sub_mul, hx1]
  have hx4 : (s.n + 1 - (i + 1)) * esz = s.n * esz - i * esz := by rw [show s.n + 1 - (i + 1) = s.n - i by omega, Nat.sub_mul]
  have hvs : vs = vs.take (i * esz) ++ vs.drop (i * esz) := (List.take_append_drop _ _).symm
  have hA : (vs.take (i * esz)).length = i * esz := take_mul h1 hi
  have hC : (vs.drop (i * esz)).length = s.n * esz - i * esz := by rw [List.length_drop, h1]
  have hvfa := flat_take (n := i * esz) hvf
  have hvfc := flat_drop (n := i * esz) hvf
  refine s_ai ?_
  refine cap_run hT ?_
  refine s_ite (fun hb => ?_) fun hb => ?_
  · have hgrow : s.c < s.n + 1 := by simp only [decide_eq_true_eq] at hb; omega
    refine s_slc (lo := 0) (hi := i) (mx := s.c) ?_
    refine s_ai ?_
    refine s_ai ?_
    rw [cut0 h3]
    have hm : ∀ z : Nat, z = 1 → ((s.n : Int) + (z : Int) - i).toNat = s.n + 1 - i := by omega
    refine s_appZ (s := ⟨s.a, i - 0, s.c - 0⟩) (vs := vs.take (i * esz)) (by omega) (by simp only; omega) (by simp only; omega) (fun s' zs hs' hz hzf => ?_) (fun w hw => (own_rd hw (p := ownS_sl)).1.take (by omega)) (by simp only; omega) (hT := hJ)
    simp only [Nat.sub_zero] at hs'
    have hs'n : s'.n = s.n + 1 := by have := hm _ rfl; omega
    refine s_cap s' fun h5 h6 h7 h8 => ?_
    refine s_slc (lo := i) (hi := s'.n) (mx := s'.c) ?_
    rw [hm _ rfl] at hz hs'
    refine s_copy (s := s') (l := i) (us := us) (blk_rd he) (flat_take huf) rfl (by omega) (hT := hT) ?_
    refine s_dr ?_
    refine s_ai ?_
    refine s_slc (lo := i + 1) (hi := s'.n) (mx := s'.c) ?_
    refine s_slc (lo := i) (hi := s.n) (mx := s.c) ?_
    refine s_copy (s := s') (l := i + 1) (us := vs.drop (i * esz)) (fun w hw => (own_rd (s := s) hw).1.drop hi h2 h3) (flat_take hvfc) rfl (by omega) (hT := hT) ?_
    have e : layAt (layAt (vs.take (i * esz) ++ zs) (i * esz) (us.take ((s'.n - i) * esz))) ((i + 1) * esz) ((vs.drop (i * esz)).take ((s'.n - (i + 1)) * esz)) = vs.take (i * esz) ++ us ++ vs.drop (i * esz) := by
      rw [hs'n, hx3, hx4, List.take_of_length_le (l := us) (by omega), List.take_of_length_le (l := vs.drop (i * esz)) (by omega)]
      have hz2 : zs = zs.take esz ++ (zs.drop esz ++ []) := by simp
      rw [hz2, layAt_mid hA.symm (by rw [List.length_take, hz]; omega), ← List.append_assoc, layAt_mid (by rw [List.length_append, hA]; omega) (by rw [List.length_drop, hz, hC, hx3]; omega)]
      simp
    rw [e]
    exact s_end (h s' hs'n)
  · have hroom : s.n + 1 ≤ s.c := by simp only [decide_eq_false_iff_not] at hb; omega
    refine s_ai ?_
    refine s_slc (lo := 0) (hi := s.n + 1) (mx := s.c) ?_
    rw [cut0 h3]
    refine s_ext (s := s) (m := 1) hroom fun js hj => ?_
    simp only [Nat.sub_zero]
    generalize hs' : (⟨s.a, s.n + 1, s.c⟩ : Sl) = s'
    have hs'n : s'.n = s.n + 1 := by rw [← hs']
    have hs'c : s'.c = s.c := by rw [← hs']
    have hsp' : ∀ a, s'.a = some a → a.spot = none := by rw [← hs']; exact h3
    refine s_ai ?_
    refine s_slc (lo := i + 1) (hi := s'.n) (mx := s'.c) ?_
    refine s_ovl (s := s') rfl ?_ (by omega) he0 hT
    refine s_t ?_
    refine s_dr ?_
    refine s_ai ?_
    refine s_slc (lo := i + 1) (hi := s'.n) (mx := s'.c) ?_
    refine s_slc (lo := i) (hi := s'.n) (mx := s'.c) ?_
    have hjf : ∀ v ∈ ((vs ++ js).drop (i * esz)).take ((s'.n - (i + 1)) * esz), flatV v = true := fun v hv => by
      rw [List.drop_append_of_le_length (by omega), hs'n, hx4, ← hC, List.take_left] at hv
      exact hvfc v hv
    refine s_cap s' fun h5 h6 h7 h8 => ?_
    refine s_copy (s := s') (l := i + 1) (us := (vs ++ js).drop (i * esz)) (fun w hw => (own_rd (s := s') hw).1.drop (by omega) h6 h7) hjf rfl (by omega) (hT := hT) ?_
    refine s_slc (lo := i) (hi := s'.n) (mx := s'.c) ?_
    refine s_copy (s := s') (l := i) (us := us) (blk_rd he) (flat_take huf) rfl (by omega) (hT := hT) ?_
    have e : layAt (layAt (vs ++ js) ((i + 1) * esz) (((vs ++ js).drop (i * esz)).take ((s'.n - (i + 1)) * esz))) (i * esz) (us.take ((s'.n - i) * esz)) = vs.take (i * esz) ++ us ++ vs.drop (i * esz) := by
      rw [List.drop_append_of_le_length (by omega), hs'n, hx4, ← hC, List.take_left, hx3, List.take_of_length_le (l := us) (by omega)]
      generalize hAA : vs.take (i * esz) = A at *
      generalize hCC : vs.drop (i * esz) = C at *
      have e1 : vs ++ js = (A ++ (C ++ js).take esz) ++ ((C ++ js).drop esz ++ []) := by rw [hvs]; simp
      rw [e1, layAt_mid (by rw [List.length_append, hA, List.length_take, List.length_append]; omega) (by rw [List.length_drop, List.length_append]; omega), List.append_assoc, layAt_mid hA.symm (by rw [List.length_take, List.length_append]; omega)]
      simp
    rw [e]
    exact s_end (h s' hs'n)

/-- Some elements of a slice go. -/
theorem s_del {T Z i j : Nat} {Q : Sl → K} (hij : i < j) (hj : j ≤ s.n) (hn : s.n < 50000000) (hvf : ∀ v ∈ vs, flatV v = true)
    (h : ∀ s', s'.n = s.n - (j - i) → HG B (SlC E esz s' (vs.take (i * esz) ++ vs.drop (j * esz)) :: Δ) (Q s')) [p : OwnS s Γ (SlC E esz s vs) Δ] (hT : appT P T T E esz = true) :
    HG B Γ (delK P T Z esz s i j Q) := by
  refine fun w hw => ?_
  refine hg (hw.perm p.perm) ?_
  clear hw w p
  refine s_cap s fun h1 h2 h3 h4 => ?_
  unfold delK
  refine s_slc (lo := i) (hi := j) (mx := s.n) ?_
  refine s_f ?_
  refine s_dr ?_
  refine s_slc (lo := 0) (hi := i) (mx := s.c) ?_
  refine s_slc (lo := j) (hi := s.n) (mx := s.c) ?_
  rw [cut0 h3]
  intro w hw
  have hx : RdC w ⟨cutA s.a j s.c esz, s.n - j, s.c - j⟩ esz (vs.drop (j * esz)) := (own_rd (s := s) hw).1.drop hj h2 h3
  obtain ⟨g1, g2, by', zv, g3, g4, g5, g6, g7, _⟩ := appT_spec hT
  refine hg (k := fun w => RdC w ⟨cutA s.a j s.c esz, s.n - j, s.c - j⟩ esz (vs.drop (j * esz)) → Do P _ _ _ w) hw (s_shrink (s := s) (m := i) (c' := s.c) (by omega) (by omega) (Nat.le_refl _) fun w hw hx => ?_) hx
  have hroom : (2 * (i + (s.n - j)) + 800) * by' ≤ 2 ^ 48 := by
    have h8 : (2 * (i + (s.n - j)) + 800) * by' ≤ 200000800 * 1000 := Nat.mul_le_mul (by omega) g4
    omega
  obtain ⟨s', w', hr, hh, hn', hsome, hin⟩ := run_append (Tr := T) hw g1 g2 g3 g6 g7 hx (flat_drop hvf) hroom g5
  simp only at hn'
  refine ⟨s', w', by simpa using hr, hg hh ?_⟩
  have hs' := hin (by simp only; omega)
  have hc' : s'.c = s.c := by rw [hs']
  simp only [Nat.sub_zero] at hn' hs' ⊢
  refine s_slc (lo := s'.n) (hi := s.n) (mx := s'.c) ?_
  refine s_clear (s := s') (l := s'.n) (q := s.n - s'.n) (m := s'.c) rfl (Nat.le_refl _) (by omega) (.inr (by omega)) ?_ (hT := hT)
  exact h s' (by omega)
theorem s_clone0 {T : Nat} {Q : Sl → K} (hx : ∀ w, Holds B Γ w → RdC w s esz us) (hfl : ∀ u ∈ us, flatV u = true) (hroom : s.n ≤ 100000000) (h : ∀ s', s'.n = s.n → HG B (SlC E esz s' us :: Γ) (Q s')) (hT : appT P T T E esz = true) :
    HG B Γ (cloneK P E T s Q) := by
  unfold cloneK
  refine fun w hw => ?_
  refine hg hw ?_
  have hr := hx w hw
  refine s_ite (fun hb => ?_) fun hb => ?_
  · have hn := hr.nil (by simpa using hb)
    have hl := hr.len
    rw [hn, Nat.zero_mul] at hl
    have : us = [] := List.length_eq_zero_iff.1 hl
    subst this
    intro w hw
    exact h ⟨none, 0, 0⟩ hn.symm w (hw.nilSl E esz)
  · exact s_clone hx hfl hroom h (hT := hT)
end

/-! ### loops and calls -/
section
variable {P : Program} {B w : World} {Γ Δ : List HProp} {k : K}
theorem least {p : Nat → Prop} (h : ∃ n, p n) : ∃ n, p n ∧ ∀ m, p m → n ≤ m := by
  obtain ⟨n, hn⟩ := h
  induction n using Nat.strongRecOn with
  | ind n ih =>
    by_cases h : ∃ m, m < n ∧ p m
    · obtain ⟨m, h1, h2⟩ := h; exact ih m h1 h2
    · exact ⟨n, hn, fun m hm => Nat.le_of_not_lt fun h2 => h ⟨m, h2, hm⟩⟩
/-- A loop: what is owned, and how much is left to do, may hang on what no value tells. -/
theorem s_loop {α ι : Type} {body : (α → K) → α → K} {x : α} (J : α → ι → Prop) (Γf : α → ι → List HProp) (m : α → ι → Nat) (i : ι) (h0 : J x i)
    (h : ∀ (k' : α → K) x i, J x i → (∀ x' i', J x' i' → m x' i' < m x i → HG B (Γf x' i') (k' x')) → HG B (Γf x i) (body k' x)) (hΓ : Γf x i = Γ := by rfl) : HG B Γ (LoopK body x) := fun w hw => by
  subst hΓ
  let I : α → World → Prop := fun x w => ∃ i, J x i ∧ Holds B (Γf x i) w
  let p : α → World → Nat → Prop := fun x w n => ∃ i, J x i ∧ Holds B (Γf x i) w ∧ m x i = n
  have hp : ∀ x w, I x w → ∃ n, p x w n := fun x w ⟨i, h1, h2⟩ => ⟨_, i, h1, h2, rfl⟩
  let μ : α → World → Nat := fun x w => @dite _ (I x w) (Classical.propDecidable _) (fun h => Classical.choose (least (hp x w h))) fun _ => 0
  have hμ : ∀ x w (h : I x w), p x w (μ x w) ∧ ∀ n, p x w n → μ x w ≤ n := fun x w h => by
    have := Classical.choose_spec (least (hp x w h))
    simpa [μ, h] using this
  refine LoopK.of I μ ⟨i, h0, hw⟩ fun x w hI => ?_
  obtain ⟨i, hj, hw, hm⟩ := (hμ x w hI).1
  refine h _ x i hj (fun x' i' hj' hlt w' hw' => ⟨⟨i', hj', hw'⟩, ?_⟩) w hw
  have := (hμ x' w' ⟨i', hj', hw'⟩).2 _ ⟨i', hj', hw', rfl⟩
  omega
/-- A loop that leaves what is owned. -/
theorem s_loopC {α : Type} {body : (α → K) → α → K} {x : α} (J : α → Prop) (m : α → Nat) (h0 : J x)
    (h : ∀ (k' : α → K) x, J x → (∀ x', J x' → m x' < m x → HG B Γ (k' x')) → HG B Γ (body k' x)) : HG B Γ (LoopK body x) :=
  s_loop (ι := Unit) (fun x _ => J x) (fun _ _ => Γ) (fun x _ => m x) () h0 fun k' x _ hj hk => h k' x hj fun x' hj' hm => hk x' () hj' hm
theorem s_all1 {x : K} (h : HG B Γ x) : HG B Γ (All [x]) := fun w hw => all_cons (h w hw) all_nil
theorem s_all2 {x y : K} (h1 : HG B Γ x) (h2 : HG B Γ y) : HG B Γ (All [x, y]) := fun w hw => all_cons (h1 w hw) (all_cons (h2 w hw) all_nil)
theorem s_callv {g : Nat} {args : List Value} {k : Value → K} (h : HG B Γ (CallF P g args.toArray k)) (hc : callable P g = true := by kernel_rfl) : HG B Γ (CallV P (.func (.func g) #[] #[]) args k) := fun w hw =>
  ⟨g, #[], #[], rfl, hc, by have := h w hw; simpa [CallF] using this⟩
theorem s_callvC {g : Nat} {args cs : List Value} {k : Value → K} (h : HG B Γ (CallF P g (args ++ cs).toArray k)) (hc : callable P g = true := by kernel_rfl) : HG B Γ (CallV P (.func (.func g) #[] cs.toArray) args k) := fun w hw =>
  ⟨g, #[], cs.toArray, rfl, hc, by have := h w hw; simpa [CallF] using this⟩
end

abbrev bs (l : List UInt8) : ByteArray := ⟨l.toArray⟩
abbrev strV (l : List UInt8) : Value := .string (bs l)
theorem bs_of (b : ByteArray) : ∃ l, b = bs l := ⟨b.data.toList, by simp [bs]⟩
theorem bs_list (l : List UInt8) : (bs l).toList = l := by simp
theorem bytesLess_dec : ∀ (x y : List UInt8), Op.bytesLess x y = decide (x < y)
  | [], [] => by simp [Op.bytesLess]
  | _ :: _, [] => by simp [Op.bytesLess]
  | [], _ :: _ => by simp [Op.bytesLess]
  | a :: x, b :: y => by
    rw [Op.bytesLess, bytesLess_dec x y]
    simp only [List.cons_lt_cons_iff]
    by_cases h1 : a < b <;> by_cases h2 : a = b <;> by_cases h3 : x < y <;> simp [h1, h2, h3]
theorem gt_dec (x y : List UInt8) : (!(Op.bytesLess x y || x == y)) = decide (y < x) := by
  rw [bytesLess_dec]
  by_cases h1 : x < y
  · have : ¬ y < x := fun h => List.lt_irrefl x (List.lt_trans h1 h)
    simp [h1, this]
  · by_cases h2 : x = y
    · subst h2; simp [h1]
    · have h3 : y < x := by
        have h4 : y ≤ x := by rw [← List.not_lt]; exact h1
        rcases List.le_iff_lt_or_eq.1 h4 with h5 | h5
        · exact h5
        · exact absurd h5.symm h2
      simp [h1, h2, h3]

section
variable {B w : World} {Γ Δ : List HProp} {k : K} {α : Type} {F : α → HProp} {A C : List α} {x : α}
theorem mid_perm : (((A ++ x :: C).map F) ++ Γ).Perm (((A ++ C).map F) ++ F x :: Γ) := by
  have h2 : ((A ++ x :: C).map F).Perm (F x :: (A ++ C).map F) := (List.perm_middle (a := x) (l₁ := A) (l₂ := C)).map _
  refine (h2.append_right Γ).trans ?_
  exact (List.perm_middle (a := F x) (l₁ := (A ++ C).map F) (l₂ := Γ)).symm
/-- One among several. -/
theorem s_mid (h : HG B (F x :: Sep.stars ((A ++ C).map F) :: Γ) k) : HG B (Sep.stars ((A ++ x :: C).map F) :: Γ) k := fun w hw =>
  h w (Holds.flat.2 ((Holds.flat.1 hw).perm mid_perm)).swap
theorem s_unmid (h : HG B (Sep.stars ((A ++ x :: C).map F) :: Γ) k) : HG B (F x :: Sep.stars ((A ++ C).map F) :: Γ) k := fun w hw =>
  h w (Holds.flat.2 ((Holds.flat.1 hw.swap).perm mid_perm.symm))
end

/-! ### a place is searched -/
/-- slices.BinarySearchFunc, as it is printed. -/
def bsK (P : Program) (esz : Nat) (x0 : Sl) (tv : Value) (cmp2 : Value) (Q : Int → Bool → K) : K :=
  LoopK (α := Int × Int) (fun X x =>
    Ite (decide (x.1 < x.2))
      (Ar (IntKind.wrap .i64 (x.1 + x.2)) fun t20 =>
      Ar (IntKind.wrap .u64 t20) fun t21 =>
      Cd (0 ≤ (1 : Int)) <|
      Ar (shrOf .u64 t21 1) fun t22 =>
      Ar (IntKind.wrap .i64 t22) fun t23 =>
      Idx x0 t23 esz fun t27 =>
      LdN t27 esz fun t28 =>
      CallV P cmp2 [(.agg t28), tv] <| Ans1 (fun (t30 : Int) => (Value.int .i64) t30) fun t30 =>
      Ite (decide (t30 < 0))
        (Ar (IntKind.wrap .i64 (t23 + 1)) fun t33 =>
        X (t33, x.2))
        (X (x.1, t23)))
      (Ite (decide (x.1 < (x0.n : Int)))
        (Idx x0 x.1 esz fun t43 =>
        LdN t43 esz fun t44 =>
        CallV P cmp2 [(.agg t44), tv] <| Ans1 (fun (t46 : Int) => (Value.int .i64) t46) fun t46 =>
        Q x.1 (decide (t46 = 0)))
        (Q x.1 false))) (0, (x0.n : Int))

section
variable {P : Program} {B w : World} {Γ Δ : List HProp}
theorem flatMap_el {α : Type} {f : α → List Value} {esz : Nat} (hf : ∀ x, (f x).length = esz) : ∀ {L : List α} {i : Nat} {x : α}, L[i]? = some x → ((L.flatMap f).drop (i * esz)).take esz = f x
  | [], i, x, h => by simp at h
  | a :: L, 0, x, h => by
    simp only [List.getElem?_cons_zero, Option.some.injEq] at h
    subst h
    simp only [Nat.zero_mul, List.drop_zero, List.flatMap_cons]
    rw [← hf a, List.take_left]
  | a :: L, i + 1, x, h => by
    simp only [List.getElem?_cons_succ] at h
    rw [List.flatMap_cons, Nat.add_mul, Nat.one_mul, Nat.add_comm, ← List.drop_drop, ← hf a, List.drop_left]
    rw [hf a]
    exact flatMap_el hf h
theorem flatMap_off {α : Type} {f : α → List Value} {esz : Nat} (hf : ∀ x, (f x).length = esz) {L : List α} {i off : Nat} {x : α} (h : L[i]? = some x) (ho : off < esz) : (L.flatMap f)[i * esz + off]? = (f x)[off]? := by
  rw [← flatMap_el hf h, List.getElem?_take, if_pos ho, List.getElem?_drop]
/-- An element of a slice that is read: not one's own, or one's own. -/
theorem s_idxN {α : Type} (f : α → List Value) {esz : Nat} {L : List α} {s : Sl} {j : Nat} {jj : Int} {x : α} {k : Array Value → K} (hf : ∀ x, (f x).length = esz) (hr : ∀ w, Holds B Γ w → RdC w s esz (L.flatMap f)) (hx : L[j]? = some x) (h : HG B Γ (k (f x).toArray)) (hj : jj = (j : Int) := by first | rfl | omega) (he : 0 < esz := by omega) :
    HG B Γ (Idx s jj esz fun t => LdN t esz k) := fun w hw => by subst hj; exact r_idxN f hf he (hr w hw) hx rfl fun t => h w hw
/-- An element that is read, of one cell. -/
theorem s_idx1 {α : Type} {c : α → Value} {L : List α} {s : Sl} {j : Nat} {jj : Int} {x : α} {k : α → K} (hr : ∀ w, Holds B Γ w → RdC w s 1 (L.map c)) (hx : L[j]? = some x) (h : HG B Γ (k x)) (hj : jj = (j : Int) := by first | rfl | omega) : HG B Γ (Idx s jj 1 fun t => Ld t c k) := fun w hw => by
  subst hj; exact r_idx1 (hr w hw) hx (h w hw)
theorem s_idxS {L : List (List UInt8)} {s : Sl} {j : Nat} {jj : Int} {x : List UInt8} {k : ByteArray → K} (hr : ∀ w, Holds B Γ w → RdC w s 1 (L.map strV)) (hx : L[j]? = some x) (h : HG B Γ (k (bs x))) (hj : jj = (j : Int) := by first | rfl | omega) : HG B Γ (Idx s jj 1 fun t => Ld t Value.string k) :=
  s_idx1 (L := L.map bs) (fun w hw => by have := hr w hw; simpa [Function.comp_def] using this) (by rw [List.getElem?_map, hx]; rfl) h hj
theorem rd_len {α : Type} {f : α → List Value} {esz : Nat} {L : List α} {s : Sl} (hf : ∀ x, (f x).length = esz) (he : 0 < esz) (hr : RdC w s esz (L.flatMap f)) : s.n = L.length := by
  have := hr.len
  rw [flatMap_len f esz hf] at this
  exact (Nat.eq_of_mul_eq_mul_right he this).symm
/-- The place of a key among a slice's elements. -/
theorem s_bs {α : Type} {f : α → List Value} {esz E : Nat} {s : Sl} {L : List α} {c : α → Int} {tv cv : Value} {Q : Int → Bool → K} {p : Nat} (hf : ∀ x, (f x).length = esz) (hL : L.length < 1000000000)
    (hlo : ∀ i x, L[i]? = some x → i < p → c x < 0) (hhi : ∀ i x, L[i]? = some x → p ≤ i → 0 ≤ c x) (hp : p ≤ L.length)
    (hc : ∀ x ∈ L, ∀ q : Int → K, HG B Γ (q (c x)) → HG B Γ (CallV P cv [(.agg (f x).toArray), tv] (Ans1 (fun (t : Int) => (Value.int .i64) t) q)))
    (h : HG B Γ (Q p (decide (∃ x, L[p]? = some x ∧ c x = 0)))) [o : OwnS s Γ (SlC E esz s (L.flatMap f)) Δ] (he : 0 < esz) : HG B Γ (bsK P esz s tv cv Q) := by
  refine s_cap s fun h1 h2 h3 h4 => ?_
  rw [flatMap_len f esz hf] at h1
  have hn : s.n = L.length := (Nat.eq_of_mul_eq_mul_right he h1).symm
  have ldel : ∀ (i : Nat) (x : α) (k : Array Value → K), L[i]? = some x → HG B Γ (k (f x).toArray) → HG B Γ (LdN (elA s i esz) esz k) := fun i x k hx hk => by
    rw [← add0 (elA s i esz)]
    exact s_ldEN (s := s) (by simpa using flatMap_el hf hx) (hf x) hk
  unfold bsK
  refine s_loopC (fun x : Int × Int => ∃ a b : Nat, x = ((a : Int), (b : Int)) ∧ a ≤ p ∧ p ≤ b ∧ b ≤ L.length) (fun x => (x.2 - x.1).toNat) ⟨0, L.length, by rw [hn]; rfl, by omega, hp, Nat.le_refl _⟩ fun k' x hx hk => ?_
  obtain ⟨a, b, rfl, ha, hb, hbl⟩ := hx
  dsimp only
  refine s_ite (fun hlt => ?_) fun hlt => ?_
  · have hab : a < b := by simp only [decide_eq_true_eq] at hlt; omega
    refine s_ai ?_
    rw [show IntKind.wrap .u64 ((a : Int) + b) = ((a + b : Nat) : Int) by rw [wrapU64 (by omega) (by omega)]; omega]
    refine s_ar rfl ?_
    refine s_cd (by omega) ?_
    refine s_ar (e' := (((a + b) / 2 : Nat) : Int)) ?_ ?_
    · show ((a + b : Nat) : Int).fdiv 2 = _
      rw [Int.fdiv_eq_ediv_of_nonneg _ (by omega)]; omega
    refine s_ai ?_
    refine s_idx (s := s) (i := (a + b) / 2) ?_ rfl (by omega)
    obtain ⟨x, hx⟩ : ∃ x, L[(a + b) / 2]? = some x := ⟨_, List.getElem?_eq_getElem (by omega)⟩
    refine ldel _ x _ hx (hc x (List.mem_of_getElem? hx) _ ?_)
    refine s_ite (fun h5 => ?_) fun h5 => ?_
    · have h6 : c x < 0 := by simpa using h5
      refine s_ai ?_
      refine hk _ ⟨(a + b) / 2 + 1, b, by simp, ?_, hb, hbl⟩ (by simp only; omega)
      · refine Nat.lt_of_not_le fun h7 => ?_
        have := hhi _ x hx h7; omega
    · have h6 : 0 ≤ c x := by simpa using h5
      refine hk _ ⟨a, (a + b) / 2, by simp, ha, ?_, by omega⟩ (by simp only; omega)
      · refine Nat.le_of_not_lt fun h7 => ?_
        have := hlo _ x hx h7; omega
  · have hab : a = p ∧ b = p := by simp only [decide_eq_false_iff_not] at hlt; omega
    obtain ⟨rfl, rfl⟩ := hab
    refine s_ite (fun h5 => ?_) fun h5 => ?_
    · have h6 : b < L.length := by simp only [decide_eq_true_eq] at h5; omega
      refine s_idx (s := s) (i := b) ?_ rfl (by omega)
      obtain ⟨x, hx⟩ : ∃ x, L[b]? = some x := ⟨_, List.getElem?_eq_getElem h6⟩
      refine ldel _ x _ hx (hc x (List.mem_of_getElem? hx) _ ?_)
      have e : decide (∃ x, L[b]? = some x ∧ c x = 0) = decide (c x = 0) := by simp [hx]
      rw [e] at h
      exact h
    · have h6 : ¬ b < L.length := by simp only [decide_eq_false_iff_not] at h5; omega
      have e : decide (∃ x, L[b]? = some x ∧ c x = 0) = false := by
        simp only [decide_eq_false_iff_not]
        rintro ⟨x, hx, _⟩
        rw [List.getElem?_eq_none (by omega)] at hx; cases hx
      rw [e] at h
      exact h
end
end Go.Sep
/- A B-tree, whatever its keys and values: the plain forms of its functions (printed by tools/mkbt.py), and what they do. Holds for every program. -/
namespace Go.Sep
open Go Go.RowKit
set_option linter.unusedSimpArgs false
set_option linter.unusedVariables false
namespace Bt

/-- What a tree's functions are told of types and of each other. -/
structure BtT (κ : Type) where
  P : Program
  tI : Nat
  tSI : Nat
  tV : Nat
  tK : Nat
  tSK : Nat
  tN : Nat
  tT : Nat
  nv : Nat
  kz : Value
  vz : List Value
  kV : κ → Value
  cv : Value
  bsC : Sl → κ → Value → (Int → Bool → K) → K
  nsearchC : Option Addr → κ → (Int → Bool → K) → K
  nputC : Option Addr → Array Value → (Array Value → Bool → Option Addr → Option Addr → K) → K
  insIC : Sl → Int → Sl → (Sl → K) → K
  insKC : Sl → Int → Sl → (Sl → K) → K
  cloneIC : Sl → (Sl → K) → K
  cloneKC : Sl → (Sl → K) → K

section
variable {κ : Type}
def tnew (G : BtT κ)  (Q : (Option Addr) → K) : K :=
  New G.tN #[(Sl.val ⟨none, 0, 0⟩), (Sl.val ⟨none, 0, 0⟩)] fun t2 =>
  New G.tT #[(.pointer (some t2)), (.int .i64 0)] fun t4 =>
  Q (some t4)
def nsearch (G : BtT κ) (n0 : (Option Addr)) (key1 : κ) (Q : Int → Bool → K) : K :=
  Nn n0 fun t7 =>
  Ld t7 Sl.val fun t9 =>
  G.bsC t9 key1 G.cv fun t11x0 t11x1 =>
  Q t11x0 t11x1
def tget_b1 (G : BtT κ) (Q : (Array Value) → Bool → K)  (X1 : (Option Addr) → K) (key1_1 : κ) (value4_1 : Addr) (n6_1 : (Option Addr)) : K :=
  G.nsearchC n6_1 key1_1 fun t16x0 t16x1 =>
  Ite t16x1
    (Nn n6_1 fun t21 =>
    Ld t21 Sl.val fun t23 =>
    Idx t23 t16x0 (G.nv + 1) fun t25 =>
    LdN (t25.add 1) G.nv fun t27 =>
    StN value4_1 G.nv t27 <|
    LdN value4_1 G.nv fun r0 =>
    Q r0 true)
    (Nn n6_1 fun t29 =>
    Ld (t29.add 1) Sl.val fun t31 =>
    Ite (decide ((t31.n : Int) = 0))
      (LdN value4_1 G.nv fun t34 =>
      StN value4_1 G.nv t34 <|
      LdN value4_1 G.nv fun r0 =>
      Q r0 false)
      (Ld (t29.add 1) Sl.val fun t38 =>
      Idx t38 t16x0 1 fun t40 =>
      Ld t40 Value.pointer fun t41 =>
      X1 t41))
def tget (G : BtT κ) (t0 : (Option Addr)) (key1 : κ) (Q : (Array Value) → Bool → K) : K :=
  New G.tV G.vz.toArray fun value4 =>
  Nn t0 fun t10 =>
  Ld t10 Value.pointer fun t12 =>
  LoopK (α := (Option Addr)) (fun X x => tget_b1 G Q X key1 value4 x) t12
def nput_s2 (G : BtT κ) (Q : (Array Value) → Bool → (Option Addr) → (Option Addr) → K)  (old4_2 : Addr) (had5_2 : Bool) (right7_2 : Addr) (m12_2 : Addr) : K :=
  LdN old4_2 G.nv fun t153 =>
  StN old4_2 G.nv t153 <|
  LdN old4_2 G.nv fun r0 =>
  Q r0 had5_2 (some m12_2) (some right7_2)
def nput_s1 (G : BtT κ) (Q : (Array Value) → Bool → (Option Addr) → (Option Addr) → K)  (n0_1 : (Option Addr)) (old4_1 : Addr) (had5_1 : Bool) : K :=
  Nn n0_1 fun t101 =>
  Ld t101 Sl.val fun t103 =>
  Ite (decide ((t103.n : Int) ≤ 5))
    (LdN old4_1 G.nv fun t106 =>
    StN old4_1 G.nv t106 <|
    LdN old4_1 G.nv fun r0 =>
    Q r0 had5_1 none none)
    (Ld t101 Sl.val fun t111 =>
    Idx t111 2 (G.nv + 1) fun t112 =>
    LdN t112 (G.nv + 1) fun t113 =>
    New G.tI (G.kz :: G.vz).toArray fun m12 =>
    StN m12 (G.nv + 1) t113 <|
    Ld t101 Sl.val fun t117 =>
    Slc t117 3 (t117.n : Int) (t117.c : Int) (G.nv + 1) fun t118 =>
    G.cloneIC t118 fun t119 =>
    New G.tN #[(Sl.val t119), (Sl.val ⟨none, 0, 0⟩)] fun t121 =>
    Ld t101 Sl.val fun t126 =>
    Slc t126 0 2 2 (G.nv + 1) fun t127 =>
    St t101 (Sl.val t127) <|
    Ld (t101.add 1) Sl.val fun t133 =>
    Ite (decide ((0 : Int) < (t133.n : Int)))
      (Ld (t101.add 1) Sl.val fun t140 =>
      Slc t140 3 (t140.n : Int) (t140.c : Int) 1 fun t141 =>
      G.cloneKC t141 fun t142 =>
      St (t121.add 1) (Sl.val t142) <|
      Ld (t101.add 1) Sl.val fun t149 =>
      Slc t149 0 3 3 1 fun t150 =>
      St (t101.add 1) (Sl.val t150) <|
      nput_s2 G Q old4_1 had5_1 t121 m12)
      (nput_s2 G Q old4_1 had5_1 t121 m12))
def nput (G : BtT κ) (n0 : (Option Addr)) (x1 : (Array Value)) (Q : (Array Value) → Bool → (Option Addr) → (Option Addr) → K) : K :=
  New G.tI x1 fun x3 =>
  New G.tV G.vz.toArray fun old4 =>
  Ld x3 G.kV fun t16 =>
  G.nsearchC n0 t16 fun t17x0 t17x1 =>
  Ite t17x1
    (Nn n0 fun t64 =>
    Ld t64 Sl.val fun t66 =>
    Idx t66 t17x0 (G.nv + 1) fun t68 =>
    LdN (t68.add 1) G.nv fun t70 =>
    StN old4 G.nv t70 <|
    Dr <|
    Ld t64 Sl.val fun t74 =>
    LdN (x3.add 1) G.nv fun t77 =>
    Idx t74 t17x0 (G.nv + 1) fun t78 =>
    StN (t78.add 1) G.nv t77 <|
    LdN old4 G.nv fun t80 =>
    StN old4 G.nv t80 <|
    LdN old4 G.nv fun r0 =>
    Q r0 true none none)
    (Nn n0 fun t84 =>
    Ld (t84.add 1) Sl.val fun t86 =>
    Ite (decide ((t86.n : Int) = 0))
      (Dr <| WithS fun S =>
      LdS S t84 Sl.val fun t93 =>
      LdNS S x3 (G.nv + 1) fun t95 =>
      Bld (G.kz :: G.vz).toArray (fun i => some (i * (G.nv + 1), (G.nv + 1))) [(0, (.agg t95))] fun ct96 =>
      New G.tI ct96 fun t96 =>
      Sv S <|
      G.insIC t93 t17x0 (Sl.mk (some t96) 1 1) fun t97 =>
      St t84 (Sl.val t97) <|
      nput_s1 G Q (some t84) old4 false)
      (Dr <|
      Ld (t84.add 1) Sl.val fun t24 =>
      Idx t24 t17x0 1 fun t26 =>
      Ld t26 Value.pointer fun t27 =>
      LdN x3 (G.nv + 1) fun t28 =>
      G.nputC t27 t28 fun t29x0 t29x1 t29x2 t29x3 =>
      StN old4 G.nv t29x0 <|
      Ite (!(t29x2).isNone)
        (Dr <| WithS fun S =>
        Nn t29x2 fun t43 =>
        LdS S t84 Sl.val fun t40 =>
        LdNS S t43 (G.nv + 1) fun t44 =>
        Bld (G.kz :: G.vz).toArray (fun i => some (i * (G.nv + 1), (G.nv + 1))) [(0, (.agg t44))] fun ct45 =>
        New G.tI ct45 fun t45 =>
        Sv S <|
        G.insIC t40 t17x0 (Sl.mk (some t45) 1 1) fun t46 =>
        St t84 (Sl.val t46) <|
        Ld (t84.add 1) Sl.val fun t53 =>
        Ar (IntKind.wrap .i64 (t17x0 + 1)) fun t55 =>
        New G.tK #[(.pointer t29x3)] fun t57 =>
        G.insKC t53 t55 (Sl.mk (some t57) 1 1) fun t58 =>
        St (t84.add 1) (Sl.val t58) <|
        nput_s1 G Q (some t84) old4 t29x1)
        (nput_s1 G Q (some t84) old4 t29x1)))
def tput_s3 (G : BtT κ) (Q : (Array Value) → Bool → K)  (t6_3 : Addr) (old8_3 : Addr) (had9_3 : Bool) : K :=
  LdN old8_3 G.nv fun t51 =>
  StN t6_3 G.nv t51 <|
  LdN t6_3 G.nv fun r0 =>
  Q r0 had9_3
def tput_s2 (G : BtT κ) (Q : (Array Value) → Bool → K)  (t0_2 : (Option Addr)) (t6_2 : Addr) (old8_2 : Addr) (had9_2 : Bool) : K :=
  Ite (!had9_2)
    (Nn t0_2 fun t45 =>
    Ld (t45.add 1) (Value.int .i64) fun t47 =>
    Ar (IntKind.wrap .i64 (t47 + 1)) fun t48 =>
    St (t45.add 1) (.int .i64 t48) <|
    tput_s3 G Q t6_2 old8_2 had9_2)
    (tput_s3 G Q t6_2 old8_2 had9_2)
def tput_s1 (G : BtT κ) (Q : (Array Value) → Bool → K)  (t0_1 : (Option Addr)) (t6_1 : Addr) (old8_1 : Addr) (had9_1 : Bool) (mid10_1 : (Option Addr)) (right11_1 : (Option Addr)) : K :=
  Ite (!(mid10_1).isNone)
    (Dr <| WithS fun S =>
    Nn mid10_1 fun t29 =>
    Nn t0_1 fun t33 =>
    LdNS S t29 (G.nv + 1) fun t30 =>
    LdS S t33 Value.pointer fun t35 =>
    All [
      (Bld (G.kz :: G.vz).toArray (fun i => some (i * (G.nv + 1), (G.nv + 1))) [(0, (.agg t30))] fun ct31 =>
      New G.tI ct31 fun t31 =>
      Sv S <|
      New G.tK #[(.pointer t35), (.pointer right11_1)] fun t37 =>
      Sv S <|
      New G.tN #[(Sl.val (Sl.mk (some t31) 1 1)), (Sl.val (Sl.mk (some t37) 2 2))] fun t39 =>
      St t33 (.pointer (some t39)) <|
      tput_s2 G Q (some t33) t6_1 old8_1 had9_1),
      (New G.tK #[(.pointer t35), (.pointer right11_1)] fun t37 =>
      Sv S <|
      Bld (G.kz :: G.vz).toArray (fun i => some (i * (G.nv + 1), (G.nv + 1))) [(0, (.agg t30))] fun ct31 =>
      New G.tI ct31 fun t31 =>
      Sv S <|
      New G.tN #[(Sl.val (Sl.mk (some t31) 1 1)), (Sl.val (Sl.mk (some t37) 2 2))] fun t39 =>
      St t33 (.pointer (some t39)) <|
      tput_s2 G Q (some t33) t6_1 old8_1 had9_1)
      ])
    (tput_s2 G Q t0_1 t6_1 old8_1 had9_1)
def tput (G : BtT κ) (t0 : (Option Addr)) (key1 : κ) (value2 : (Array Value)) (Q : (Array Value) → Bool → K) : K :=
  New G.tV value2 fun value5 =>
  New G.tV G.vz.toArray fun t6 =>
  Dr <| WithS fun S =>
  Nn t0 fun t14 =>
  LdS S t14 Value.pointer fun t16 =>
  LdNS S value5 G.nv fun t18 =>
  Bld (G.kz :: G.vz).toArray ([(0, 1), (1, G.nv)][·]?) [(0, (G.kV key1)), (1, (.agg t18))] fun t19 =>
  All [
    (G.nputC t16 t19 fun t20x0 t20x1 t20x2 t20x3 =>
    New G.tV G.vz.toArray fun old8 =>
    StN old8 G.nv t20x0 <|
    tput_s1 G Q (some t14) t6 old8 t20x1 t20x2 t20x3),
    (New G.tV G.vz.toArray fun old8 =>
    Sv S <|
    G.nputC t16 t19 fun t20x0 t20x1 t20x2 t20x3 =>
    StN old8 G.nv t20x0 <|
    tput_s1 G Q (some t14) t6 old8 t20x1 t20x2 t20x3)
    ]
end

/-- A value's cells. -/
abbrev Cel (n : Nat) := {l : List Value // l.length = n ∧ l.all flatV = true}
section
variable {κ : Type} (G : BtT κ)
abbrev BtT.It := κ × Cel G.nv
def BtT.f (x : G.It) : List Value := G.kV x.1 :: x.2.1
abbrev BtT.z0 (h : G.vz.length = G.nv ∧ G.vz.all flatV = true) : Cel G.nv := ⟨G.vz, h⟩
theorem BtT.f_len (x : G.It) : (G.f x).length = G.nv + 1 := by simp [BtT.f, x.2.2.1]

/-- What is asked of a tree's functions, and of how keys are compared. -/
structure BtOk (c : κ → κ → Int) : Prop where
  kf : ∀ k, flatV (G.kV k) = true
  kzf : flatV G.kz = true
  vz : G.vz.length = G.nv ∧ G.vz.all flatV = true
  TI : appT G.P G.tSI G.tSI G.tI (G.nv + 1) = true
  ZI : apZT G.P G.tSI 3 G.tI (G.nv + 1) = true
  TK : appT G.P G.tSK G.tSK G.tK 1 = true
  ZK : apZT G.P G.tSK 3 G.tK 1 = true
  tr : ∀ {a b d}, c a b < 0 → c b d < 0 → c a d < 0
  eq : ∀ {a b}, c a b = 0 ↔ a = b
  sw : ∀ {a b}, c a b < 0 ↔ 0 < c b a
  cmp : ∀ {B : World} {Γ : List HProp} (a b : κ) (vs : List Value) (q : Int → K), vs.length = G.nv → HG B Γ (q (c a b)) → HG B Γ (CallV G.P G.cv [(.agg (G.kV a :: vs).toArray), G.kV b] (Ans1 (fun (t : Int) => (Value.int .i64) t) q))
  bs : ∀ s k Q w, bsK G.P (G.nv + 1) s (G.kV k) G.cv Q w → G.bsC s k G.cv Q w
  search : ∀ n k Q w, nsearch G n k Q w → G.nsearchC n k Q w
  put : ∀ n x Q w, nput G n x Q w → G.nputC n x Q w
  insI : ∃ R rot, ∀ s i v Q w, insK G.P G.tSI 3 R (G.nv + 1) rot s i v Q w → G.insIC s i v Q w
  insK : ∃ R rot, ∀ s i v Q w, insK G.P G.tSK 3 R 1 rot s i v Q w → G.insKC s i v Q w
  cloneI : ∀ s Q w, cloneK G.P G.tI G.tSI s Q w → G.cloneIC s Q w
  cloneK : ∀ s Q w, cloneK G.P G.tK G.tSK s Q w → G.cloneKC s Q w
end

section
variable {κ : Type} {G : BtT κ} {c : κ → κ → Int} {B : World} {Γ Δ : List HProp}
/-- Keys rise. -/
def Srt (c : κ → κ → Int) {ν : Type} (L : List (κ × ν)) : Prop := L.Pairwise fun x y => c x.1 y.1 < 0
theorem f_flat (ok : BtOk G c) (x : G.It) : ∀ v ∈ G.f x, flatV v = true := fun v hv => by
  rcases List.mem_cons.1 hv with rfl | hv
  · exact ok.kf _
  · exact List.all_eq_true.1 x.2.2.2 v hv
theorem fl_flat (ok : BtOk G c) (L : List G.It) : ∀ v ∈ L.flatMap G.f, flatV v = true := fun v hv => by
  obtain ⟨x, _, hx⟩ := List.mem_flatMap.1 hv
  exact f_flat ok x v hx
theorem cc (ok : BtOk G c) {a b : κ} (h : 0 < c a b) (h2 : c a b < 0) : False := by omega

theorem s_search (ok : BtOk G c) {b : Nat} {s kd : Sl} {its : List G.It} {k : κ} {Q : Int → Bool → K} [p : Own b Γ (blk b (.cells [s.val, kd.val].toArray G.tN (0, 0))) Δ] {Δ2 : List HProp} [q : OwnS s Γ (SlC G.tI (G.nv + 1) s (its.flatMap G.f)) Δ2]
    (hs : Srt c its) (hl : its.length ≤ 1000) (hfound : ∀ A v C, its = A ++ (k, v) :: C → HG B Γ (Q A.length true)) (hnot : ∀ A C, its = A ++ C → (∀ x ∈ A, c x.1 k < 0) → (∀ x ∈ C, c k x.1 < 0) → HG B Γ (Q A.length false)) :
    HG B Γ (G.nsearchC (some ⟨b, 0, none⟩) k Q) := by
  refine fun w hw => ok.search _ _ _ _ ?_
  refine hg hw ?_
  clear hw w
  unfold nsearch
  refine s_nn ?_
  refine s_ld (b := b) (x := s) ?_
  refine fun w hw => ok.bs _ _ _ _ ?_
  refine hg hw ?_
  clear hw w
  obtain ⟨A, C, hAC, hA, hC⟩ : ∃ A C, its = A ++ C ∧ (∀ x ∈ A, c x.1 k < 0) ∧ ∀ x ∈ C, 0 ≤ c x.1 k := by
    clear hfound hnot q hl
    induction its with
    | nil => exact ⟨[], [], rfl, by simp, by simp⟩
    | cons x L ih =>
      have hs' := List.pairwise_cons.1 hs
      by_cases h : c x.1 k < 0
      · obtain ⟨A, C, h1, h2, h3⟩ := ih hs'.2
        exact ⟨x :: A, C, by rw [h1]; rfl, List.forall_mem_cons.2 ⟨h, h2⟩, h3⟩
      · refine ⟨[], x :: L, rfl, by simp, fun y hy => ?_⟩
        rcases List.mem_cons.1 hy with rfl | hy
        · omega
        · have h1 := hs'.1 y hy
          refine Int.not_lt.1 fun h2 => h (ok.tr h1 h2)
  subst hAC
  have hlen : (A ++ C).length = A.length + C.length := List.length_append
  refine s_bs (s := s) (L := A ++ C) (f := G.f) (c := fun x => c x.1 k) (p := A.length) G.f_len (by omega) (fun i x hx hi => ?_) (fun i x hx hi => ?_) (by omega) (fun x hx q hq => ok.cmp _ _ _ _ x.2.2.1 hq) ?_ (by omega)
  · rw [List.getElem?_append_left hi] at hx
    exact hA x (List.mem_of_getElem? hx)
  · rw [List.getElem?_append_right hi] at hx
    exact hC x (List.mem_of_getElem? hx)
  · have e : (A ++ C)[A.length]? = C.head? := by rw [List.getElem?_append_right (Nat.le_refl _), Nat.sub_self, List.head?_eq_getElem?]
    rw [e]
    cases C with
    | nil => simpa using hnot A [] rfl hA (by simp)
    | cons x C =>
      have hs2 := (List.pairwise_append.1 hs).2.1
      by_cases h0 : c x.1 k = 0
      · have := ok.eq.1 h0
        obtain ⟨xk, v⟩ := x
        simp only at this; subst this
        simpa [h0] using hfound A v C rfl
      · have h1 : 0 < c x.1 k := by have := hC x List.mem_cons_self; omega
        have := hnot A (x :: C) rfl hA (fun y hy => by
          rcases List.mem_cons.1 hy with rfl | hy
          · exact ok.sw.2 h1
          · exact ok.tr (ok.sw.2 h1) ((List.pairwise_cons.1 hs2).1 y hy))
        simpa [h0] using this
end
end Bt
end Go.Sep
/- A B-tree's node, and what put does to it. Holds for every program. -/
namespace Go.Sep
open Go Go.RowKit
set_option linter.unusedSimpArgs false
set_option linter.unusedVariables false
namespace Bt
section
variable {κ : Type} {G : BtT κ} {c : κ → κ → Int} {B : World} {Γ Δ : List HProp}
theorem flatMap_drop {α : Type} {f : α → List Value} {esz : Nat} (hf : ∀ x, (f x).length = esz) : ∀ (L : List α) (i : Nat), (L.flatMap f).drop (i * esz) = (L.drop i).flatMap f
  | L, 0 => by simp
  | [], i + 1 => by simp
  | x :: L, i + 1 => by
    rw [List.flatMap_cons, List.drop_succ_cons, ← flatMap_drop hf L i, Nat.add_mul, Nat.one_mul, Nat.add_comm, ← List.drop_drop, ← hf x, List.drop_left]
theorem flatMap_take {α : Type} {f : α → List Value} {esz : Nat} (hf : ∀ x, (f x).length = esz) : ∀ (L : List α) (i : Nat), (L.flatMap f).take (i * esz) = (L.take i).flatMap f
  | L, 0 => by simp
  | [], i + 1 => by simp
  | x :: L, i + 1 => by
    rw [List.flatMap_cons, List.take_succ_cons, List.flatMap_cons, ← flatMap_take hf L i, Nat.add_mul, Nat.one_mul, Nat.add_comm, ← hf x, List.take_length_add_append]
theorem s_ldEl {α : Type} {f : α → List Value} {esz E : Nat} {s : Sl} {L : List α} {i : Nat} {x : α} {k : Array Value → K} (hf : ∀ x, (f x).length = esz) (hx : L[i]? = some x) (h : HG B Γ (k (f x).toArray)) [o : OwnS s Γ (SlC E esz s (L.flatMap f)) Δ] : HG B Γ (LdN (elA s i esz) esz k) := by
  rw [← add0 (elA s i esz)]
  exact s_ldEN (s := s) (by simpa using flatMap_el hf hx) (hf x) h
abbrev nodeB (G : BtT κ) (b : Nat) (s kd : Sl) : HProp := blk b (.cells [s.val, kd.val].toArray G.tN (0, 0))
abbrev itsR (G : BtT κ) (s : Sl) (its : List G.It) : HProp := SlC G.tI (G.nv + 1) s (its.flatMap G.f)
abbrev kpsR (G : BtT κ) (s : Sl) (kp : List (Option Addr)) : HProp := SlC G.tK 1 s (kp.map Value.pointer)
abbrev valB (G : BtT κ) (b : Nat) (v : Cel G.nv) : HProp := blk b (.cells v.1.toArray G.tV (0, 0))
/-- A value's block is read, written and read. -/
theorem s_ret3 {o : Nat} {v : Cel G.nv} {k : Array Value → K} (h : HG B Γ (k v.1.toArray)) [p : Own o Γ (valB G o v) Δ] : HG B Γ (LdN ⟨o, 0, none⟩ G.nv fun t => StN ⟨o, 0, none⟩ G.nv t <| LdN ⟨o, 0, none⟩ G.nv k) := by
  have e : (v.1.drop 0).take G.nv = v.1 := by rw [List.drop_zero, List.take_of_length_le (Nat.le_of_eq v.2.1)]
  refine fun w hw => ?_
  refine hg (hw.perm p.perm) ?_
  refine s_ldN (b := o) ?_ e v.2.1
  refine s_stN (b := o) ?_ v.2.1 v.2.1 v.2.2
  refine s_ldN (b := o) ?_ e v.2.1
  exact fun w hw => h w (hw.perm p.perm.symm)
theorem kp_flat (kp : List (Option Addr)) : ∀ v ∈ kp.map Value.pointer, flatV v = true := fun v hv => by obtain ⟨a, _, rfl⟩ := List.mem_map.1 hv; rfl
theorem kp_len (kp : List (Option Addr)) : (kp.map Value.pointer).length = kp.length * 1 := by simp

theorem s_s1 (ok : BtOk G c) {o b : Nat} {old : Cel G.nv} {had : Bool} {s kd : Sl} {its : List G.It} {kp : List (Option Addr)} {Q : Array Value → Bool → Option Addr → Option Addr → K} (hs : its.length ≤ 6) (hk : kp = [] ∨ kp.length = its.length + 1)
    (h1 : its.length ≤ 5 → HG B (nodeB G b s kd :: itsR G s its :: kpsR G kd kp :: Γ) (Q old.1.toArray had none none))
    (h2 : ∀ x, its.length = 6 → its = its.take 2 ++ x :: its.drop 3 → ∀ s1 c1 r s2 c2 mb, HG B (blk mb (.cells (G.f x).toArray G.tI (0, 0)) :: nodeB G b s1 c1 :: itsR G s1 (its.take 2) :: kpsR G c1 (kp.take 3) :: nodeB G r s2 c2 :: itsR G s2 (its.drop 3) :: kpsR G c2 (kp.drop 3) :: Γ) (Q old.1.toArray had (some ⟨mb, 0, none⟩) (some ⟨r, 0, none⟩))) :
    HG B (valB G o old :: nodeB G b s kd :: itsR G s its :: kpsR G kd kp :: Γ) (nput_s1 G Q (some ⟨b, 0, none⟩) ⟨o, 0, none⟩ had) := by
  refine s_cap s fun l1 l2 l3 l4 => ?_
  refine s_cap kd fun m1 m2 m3 m4 => ?_
  rw [flatMap_len G.f _ G.f_len] at l1
  have hn : s.n = its.length := (Nat.eq_of_mul_eq_mul_right (by omega) l1).symm
  have hkn : kd.n = kp.length := by rw [kp_len] at m1; omega
  unfold nput_s1
  refine s_nn ?_
  refine s_ld (b := b) (x := s) ?_
  refine s_ite (fun hb => ?_) fun hb => ?_
  · refine s_ret3 ?_
    exact s_end (h1 (by simp only [decide_eq_true_eq] at hb; omega))
  have h6 : its.length = 6 := by simp only [decide_eq_false_iff_not] at hb; omega
  obtain ⟨x, hx⟩ : ∃ x, its[2]? = some x := ⟨_, List.getElem?_eq_getElem (by omega)⟩
  have hsplit : its = its.take 2 ++ x :: its.drop 3 := by
    have := List.drop_eq_getElem_cons (l := its) (i := 2) (by omega)
    rw [List.getElem?_eq_getElem (by omega), Option.some.injEq] at hx
    rw [hx] at this
    rw [← this, List.take_append_drop]
  refine s_ld (b := b) (x := s) ?_
  refine s_idx (s := s) (i := 2) ?_
  refine s_ldEl (s := s) G.f_len hx ?_
  refine s_new fun mb => ?_
  refine s_stN (b := mb) ?_ (by simp [ok.vz.1]) (G.f_len x) (List.all_eq_true.2 (f_flat ok x))
  refine s_ld (b := b) (x := s) ?_
  refine s_slc (lo := 3) (hi := s.n) (mx := s.c) ?_
  refine fun w hw => ok.cloneI _ _ _ ?_
  refine hg hw ?_
  clear hw w
  have hfl := fl_flat ok its
  refine s_clone0 (s := ⟨cutA s.a 3 s.c (G.nv + 1), s.n - 3, s.c - 3⟩) (us := (its.drop 3).flatMap G.f) (esz := G.nv + 1) (fun w hw => ?_) (fl_flat ok _) (by simp only; omega) (fun s2 hs2 => ?_) ok.TI
  · rw [← flatMap_drop G.f_len]
    exact (own_rd (s := s) hw).1.drop (by omega) l2 l3
  refine s_new fun r => ?_
  refine s_ld (b := b) (x := s) ?_
  refine s_slc (lo := 0) (hi := 2) (mx := 2) ?_
  rw [cut0 l3]
  refine s_st (b := b) ?_
  refine s_shrink (s := s) (m := 2) (c' := 2) (by omega) (by omega) (by omega) ?_
  rw [flatMap_take G.f_len]
  refine s_ld (b := b) (x := kd) ?_
  refine s_ite (fun hb2 => ?_) fun hb2 => ?_
  · have hk7 : kp.length = 7 := by
      simp only [decide_eq_true_eq] at hb2
      rcases hk with rfl | hk
      · simp only [List.length_nil] at hkn; omega
      · omega
    refine s_ld (b := b) (x := kd) ?_
    refine s_slc (lo := 3) (hi := kd.n) (mx := kd.c) ?_
    refine fun w hw => ok.cloneK _ _ _ ?_
    refine hg hw ?_
    clear hw w
    refine s_clone0 (s := ⟨cutA kd.a 3 kd.c 1, kd.n - 3, kd.c - 3⟩) (us := (kp.drop 3).map Value.pointer) (esz := 1) (fun w hw => ?_) (kp_flat _) (by simp only; omega) (fun c2 hc2 => ?_) ok.TK
    · have := (own_rd (s := kd) hw).1.drop (l := 3) (c := kd.c) (by omega) m2 m3
      simpa using this
    refine s_st (b := r) ?_
    refine s_ld (b := b) (x := kd) ?_
    refine s_slc (lo := 0) (hi := 3) (mx := 3) ?_
    rw [cut0 m3]
    refine s_st (b := b) ?_
    refine s_shrink (s := kd) (m := 3) (c' := 3) (by omega) (by omega) (by omega) ?_
    rw [show (kp.map Value.pointer).take (3 * 1) = (kp.take 3).map Value.pointer by simp]
    unfold nput_s2
    refine s_ret3 ?_
    exact s_end (h2 x h6 hsplit ⟨s.a, 2, 2⟩ ⟨kd.a, 3, 3⟩ r s2 c2 mb)
  · have hk0 : kp = [] := by
      simp only [decide_eq_false_iff_not] at hb2
      rcases hk with rfl | hk
      · rfl
      · omega
    have e1 : kp.take 3 = kp := by rw [hk0]; rfl
    have e2 : kp.drop 3 = [] := by rw [hk0]; rfl
    simp only [e1, e2] at h2
    unfold nput_s2
    refine s_ret3 ?_
    refine fun w hw => ?_
    refine hg (show Holds B (kpsR G ⟨none, 0, 0⟩ [] :: _) w from hw.nilSl G.tK 1) ?_
    exact s_end (h2 x h6 hsplit ⟨s.a, 2, 2⟩ kd r s2 ⟨none, 0, 0⟩ mb)
end
end Bt
end Go.Sep
/- A B-tree's node by its depth, and what put does to it. Holds for every program. -/
namespace Go.Sep
open Go Go.RowKit
set_option linter.unusedSimpArgs false
set_option linter.unusedVariables false
namespace Bt
section
variable {κ : Type} {G : BtT κ} {c : κ → κ → Int} {B : World} {Γ Δ : List HProp}

/-! ### kids and items in turn -/
abbrev Kid (G : BtT κ) := Nat × List G.It
def ptr (q : Kid G) : Option Addr := some ⟨q.1, 0, none⟩
def psL (q0 : Kid G) (ps : List (G.It × Kid G)) : List G.It := q0.2 ++ ps.flatMap fun p => p.1 :: p.2.2
def preL (l : List (Kid G × G.It)) : List G.It := l.flatMap fun p => p.1.2 ++ [p.2]
def postL (r : List (G.It × Kid G)) : List G.It := r.flatMap fun p => p.1 :: p.2.2
theorem zfwd : ∀ (i : Nat) (q0 : Kid G) (ps : List (G.It × Kid G)), i ≤ ps.length → ∃ l q r, l.length = i ∧ ps.map Prod.fst = l.map Prod.snd ++ r.map Prod.fst ∧ q0 :: ps.map Prod.snd = l.map Prod.fst ++ q :: r.map Prod.snd ∧ psL q0 ps = preL l ++ q.2 ++ postL r
  | 0, q0, ps, _ => ⟨[], q0, ps, rfl, rfl, rfl, by simp [psL, preL, postL]⟩
  | i + 1, q0, [], h => by simp at h
  | i + 1, q0, (x, q1) :: ps, h => by
    obtain ⟨l, q, r, h1, h2, h3, h4⟩ := zfwd i q1 ps (by simpa using h)
    refine ⟨(q0, x) :: l, q, r, by simp [h1], by simp [h2], by simp only [List.map_cons, List.cons_append, ← h3], ?_⟩
    have : psL q0 ((x, q1) :: ps) = q0.2 ++ x :: psL q1 ps := by simp [psL]
    rw [this, h4]
    simp [preL]
theorem zback : ∀ (l : List (Kid G × G.It)) (q : Kid G) (r : List (G.It × Kid G)), ∃ q0 ps, ps.length = l.length + r.length ∧ ps.map Prod.fst = l.map Prod.snd ++ r.map Prod.fst ∧ q0 :: ps.map Prod.snd = l.map Prod.fst ++ q :: r.map Prod.snd ∧ psL q0 ps = preL l ++ q.2 ++ postL r
  | [], q, r => ⟨q, r, by simp, rfl, rfl, by simp [psL, preL, postL]⟩
  | (p, x) :: l, q, r => by
    obtain ⟨q0, ps, h1, h2, h3, h4⟩ := zback l q r
    refine ⟨p, (x, q0) :: ps, by simp [h1]; omega, by simp [h2], by simp only [List.map_cons, List.cons_append, ← h3], ?_⟩
    have : psL p ((x, q0) :: ps) = p.2 ++ x :: psL q0 ps := by simp [psL]
    rw [this, h4]
    simp [preL]
theorem Srt.sub {ν : Type} {L M : List (κ × ν)} (h : Srt c L) (hs : M.Sublist L) : Srt c M := List.Pairwise.sublist hs h
theorem pre_lt (ok : BtOk G c) {k : κ} : ∀ (l : List (Kid G × G.It)), Srt c (preL l) → (∀ x ∈ l.map Prod.snd, c x.1 k < 0) → ∀ y ∈ preL l, c y.1 k < 0
  | [], _, _, y, hy => by simp [preL] at hy
  | (p, x) :: l, hs, h, y, hy => by
    have e : preL ((p, x) :: l) = (p.2 ++ [x]) ++ preL l := rfl
    rw [e] at hs hy
    have hx : c x.1 k < 0 := h x (by simp)
    rcases List.mem_append.1 hy with hy | hy
    · rcases List.mem_append.1 hy with hy | hy
      · have h1 := (List.pairwise_append.1 (List.pairwise_append.1 hs).1).2.2 y hy x (by simp)
        exact ok.tr h1 hx
      · rw [List.mem_singleton.1 hy]; exact hx
    · exact pre_lt ok l (List.pairwise_append.1 hs).2.1 (fun z hz => h z (by simp at hz ⊢; exact .inr hz)) y hy
theorem post_gt (ok : BtOk G c) {k : κ} : ∀ (r : List (G.It × Kid G)), Srt c (postL r) → (∀ x ∈ r.map Prod.fst, c k x.1 < 0) → ∀ y ∈ postL r, c k y.1 < 0
  | [], _, _, y, hy => by simp [postL] at hy
  | (x, q) :: r, hs, h, y, hy => by
    have e : postL ((x, q) :: r) = (x :: q.2) ++ postL r := rfl
    rw [e] at hs hy
    have hx : c k x.1 < 0 := h x (by simp)
    rcases List.mem_append.1 hy with hy | hy
    · rcases List.mem_cons.1 hy with rfl | hy
      · exact hx
      · exact ok.tr hx ((List.pairwise_cons.1 (List.pairwise_append.1 hs).1).1 y hy)
    · exact post_gt ok r (List.pairwise_append.1 hs).2.1 (fun z hz => h z (by simp at hz ⊢; exact .inr hz)) y hy
theorem its_sub (q0 : Kid G) : ∀ (ps : List (G.It × Kid G)), (ps.map Prod.fst).Sublist (psL q0 ps)
  | [] => by simp
  | (x, q) :: ps => by
    have : psL q0 ((x, q) :: ps) = q0.2 ++ x :: psL q ps := by simp [psL]
    rw [this, List.map_cons]
    exact ((its_sub q ps).cons_cons x).trans (List.sublist_append_right _ _)

/-! ### what put tells -/
def PutR (c : κ → κ → Int) {ν : Type} (z : ν) (L : List (κ × ν)) (k : κ) (v : ν) (L' : List (κ × ν)) (old : ν) (had : Bool) : Prop :=
  (∃ A C, L = A ++ (k, old) :: C ∧ L' = A ++ (k, v) :: C ∧ had = true) ∨ (∃ A C, L = A ++ C ∧ (∀ x ∈ A, c x.1 k < 0) ∧ (∀ x ∈ C, c k x.1 < 0) ∧ L' = A ++ (k, v) :: C ∧ old = z ∧ had = false)
theorem PutR.mid {ν : Type} {z v old : ν} {A C L L' : List (κ × ν)} {k : κ} {had : Bool} (hA : ∀ x ∈ A, c x.1 k < 0) (hC : ∀ x ∈ C, c k x.1 < 0) (h : PutR c z L k v L' old had) : PutR c z (A ++ L ++ C) k v (A ++ L' ++ C) old had := by
  rcases h with ⟨A', C', rfl, rfl, rfl⟩ | ⟨A', C', rfl, h1, h2, rfl, rfl, rfl⟩
  · exact .inl ⟨A ++ A', C' ++ C, by simp, by simp, rfl⟩
  · refine .inr ⟨A ++ A', C' ++ C, by simp, fun x hx => ?_, fun x hx => ?_, by simp, rfl, rfl⟩
    · rcases List.mem_append.1 hx with hx | hx
      · exact hA x hx
      · exact h1 x hx
    · rcases List.mem_append.1 hx with hx | hx
      · exact h2 x hx
      · exact hC x hx

/-! ### a node -/
def NodeR (G : BtT κ) : Nat → Nat → Nat → List G.It → HProp
  | 0, m, b, L => ex fun s => ex fun kd => Sep.stars [pur ((m = 2 → L ≠ []) ∧ L.length ≤ 5), nodeB G b s kd, itsR G s L, kpsR G kd []]
  | d + 1, m, b, L => ex fun s => ex fun kd => ex fun q0 : Kid G => ex fun ps : List (G.It × Kid G) => Sep.stars [pur ((1 ≤ m → ps ≠ []) ∧ ps.length ≤ 5 ∧ L = psL q0 ps), nodeB G b s kd, itsR G s (ps.map Prod.fst), kpsR G kd ((q0 :: ps.map Prod.snd).map ptr),
      Sep.stars ((q0 :: ps.map Prod.snd).map fun q => NodeR G d 2 q.1 q.2)]
instance (priority := high) own_node {d m b : Nat} {L : List G.It} : Own b (NodeR G d m b L :: Γ) (NodeR G d m b L) Γ := ⟨.refl _⟩
theorem s_node0 {m b : Nat} {L : List G.It} {k : K} (h : ∀ s kd, (m = 2 → L ≠ []) → L.length ≤ 5 → HG B (nodeB G b s kd :: itsR G s L :: kpsR G kd [] :: Γ) k) : HG B (NodeR G 0 m b L :: Γ) k :=
  s_conv (A' := ex fun s => ex fun kd => Sep.stars [pur ((m = 2 → L ≠ []) ∧ L.length ≤ 5), nodeB G b s kd, itsR G s L, kpsR G kd []]) (fun _ h => h) <| s_ex fun s => s_ex fun kd => s_flat <| s_pur fun ⟨h1, h2⟩ => h s kd h1 h2
theorem s_mk0 {m b : Nat} {L : List G.It} {k : K} {s kd : Sl} (h1 : m = 2 → L ≠ []) (h2 : L.length ≤ 5) (h : HG B (NodeR G 0 m b L :: Γ) k) : HG B (nodeB G b s kd :: itsR G s L :: kpsR G kd [] :: Γ) k :=
  s_toPur (p := (m = 2 → L ≠ []) ∧ L.length ≤ 5) ⟨h1, h2⟩ <| s_unflat (Δ := [pur ((m = 2 → L ≠ []) ∧ L.length ≤ 5), nodeB G b s kd, itsR G s L, kpsR G kd []]) <| s_toEx (F := fun kd => Sep.stars [pur ((m = 2 → L ≠ []) ∧ L.length ≤ 5), nodeB G b s kd, itsR G s L, kpsR G kd []]) kd <|
    s_toEx (F := fun s => ex fun kd => Sep.stars [pur ((m = 2 → L ≠ []) ∧ L.length ≤ 5), nodeB G b s kd, itsR G s L, kpsR G kd []]) s <| s_conv (fun _ h => h) h
abbrev kidsR (G : BtT κ) (d : Nat) (ks : List (Kid G)) : HProp := Sep.stars (ks.map fun q => NodeR G d 2 q.1 q.2)
theorem s_nodeS {d m b : Nat} {L : List G.It} {k : K} (h : ∀ s kd q0 ps, (1 ≤ m → ps ≠ []) → ps.length ≤ 5 → L = psL q0 ps → HG B (nodeB G b s kd :: itsR G s (ps.map Prod.fst) :: kpsR G kd ((q0 :: ps.map Prod.snd).map ptr) :: kidsR G d (q0 :: ps.map Prod.snd) :: Γ) k) : HG B (NodeR G (d + 1) m b L :: Γ) k :=
  s_conv (A' := ex fun s => ex fun kd => ex fun q0 : Kid G => ex fun ps : List (G.It × Kid G) => Sep.stars [pur ((1 ≤ m → ps ≠ []) ∧ ps.length ≤ 5 ∧ L = psL q0 ps), nodeB G b s kd, itsR G s (ps.map Prod.fst), kpsR G kd ((q0 :: ps.map Prod.snd).map ptr), kidsR G d (q0 :: ps.map Prod.snd)]) (fun _ h => h) <|
    s_ex fun s => s_ex fun kd => s_ex fun q0 => s_ex fun ps => s_flat <| s_pur fun ⟨h1, h2, h3⟩ => h s kd q0 ps h1 h2 h3
theorem s_mkS {d m b : Nat} {q0 : Kid G} {ps : List (G.It × Kid G)} {k : K} {s kd : Sl} (h1 : 1 ≤ m → ps ≠ []) (h2 : ps.length ≤ 5) (h : HG B (NodeR G (d + 1) m b (psL q0 ps) :: Γ) k) :
    HG B (nodeB G b s kd :: itsR G s (ps.map Prod.fst) :: kpsR G kd ((q0 :: ps.map Prod.snd).map ptr) :: kidsR G d (q0 :: ps.map Prod.snd) :: Γ) k := fun w hw => by
  refine h w ?_
  have h3 : Holds B (Sep.stars [pur ((1 ≤ m → ps ≠ []) ∧ ps.length ≤ 5 ∧ psL q0 ps = psL q0 ps), nodeB G b s kd, itsR G s (ps.map Prod.fst), kpsR G kd ((q0 :: ps.map Prod.snd).map ptr), kidsR G d (q0 :: ps.map Prod.snd)] :: Γ) w := Holds.flat.2 (Holds.pur.2 ⟨⟨h1, h2, rfl⟩, hw⟩)
  exact h3.imp fun g hg => ⟨s, kd, q0, ps, hg⟩
/-- One kid among the kids. -/
theorem kid_perm {d : Nat} {A C : List (Kid G)} {q : Kid G} : (((A ++ q :: C).map fun q => NodeR G d 2 q.1 q.2) ++ Γ).Perm (((A ++ C).map fun q => NodeR G d 2 q.1 q.2) ++ NodeR G d 2 q.1 q.2 :: Γ) := by
  have h2 : ((A ++ q :: C).map fun q => NodeR G d 2 q.1 q.2).Perm (NodeR G d 2 q.1 q.2 :: (A ++ C).map fun q => NodeR G d 2 q.1 q.2) := (List.perm_middle (a := q) (l₁ := A) (l₂ := C)).map _
  refine (h2.append_right Γ).trans ?_
  exact (List.perm_middle (a := NodeR G d 2 q.1 q.2) (l₁ := (A ++ C).map fun q => NodeR G d 2 q.1 q.2) (l₂ := Γ)).symm
theorem s_kid {d : Nat} {A C : List (Kid G)} {q : Kid G} {k : K} (h : HG B (NodeR G d 2 q.1 q.2 :: kidsR G d (A ++ C) :: Γ) k) : HG B (kidsR G d (A ++ q :: C) :: Γ) k := fun w hw =>
  h w (Holds.flat.2 ((Holds.flat.1 hw).perm kid_perm)).swap
theorem s_unkid {d : Nat} {A C : List (Kid G)} {q : Kid G} {k : K} (h : HG B (kidsR G d (A ++ q :: C) :: Γ) k) : HG B (NodeR G d 2 q.1 q.2 :: kidsR G d (A ++ C) :: Γ) k := fun w hw =>
  h w (Holds.flat.2 ((Holds.flat.1 hw.swap).perm kid_perm.symm))
end
end Bt
end Go.Sep
/- What put does to a B-tree's node. Holds for every program. -/
namespace Go.Sep
open Go Go.RowKit
set_option linter.unusedSimpArgs false
set_option linter.unusedVariables false
namespace Bt
section
variable {κ : Type} {G : BtT κ} {c : κ → κ → Int} {B : World} {Γ Δ : List HProp}

theorem at_mid {α : Type} {A C : List α} {x : α} : (A ++ x :: C)[A.length]? = some x := by simp
/-- A value in the midst of items is another one. -/
theorem lay_val {A C : List G.It} {k : κ} {v0 v : Cel G.nv} : layAt ((A ++ (k, v0) :: C).flatMap G.f) (A.length * (G.nv + 1) + 1) v.1 = (A ++ (k, v) :: C).flatMap G.f := by
  have e1 : (A ++ (k, v0) :: C).flatMap G.f = (A.flatMap G.f ++ [G.kV k]) ++ (v0.1 ++ C.flatMap G.f) := by simp [BtT.f]
  have e2 : (A ++ (k, v) :: C).flatMap G.f = (A.flatMap G.f ++ [G.kV k]) ++ (v.1 ++ C.flatMap G.f) := by simp [BtT.f]
  rw [e1, e2, layAt_mid (by simp [flatMap_len G.f _ G.f_len]) (by rw [v0.2.1, v.2.1])]
theorem drop_val {A C : List G.It} {k : κ} {v0 : Cel G.nv} : (((A ++ (k, v0) :: C).flatMap G.f).drop (A.length * (G.nv + 1) + 1)).take G.nv = v0.1 := by
  have e1 : (A ++ (k, v0) :: C).flatMap G.f = (A.flatMap G.f ++ [G.kV k]) ++ (v0.1 ++ C.flatMap G.f) := by simp [BtT.f]
  rw [e1, show A.length * (G.nv + 1) + 1 = (A.flatMap G.f ++ [G.kV k]).length by simp [flatMap_len G.f _ G.f_len], List.drop_left, List.take_left' v0.2.1]
theorem ins_items {A C : List G.It} {x : G.It} : ((A ++ C).flatMap G.f).take (A.length * (G.nv + 1)) ++ G.f x ++ ((A ++ C).flatMap G.f).drop (A.length * (G.nv + 1)) = (A ++ x :: C).flatMap G.f := by
  rw [flatMap_take G.f_len, flatMap_drop G.f_len, List.take_left, List.drop_left]
  simp
theorem ins_kids {A C : List (Option Addr)} {x : Option Addr} : ((A ++ C).map Value.pointer).take (A.length * 1) ++ [Value.pointer x] ++ ((A ++ C).map Value.pointer).drop (A.length * 1) = (A ++ x :: C).map Value.pointer := by
  rw [Nat.mul_one, ← List.map_take, ← List.map_drop, List.take_left, List.drop_left]
  simp

theorem s_kids_split {d : Nat} {A C : List (Kid G)} {k : K} (h : HG B (kidsR G d A :: kidsR G d C :: Γ) k) : HG B (kidsR G d (A ++ C) :: Γ) k := fun w hw => by
  have h1 := Holds.flat.1 hw
  rw [List.map_append, List.append_assoc] at h1
  have h2 : Holds B ((C.map fun q => NodeR G d 2 q.1 q.2) ++ kidsR G d A :: Γ) w := (Holds.flat.2 h1).perm List.perm_middle.symm
  exact h w (Holds.flat.2 h2).swap
theorem zip_of {q0 : Kid G} {ps : List (G.It × Kid G)} {A C : List G.It} (e : ps.map Prod.fst = A ++ C) : ∃ l q r, A = l.map Prod.snd ∧ C = r.map Prod.fst ∧ q0 :: ps.map Prod.snd = l.map Prod.fst ++ q :: r.map Prod.snd ∧ psL q0 ps = preL l ++ q.2 ++ postL r ∧ ps.length = l.length + r.length := by
  have hl := congrArg List.length e
  simp only [List.length_map, List.length_append] at hl
  obtain ⟨l, q, r, h1, h2, h3, h4⟩ := zfwd A.length q0 ps (by omega)
  rw [e] at h2
  obtain ⟨h5, h6⟩ := List.append_inj h2 (by simp [h1])
  refine ⟨l, q, r, h5, h6, h3, h4, ?_⟩
  rw [hl, h6, h1, List.length_map]
theorem nput_spec (ok : BtOk G c) : ∀ (d : Nat) {m b : Nat} {M : List G.It} {k : κ} {v : Cel G.nv} {Γ : List HProp} {Q : Array Value → Bool → Option Addr → Option Addr → K}, 1 ≤ m → Srt c M →
    (∀ M' old had, PutR c (G.z0 ok.vz) M k v M' old had → HG B (NodeR G d 2 b M' :: Γ) (Q old.1.toArray had none none)) →
    (∀ M1 x M2 old had r mb, PutR c (G.z0 ok.vz) M k v (M1 ++ x :: M2) old had → HG B (blk mb (.cells (G.f x).toArray G.tI (0, 0)) :: NodeR G d 2 b M1 :: NodeR G d 2 r M2 :: Γ) (Q old.1.toArray had (some ⟨mb, 0, none⟩) (some ⟨r, 0, none⟩))) →
    HG B (NodeR G d m b M :: Γ) (G.nputC (some ⟨b, 0, none⟩) (G.f (k, v)).toArray Q) := by
  intro d
  induction d with
  | zero =>
    intro m b M k v Γ Q hm hs h1 h2
    refine fun w hw => ok.put _ _ _ _ ?_
    refine hg hw ?_
    clear hw w
    refine s_node0 fun s kd _ hl => ?_
    refine s_cap kd fun m1 m2 m3 m4 => ?_
    unfold nput
    refine s_new fun x3 => ?_
    refine s_new fun o => ?_
    refine s_ld (b := x3) (x := k) ?_
    refine s_search ok (s := s) (kd := kd) hs (by omega) (fun A v0 C e => ?_) fun A C e hA hC => ?_
    · subst e
      refine s_t ?_
      refine s_nn ?_
      refine s_cap s fun l1 l2 l3 l4 => ?_
      rw [flatMap_len G.f _ G.f_len] at l1
      have hn : s.n = (A ++ (k, v0) :: C).length := (Nat.eq_of_mul_eq_mul_right (by omega) l1).symm
      have hlen : (A ++ (k, v0) :: C).length = A.length + (C.length + 1) := List.length_append
      refine s_ld (b := b) (x := s) ?_
      refine s_idx (s := s) (i := A.length) ?_
      refine s_ldEN (s := s) (l' := v0.1) drop_val v0.2.1 ?_
      refine s_stN (b := o) ?_ ok.vz.1 v0.2.1 v0.2.2
      refine s_dr ?_
      refine s_ld (b := b) (x := s) ?_
      refine s_ldN (b := x3) (off := 0 + 1) (l := G.f (k, v)) (l' := v.1) ?_ (List.take_of_length_le (Nat.le_of_eq v.2.1)) v.2.1
      refine s_idx (s := s) (i := A.length) ?_
      refine s_stEN (s := s) ?_ v.2.1 ?_ v.2.2
      rotate_left
      · rw [flatMap_len G.f _ G.f_len, hlen, Nat.add_mul, Nat.add_mul]; omega
      rw [lay_val]
      refine s_ret3 (v := v0) ?_
      refine s_end (Δ := nodeB G b s kd :: itsR G s (A ++ (k, v) :: C) :: kpsR G kd [] :: Γ) ?_
      refine s_mk0 (m := 2) (by simp) (by simpa using hl) (h1 _ _ _ (.inl ⟨A, C, rfl, rfl, rfl⟩))
    · subst e
      refine s_f ?_
      refine s_nn ?_
      refine s_ld (b := b) (x := kd) ?_
      refine s_t ?_ (by simpa using m1.symm)
      refine s_dr ?_
      refine s_ws ?_
      refine s_ldS (b := b) (x := s) ?_
      refine s_ldNS (b := x3) (l' := G.f (k, v)) ?_ (List.take_of_length_le (by simp [G.f_len])) (G.f_len _)
      refine s_bld1 ?_ (by simp [ok.vz.1]) (G.f_len _)
      refine s_new fun t => ?_
      refine s_sv ?_
      obtain ⟨R, rot, hins⟩ := ok.insI
      refine s_cap s fun l1 l2 l3 l4 => ?_
      rw [flatMap_len G.f _ G.f_len] at l1
      have hn : s.n = (A ++ C).length := (Nat.eq_of_mul_eq_mul_right (by omega) l1).symm
      have hlen : (A ++ C).length = A.length + C.length := List.length_append
      refine fun w hw => hins _ _ _ _ _ ?_
      refine hg hw ?_
      clear hw w
      refine s_ins (s := s) (i := A.length) (t := t) (by omega) (by omega) (G.f_len _) (by omega) (fl_flat ok _) (f_flat ok _) (fun s' hs' => ?_) ok.TI ok.ZI
      rw [ins_items]
      refine s_st (b := b) ?_
      refine s_end (Δ := valB G o (G.z0 ok.vz) :: nodeB G b s' kd :: itsR G s' (A ++ (k, v) :: C) :: kpsR G kd [] :: Γ) ?_
      have hput : PutR c (G.z0 ok.vz) (A ++ C) k v (A ++ (k, v) :: C) (G.z0 ok.vz) false := .inr ⟨A, C, rfl, hA, hC, rfl, rfl, rfl⟩
      refine s_s1 ok (by simp; omega) (.inl rfl) (fun h5 => ?_) fun x h6 hx s1 c1 r s2 c2 mb => ?_
      · refine s_mk0 (m := 2) (by simp) h5 (h1 _ _ _ hput)
      · have h7 := h2 ((A ++ (k, v) :: C).take 2) x ((A ++ (k, v) :: C).drop 3) _ _ r mb (by rw [← hx]; exact hput)
        simp only [List.take_nil, List.drop_nil]
        refine s_end (Δ := nodeB G b s1 c1 :: itsR G s1 ((A ++ (k, v) :: C).take 2) :: kpsR G c1 [] :: nodeB G r s2 c2 :: itsR G s2 ((A ++ (k, v) :: C).drop 3) :: kpsR G c2 [] :: blk mb (.cells (G.f x).toArray G.tI (0, 0)) :: Γ) ?_
        refine s_mk0 (m := 2) (fun _ h => ?_) (by rw [List.length_take]; omega) ?_
        · have := congrArg List.length h; simp only [List.length_take, List.length_nil] at this; omega
        refine s_end (Δ := nodeB G r s2 c2 :: itsR G s2 ((A ++ (k, v) :: C).drop 3) :: kpsR G c2 [] :: blk mb (.cells (G.f x).toArray G.tI (0, 0)) :: NodeR G 0 2 b ((A ++ (k, v) :: C).take 2) :: Γ) ?_
        refine s_mk0 (m := 2) (fun _ h => ?_) (by rw [List.length_drop]; omega) ?_
        · have := congrArg List.length h; simp only [List.length_drop, List.length_nil] at this; omega
        exact s_end h7
  | succ d ih =>
    intro m b M k v Γ Q hm hs h1 h2
    refine fun w hw => ok.put _ _ _ _ ?_
    refine hg hw ?_
    clear hw w
    refine s_nodeS fun s kd q0 ps hne hl hM => ?_
    subst hM
    unfold nput
    refine s_new fun x3 => ?_
    refine s_new fun o => ?_
    refine s_ld (b := x3) (x := k) ?_
    refine s_search ok (s := s) (kd := kd) (hs.sub (its_sub q0 ps)) (by simp; omega) (fun A v0 C e => ?_) fun A C e hA hC => ?_
    · obtain ⟨l, q, r, hA, hC, hK, hL, hlen⟩ := zip_of (q0 := q0) e
      rw [e, hK]
      rw [hL] at hs h1 h2
      obtain ⟨⟨xx, q1⟩, r, rfl, hxx, hC'⟩ := List.map_eq_cons_iff.1 hC.symm
      simp only at hxx
      subst hxx
      subst hA
      subst hC'
      refine s_t ?_
      refine s_nn ?_
      refine s_cap s fun l1 l2 l3 l4 => ?_
      rw [flatMap_len G.f _ G.f_len] at l1
      have hil : (l.map Prod.snd ++ (k, v0) :: r.map Prod.fst).length = (l.map Prod.snd).length + (r.length + 1) := by simp
      have hn : s.n = (l.map Prod.snd).length + (r.length + 1) := by rw [← hil]; exact (Nat.eq_of_mul_eq_mul_right (by omega) l1).symm
      refine s_ld (b := b) (x := s) ?_
      refine s_idx (s := s) (i := (l.map Prod.snd).length) ?_
      refine s_ldEN (s := s) (l' := v0.1) drop_val v0.2.1 ?_
      refine s_stN (b := o) ?_ ok.vz.1 v0.2.1 v0.2.2
      refine s_dr ?_
      refine s_ld (b := b) (x := s) ?_
      refine s_ldN (b := x3) (off := 0 + 1) (l := G.f (k, v)) (l' := v.1) ?_ (List.take_of_length_le (Nat.le_of_eq v.2.1)) v.2.1
      refine s_idx (s := s) (i := (l.map Prod.snd).length) ?_
      refine s_stEN (s := s) ?_ v.2.1 ?_ v.2.2
      rotate_left
      · rw [flatMap_len G.f _ G.f_len, hil, Nat.add_mul, Nat.add_mul]; omega
      rw [lay_val]
      refine s_ret3 (v := v0) ?_
      obtain ⟨q0', ps', e1, e2, e3, e4⟩ := zback l q (((k, v), q1) :: r)
      have e5 : l.map Prod.fst ++ q :: (((k, v0), q1) :: r).map Prod.snd = q0' :: ps'.map Prod.snd := e3.symm
      have e6 : l.map Prod.snd ++ (k, v) :: r.map Prod.fst = ps'.map Prod.fst := e2.symm
      rw [e5, e6]
      refine s_end (Δ := nodeB G b s kd :: itsR G s (ps'.map Prod.fst) :: kpsR G kd ((q0' :: ps'.map Prod.snd).map ptr) :: kidsR G d (q0' :: ps'.map Prod.snd) :: Γ) ?_
      simp only [List.length_cons] at hlen e1
      refine s_mkS (m := 2) (fun _ h => ?_) (by omega) ?_
      · rw [h, List.length_nil] at e1; omega
      refine h1 _ _ _ (.inl ⟨preL l ++ q.2, q1.2 ++ postL r, ?_, ?_, rfl⟩)
      · simp [postL]
      · rw [e4]; simp [postL]
    · obtain ⟨l, q, r, rfl, rfl, hK, hL, hlen⟩ := zip_of (q0 := q0) e
      rw [e, hK]
      rw [hL] at hs h1 h2
      refine s_f ?_
      refine s_nn ?_
      have hkl : ((l.map Prod.fst ++ q :: r.map Prod.snd).map ptr).length = l.length + r.length + 1 := by simp; omega
      refine s_cap kd fun m1 m2 m3 m4 => ?_
      rw [kp_len, hkl] at m1
      refine s_cap s fun l1 l2 l3 l4 => ?_
      rw [flatMap_len G.f _ G.f_len] at l1
      have hil : (l.map Prod.snd ++ r.map Prod.fst).length = l.length + r.length := by simp
      have hn : s.n = l.length + r.length := by rw [← hil]; exact (Nat.eq_of_mul_eq_mul_right (by omega) l1).symm
      refine s_ld (b := b) (x := kd) ?_
      refine s_f ?_ (by simp; omega)
      refine s_dr ?_
      refine s_ld (b := b) (x := kd) ?_
      refine s_idx (s := kd) (i := l.length) ?_ (by simp)
      refine s_ldE0 (s := kd) (x := ptr q) (by simp) ?_
      refine s_ldN (b := x3) (l' := G.f (k, v)) ?_ (List.take_of_length_le (by simp [G.f_len])) (G.f_len _)
      refine s_pick (kidsR G d (l.map Prod.fst ++ q :: r.map Prod.snd)) ?_
      refine s_kid ?_
      have hs1 := List.pairwise_append.1 hs
      have hs2 := List.pairwise_append.1 hs1.1
      have hpre := pre_lt ok l hs2.1 hA
      have hpost := post_gt ok r hs1.2.1 hC
      refine ih (m := 2) (by omega) hs2.2.1 (fun M' old had hp => ?_) fun M1 x M2 old had rb mb hp => ?_
      · refine s_stN (b := o) ?_ ok.vz.1 old.2.1 old.2.2
        refine s_f ?_
        refine s_end (Δ := valB G o old :: nodeB G b s kd :: itsR G s (l.map Prod.snd ++ r.map Prod.fst) :: kpsR G kd ((l.map Prod.fst ++ q :: r.map Prod.snd).map ptr) :: NodeR G d 2 q.1 M' :: kidsR G d (l.map Prod.fst ++ r.map Prod.snd) :: Γ) ?_
        refine s_s1 ok (by omega) (.inr (by omega)) (fun h5 => ?_) fun x h6 hx s1 c1 r s2 c2 mb => (by omega)
        obtain ⟨q0', ps', e1, e2, e3, e4⟩ := zback l (q.1, M') r
        refine s_end (Δ := NodeR G d 2 q.1 M' :: kidsR G d (l.map Prod.fst ++ r.map Prod.snd) :: nodeB G b s kd :: itsR G s (l.map Prod.snd ++ r.map Prod.fst) :: kpsR G kd ((l.map Prod.fst ++ q :: r.map Prod.snd).map ptr) :: Γ) ?_
        refine s_unkid (q := (q.1, M')) ?_
        have e5 : (l.map Prod.fst ++ q :: r.map Prod.snd).map ptr = (l.map Prod.fst ++ (q.1, M') :: r.map Prod.snd).map ptr := by simp [ptr]
        rw [e5, ← e2, ← e3]
        refine s_end (Δ := nodeB G b s kd :: itsR G s (ps'.map Prod.fst) :: kpsR G kd ((q0' :: ps'.map Prod.snd).map ptr) :: kidsR G d (q0' :: ps'.map Prod.snd) :: Γ) ?_
        refine s_mkS (m := 2) (fun _ h => ?_) (by omega) ?_
        · rw [h] at e1; rw [List.length_nil] at e1
          exact hne hm (List.length_eq_zero_iff.1 (by omega))
        rw [e4]
        exact h1 _ _ _ (hp.mid hpre hpost)
      · refine s_stN (b := o) ?_ ok.vz.1 old.2.1 old.2.2
        refine s_t ?_
        refine s_dr ?_
        refine s_ws ?_
        refine s_nn ?_
        refine s_ldS (b := b) (x := s) ?_
        refine s_ldNS (b := mb) (l' := G.f x) ?_ (List.take_of_length_le (by simp [G.f_len])) (G.f_len _)
        refine s_bld1 ?_ (by simp [ok.vz.1]) (G.f_len _)
        refine s_new fun t => ?_
        refine s_sv ?_
        obtain ⟨R, rot, hins⟩ := ok.insI
        refine fun w hw => hins _ _ _ _ _ ?_
        refine hg hw ?_
        clear hw w
        refine s_ins (s := s) (i := (l.map Prod.snd).length) (t := t) (by simp; omega) (by omega) (G.f_len _) (by omega) (fl_flat ok _) (f_flat ok _) (fun s' hs' => ?_) ok.TI ok.ZI
        rw [ins_items]
        refine s_st (b := b) ?_
        refine s_ld (b := b) (x := kd) ?_
        refine s_ai ?_ (by simp; omega) (by simp; omega)
        refine s_new fun t2 => ?_
        have hkp : (l.map Prod.fst ++ q :: r.map Prod.snd).map ptr = (l.map Prod.fst ++ [q]).map ptr ++ (r.map Prod.snd).map ptr := by simp
        rw [hkp]
        have hkA : ((l.map Prod.fst ++ [q]).map ptr).length = l.length + 1 := by simp
        obtain ⟨R2, rot2, hins2⟩ := ok.insK
        refine fun w hw => hins2 _ _ _ _ _ ?_
        refine hg hw ?_
        clear hw w
        rw [show (((l.map Prod.snd).length : Nat) : Int) + 1 = (((l.map Prod.fst ++ [q]).map ptr).length : Nat) by rw [hkA]; simp]
        refine s_ins (s := kd) (i := ((l.map Prod.fst ++ [q]).map ptr).length) (t := t2) (us := [Value.pointer (some ⟨rb, 0, none⟩)]) (by omega) (by omega) rfl (by omega) (kp_flat _) (by simp [flatV]) (fun kd' hkd' => ?_) ok.TK ok.ZK
        rw [ins_kids]
        refine s_st (b := b) ?_
        obtain ⟨q0', ps', e1, e2, e3, e4⟩ := zback l (q.1, M1) ((x, (rb, M2)) :: r)
        simp only [List.length_cons] at e1
        have e5 : (l.map Prod.fst ++ [q]).map ptr ++ some ⟨rb, 0, none⟩ :: (r.map Prod.snd).map ptr = (q0' :: ps'.map Prod.snd).map ptr := by rw [e3]; simp [ptr]
        have e6 : l.map Prod.snd ++ x :: r.map Prod.fst = ps'.map Prod.fst := e2.symm
        rw [e5, e6]
        refine s_end (Δ := NodeR G d 2 rb M2 :: kidsR G d (l.map Prod.fst ++ r.map Prod.snd) :: NodeR G d 2 q.1 M1 :: valB G o old :: nodeB G b s' kd' :: itsR G s' (ps'.map Prod.fst) :: kpsR G kd' ((q0' :: ps'.map Prod.snd).map ptr) :: Γ) ?_
        refine s_unkid (q := (rb, M2)) ?_
        refine s_swap ?_
        refine s_unkid (q := (q.1, M1)) ?_
        rw [show l.map Prod.fst ++ (q.1, M1) :: (rb, M2) :: r.map Prod.snd = q0' :: ps'.map Prod.snd from e3.symm]
        have hput : PutR c (G.z0 ok.vz) (preL l ++ q.2 ++ postL r) k v (psL q0' ps') old had := by
          rw [e4]
          have := hp.mid hpre hpost
          simpa [postL] using this
        refine s_end (Δ := valB G o old :: nodeB G b s' kd' :: itsR G s' (ps'.map Prod.fst) :: kpsR G kd' ((q0' :: ps'.map Prod.snd).map ptr) :: kidsR G d (q0' :: ps'.map Prod.snd) :: Γ) ?_
        refine s_s1 ok (by simp; omega) (.inr (by simp)) (fun h5 => ?_) fun y h6 hy s1 c1 r2 s2 c2 mb2 => ?_
        · rw [List.length_map] at h5
          refine s_end (Δ := nodeB G b s' kd' :: itsR G s' (ps'.map Prod.fst) :: kpsR G kd' ((q0' :: ps'.map Prod.snd).map ptr) :: kidsR G d (q0' :: ps'.map Prod.snd) :: Γ) ?_
          refine s_mkS (m := 2) (fun _ h => ?_) h5 (h1 _ _ _ hput)
          rw [h, List.length_nil] at e1; omega
        · rw [List.length_map] at h6
          obtain ⟨P, p3, R, hP, e7⟩ : ∃ P p3 R, P.length = 2 ∧ ps' = P ++ p3 :: R := ⟨ps'.take 2, ps'[2], ps'.drop 3, by rw [List.length_take]; omega, by rw [← List.drop_eq_getElem_cons, List.take_append_drop]⟩
          have hRl : R.length = 3 := by have := congrArg List.length e7; simp only [List.length_append, List.length_cons] at this; omega
          have t1 : (ps'.map Prod.fst).take 2 = P.map Prod.fst := by rw [e7, List.map_append]; exact List.take_left' (by simp [hP])
          have t2 : (ps'.map Prod.fst).drop 3 = R.map Prod.fst := by rw [e7, show P ++ p3 :: R = (P ++ [p3]) ++ R by simp, List.map_append]; exact List.drop_left' (by simp [hP])
          have t3 : q0' :: ps'.map Prod.snd = (q0' :: P.map Prod.snd) ++ (p3.2 :: R.map Prod.snd) := by rw [e7]; simp
          have t4 : ((q0' :: ps'.map Prod.snd).map ptr).take 3 = (q0' :: P.map Prod.snd).map ptr := by rw [t3, List.map_append]; exact List.take_left' (by simp [hP])
          have t5 : ((q0' :: ps'.map Prod.snd).map ptr).drop 3 = (p3.2 :: R.map Prod.snd).map ptr := by rw [t3, List.map_append]; exact List.drop_left' (by simp [hP])
          have t6 : psL q0' ps' = psL q0' P ++ p3.1 :: psL p3.2 R := by rw [e7]; simp [psL]
          have t7 : y = p3.1 := by
            rw [t1, t2, e7] at hy
            simp only [List.map_append, List.map_cons, List.append_cancel_left_eq, List.cons.injEq] at hy
            exact hy.1.symm
          rw [t4, t5, t1, t2, t3, t7]
          refine s_pick (kidsR G d ((q0' :: P.map Prod.snd) ++ (p3.2 :: R.map Prod.snd))) ?_
          refine s_kids_split ?_
          refine s_end (Δ := nodeB G b s1 c1 :: itsR G s1 (P.map Prod.fst) :: kpsR G c1 ((q0' :: P.map Prod.snd).map ptr) :: kidsR G d (q0' :: P.map Prod.snd) :: nodeB G r2 s2 c2 :: itsR G s2 (R.map Prod.fst) :: kpsR G c2 ((p3.2 :: R.map Prod.snd).map ptr) :: kidsR G d (p3.2 :: R.map Prod.snd) :: blk mb2 (.cells (G.f p3.1).toArray G.tI (0, 0)) :: Γ) ?_
          refine s_mkS (m := 2) (fun _ h => by rw [h] at hP; cases hP) (by omega) ?_
          refine s_end (Δ := nodeB G r2 s2 c2 :: itsR G s2 (R.map Prod.fst) :: kpsR G c2 ((p3.2 :: R.map Prod.snd).map ptr) :: kidsR G d (p3.2 :: R.map Prod.snd) :: blk mb2 (.cells (G.f p3.1).toArray G.tI (0, 0)) :: NodeR G (d + 1) 2 b (psL q0' P) :: Γ) ?_
          refine s_mkS (m := 2) (fun _ h => by rw [h] at hRl; cases hRl) (by omega) ?_
          exact s_end (h2 _ _ _ _ _ r2 mb2 (t6 ▸ hput))
end
end Bt
end Go.Sep
/- A B-tree: New, Get and Put. Holds for every program. -/
namespace Go.Sep
open Go Go.RowKit
set_option linter.unusedSimpArgs false
set_option linter.unusedVariables false
namespace Bt
section
variable {κ : Type} {G : BtT κ} {c : κ → κ → Int} {B : World} {Γ Δ : List HProp}
/-- A tree of the items L, in their keys' order. -/
def TreeR (G : BtT κ) (c : κ → κ → Int) (t : Nat) (L : List G.It) : HProp := ex fun d => ex fun b => Sep.stars [pur (Srt c L), blk t (.cells [.pointer (some ⟨b, 0, none⟩), .int .i64 L.length].toArray G.tT (0, 0)), NodeR G d 1 b L]
instance (priority := high) own_tree {t : Nat} {L : List G.It} : Own t (TreeR G c t L :: Γ) (TreeR G c t L) Γ := ⟨.refl _⟩
theorem s_tree {t : Nat} {L : List G.It} {k : K} (h : ∀ d b, Srt c L → HG B (blk t (.cells [.pointer (some ⟨b, 0, none⟩), .int .i64 L.length].toArray G.tT (0, 0)) :: NodeR G d 1 b L :: Γ) k) : HG B (TreeR G c t L :: Γ) k :=
  s_ex fun d => s_ex fun b => s_flat <| s_pur fun h1 => h d b h1
theorem tree_of {t d b : Nat} {L : List G.It} {w : World} (h1 : Srt c L) (hw : Holds B (blk t (.cells [.pointer (some ⟨b, 0, none⟩), .int .i64 L.length].toArray G.tT (0, 0)) :: NodeR G d 1 b L :: Γ) w) : Holds B (TreeR G c t L :: Γ) w := by
  have h3 : Holds B (Sep.stars [pur (Srt c L), blk t (.cells [.pointer (some ⟨b, 0, none⟩), .int .i64 L.length].toArray G.tT (0, 0)), NodeR G d 1 b L] :: Γ) w := Holds.flat.2 (Holds.pur.2 ⟨h1, hw⟩)
  exact h3.imp fun g hg => ⟨d, b, hg⟩
theorem s_mkTree {t d b : Nat} {L : List G.It} {k : K} (h1 : Srt c L) (h : HG B (TreeR G c t L :: Γ) k) : HG B (blk t (.cells [.pointer (some ⟨b, 0, none⟩), .int .i64 L.length].toArray G.tT (0, 0)) :: NodeR G d 1 b L :: Γ) k := fun w hw => h w (tree_of h1 hw)
/-- Tree's facts. -/
theorem tree_srt {t : Nat} {L : List G.It} {k : K} (h : Srt c L → HG B (TreeR G c t L :: Γ) k) : HG B (TreeR G c t L :: Γ) k := s_tree fun d b h1 => s_mkTree h1 (h h1)

theorem tnew_spec {Q : Option Addr → K} (h : ∀ t, HG B (TreeR G c t [] :: Γ) (Q (some ⟨t, 0, none⟩))) : HG B Γ (tnew G Q) := by
  unfold tnew
  refine s_new fun b => ?_
  refine s_new fun t => ?_
  refine fun w hw => ?_
  refine hg (show Holds B (SlC G.tI (G.nv + 1) ⟨none, 0, 0⟩ [] :: _) w from hw.nilSl G.tI (G.nv + 1)) ?_
  refine fun w hw => ?_
  refine hg (show Holds B (SlC G.tK 1 ⟨none, 0, 0⟩ [] :: _) w from hw.nilSl G.tK 1) ?_
  refine s_end (Δ := nodeB G b ⟨none, 0, 0⟩ ⟨none, 0, 0⟩ :: SlC G.tI (G.nv + 1) ⟨none, 0, 0⟩ [] :: SlC G.tK 1 ⟨none, 0, 0⟩ [] :: blk t (.cells [.pointer (some ⟨b, 0, none⟩), .int .i64 0].toArray G.tT (0, 0)) :: Γ) ?_
  refine s_mk0 (m := 1) (L := []) (by simp) (by simp) ?_
  refine s_swap ?_
  exact s_mkTree (L := []) List.Pairwise.nil (h t)

theorem NodeR.weak {d m m' b : Nat} {L : List G.It} (hm : m' = 2 → m = 2) (hm' : 1 ≤ m' → 1 ≤ m) : ∀ h, NodeR G d m b L h → NodeR G d m' b L h := fun h hh => by
  cases d with
  | zero =>
    obtain ⟨s, kd, hh⟩ := hh
    exact ⟨s, kd, stars_cons_imp (fun g hg => ⟨fun h2 => hg.1 (hm h2), hg.2⟩) (fun _ h => h) hh⟩
  | succ d =>
    obtain ⟨s, kd, q0, ps, hh⟩ := hh
    exact ⟨s, kd, q0, ps, stars_cons_imp (fun g hg => ⟨fun h2 => hg.1 (hm' h2), hg.2⟩) (fun _ h => h) hh⟩

theorem PutR.srt (ok : BtOk G c) {ν : Type} {z v old : ν} {L L' : List (κ × ν)} {k : κ} {had : Bool} (h : PutR c z L k v L' old had) (hs : Srt c L) : Srt c L' := by
  rcases h with ⟨A, C, rfl, rfl, rfl⟩ | ⟨A, C, rfl, h1, h2, rfl, rfl, rfl⟩
  · obtain ⟨a1, a2, a3⟩ := List.pairwise_append.1 hs
    obtain ⟨b1, b2⟩ := List.pairwise_cons.1 a2
    refine List.pairwise_append.2 ⟨a1, List.pairwise_cons.2 ⟨fun y hy => b1 y hy, b2⟩, fun x hx y hy => ?_⟩
    rcases List.mem_cons.1 hy with rfl | hy
    · exact a3 x hx (k, old) List.mem_cons_self
    · exact a3 x hx y (List.mem_cons_of_mem _ hy)
  · obtain ⟨a1, a2, a3⟩ := List.pairwise_append.1 hs
    refine List.pairwise_append.2 ⟨a1, List.pairwise_cons.2 ⟨fun y hy => h2 y hy, a2⟩, fun x hx y hy => ?_⟩
    rcases List.mem_cons.1 hy with rfl | hy
    · exact h1 x hx
    · exact a3 x hx y hy
theorem PutR.len {ν : Type} {z v old : ν} {L L' : List (κ × ν)} {k : κ} {had : Bool} (h : PutR c z L k v L' old had) : L'.length = L.length + (if had then 0 else 1) := by
  rcases h with ⟨A, C, rfl, rfl, rfl⟩ | ⟨A, C, rfl, h1, h2, rfl, rfl, rfl⟩
  · simp
  · simp; omega

theorem fill_kv {kz a : Value} {vz us : List Value} {n : Nat} (ha : flatV a = true) (hz : vz.length = n) (hu : us.length = n) : Instr.fill ([(0, 1), (1, n)][·]?) (kz :: vz).toArray [(0, a), (1, .agg us.toArray)] = some (a :: us).toArray := by
  have h0 : a.cells = #[a] := by cases a <;> first | rfl | (simp [flatV] at ha)
  have h1 : (Value.agg us.toArray).cells = us.toArray := rfl
  have e0 : ([(0, 1), (1, n)] : List (Nat × Nat))[0]? = some (0, 1) := rfl
  have e1 : ([(0, 1), (1, n)] : List (Nat × Nat))[1]? = some (1, n) := rfl
  simp only [Instr.fill, h0, h1, e0, e1]
  have h2 := foldl_set_all us [a] vz (by simp; omega)
  simp [hu, hz]
  refine ⟨by omega, ?_⟩
  rw [show [a].length = 1 from rfl, List.zipIdx_eq_map_add, List.foldl_map] at h2
  simpa [Nat.add_comm] using h2
theorem s_tput3 (ok : BtOk G c) {o t6 : Nat} {old : Cel G.nv} {v6 : Cel G.nv} {had : Bool} {Q : Array Value → Bool → K} (h : HG B Γ (Q old.1.toArray had)) : HG B (valB G o old :: valB G t6 v6 :: Γ) (tput_s3 G Q ⟨t6, 0, none⟩ ⟨o, 0, none⟩ had) := by
  unfold tput_s3
  have e : (old.1.drop 0).take G.nv = old.1 := by rw [List.drop_zero, List.take_of_length_le (Nat.le_of_eq old.2.1)]
  refine s_ldN (b := o) ?_ e old.2.1
  refine s_stN (b := t6) ?_ v6.2.1 old.2.1 old.2.2
  refine s_ldN (b := t6) ?_ e old.2.1
  exact s_end h
theorem s_tput2 (ok : BtOk G c) {o t t6 d b n : Nat} {L L' : List G.It} {k : κ} {v old v6 : Cel G.nv} {had : Bool} {Q : Array Value → Bool → K} (hs : Srt c L) (hL : L.length < 1000000000) (hp : PutR c (G.z0 ok.vz) L k v L' old had)
    (h : HG B (TreeR G c t L' :: Γ) (Q old.1.toArray had)) :
    HG B (valB G o old :: valB G t6 v6 :: blk t (.cells [.pointer (some ⟨b, 0, none⟩), .int .i64 L.length].toArray G.tT (0, 0)) :: NodeR G d 1 b L' :: Γ) (tput_s2 G Q (some ⟨t, 0, none⟩) ⟨t6, 0, none⟩ ⟨o, 0, none⟩ had) := by
  unfold tput_s2
  have hlen := hp.len
  refine s_ite (fun hb => ?_) fun hb => ?_
  · have h0 : had = false := by simpa using hb
    refine s_nn ?_
    refine s_ld (b := t) (x := (L.length : Int)) ?_
    refine s_ai ?_
    refine s_st (b := t) ?_
    rw [show ((L.length : Nat) : Int) + 1 = ((L'.length : Nat) : Int) by rw [hlen, h0]; simp]
    refine s_end (Δ := valB G o old :: valB G t6 v6 :: blk t (.cells [.pointer (some ⟨b, 0, none⟩), .int .i64 L'.length].toArray G.tT (0, 0)) :: NodeR G d 1 b L' :: Γ) ?_
    refine s_tput3 ok ?_
    exact s_mkTree (hp.srt ok hs) h
  · have h0 : had = true := by simpa using hb
    rw [show ((L.length : Nat) : Int) = ((L'.length : Nat) : Int) by rw [hlen, h0]; simp]
    refine s_tput3 ok ?_
    exact s_mkTree (hp.srt ok hs) h

theorem s_tput1 (ok : BtOk G c) {o t t6 d b n : Nat} {L L' : List G.It} {k : κ} {v old v6 : Cel G.nv} {had : Bool} {Q : Array Value → Bool → K} (hs : Srt c L) (hL : L.length < 1000000000) (hp : PutR c (G.z0 ok.vz) L k v L' old had)
    (h : HG B (TreeR G c t L' :: Γ) (Q old.1.toArray had)) :
    HG B (valB G o old :: valB G t6 v6 :: blk t (.cells [.pointer (some ⟨b, 0, none⟩), .int .i64 L.length].toArray G.tT (0, 0)) :: NodeR G d 2 b L' :: Γ) (tput_s1 G Q (some ⟨t, 0, none⟩) ⟨t6, 0, none⟩ ⟨o, 0, none⟩ had none none) := by
  unfold tput_s1
  refine s_f ?_
  refine s_own b ?_
  refine s_conv (NodeR.weak (m' := 1) (by simp) (by simp)) ?_
  refine s_end (Δ := valB G o old :: valB G t6 v6 :: blk t (.cells [.pointer (some ⟨b, 0, none⟩), .int .i64 L.length].toArray G.tT (0, 0)) :: NodeR G d 1 b L' :: Γ) ?_
  exact s_tput2 ok (n := n) hs hL hp h
theorem s_root {b r b2 t1 t2 d : Nat} {M1 M2 : List G.It} {x : G.It} {k : K} (h : HG B (NodeR G (d + 1) 1 b2 (M1 ++ x :: M2) :: Γ) k) :
    HG B (nodeB G b2 ⟨some ⟨t1, 0, none⟩, 1, 1⟩ ⟨some ⟨t2, 0, none⟩, 2, 2⟩ :: blk t1 (.cells (G.f x).toArray G.tI (0, 0)) :: blk t2 (.cells [.pointer (some ⟨b, 0, none⟩), .pointer (some ⟨r, 0, none⟩)].toArray G.tK (0, 0)) :: NodeR G d 2 b M1 :: NodeR G d 2 r M2 :: Γ) k := by
  refine s_own t1 ?_
  refine s_conv (A' := itsR G ⟨some ⟨t1, 0, none⟩, 1, 1⟩ [x]) (blk_SlC (vs := [x].flatMap G.f) (by simp) (by simp [G.f_len])) ?_
  refine s_own t2 ?_
  refine s_conv (A' := kpsR G ⟨some ⟨t2, 0, none⟩, 2, 2⟩ [some ⟨b, 0, none⟩, some ⟨r, 0, none⟩]) (blk_SlC (vs := [Value.pointer (some ⟨b, 0, none⟩), Value.pointer (some ⟨r, 0, none⟩)]) (by simp) (by simp)) ?_
  refine fun w hw => ?_
  refine hg (show Holds B (kidsR G d [] :: _) w from Holds.flat.2 hw) ?_
  refine s_end (Δ := NodeR G d 2 r M2 :: kidsR G d [] :: NodeR G d 2 b M1 :: nodeB G b2 ⟨some ⟨t1, 0, none⟩, 1, 1⟩ ⟨some ⟨t2, 0, none⟩, 2, 2⟩ :: itsR G ⟨some ⟨t1, 0, none⟩, 1, 1⟩ [x] :: kpsR G ⟨some ⟨t2, 0, none⟩, 2, 2⟩ [some ⟨b, 0, none⟩, some ⟨r, 0, none⟩] :: Γ) ?_
  show HG B (_ :: kidsR G d ([] ++ []) :: _) k
  refine s_unkid (A := []) (C := []) (q := (r, M2)) ?_
  refine s_swap ?_
  refine s_unkid (A := []) (C := [(r, M2)]) (q := (b, M1)) ?_
  show HG B (kidsR G d (((b, M1) : Kid G) :: [(x, ((r, M2) : Kid G))].map Prod.snd) :: _ :: itsR G ⟨some ⟨t1, 0, none⟩, 1, 1⟩ ([(x, ((r, M2) : Kid G))].map Prod.fst) :: kpsR G ⟨some ⟨t2, 0, none⟩, 2, 2⟩ ((((b, M1) : Kid G) :: [(x, ((r, M2) : Kid G))].map Prod.snd).map ptr) :: _) k
  refine s_end (Δ := nodeB G b2 ⟨some ⟨t1, 0, none⟩, 1, 1⟩ ⟨some ⟨t2, 0, none⟩, 2, 2⟩ :: itsR G ⟨some ⟨t1, 0, none⟩, 1, 1⟩ ([(x, ((r, M2) : Kid G))].map Prod.fst) :: kpsR G ⟨some ⟨t2, 0, none⟩, 2, 2⟩ ((((b, M1) : Kid G) :: [(x, ((r, M2) : Kid G))].map Prod.snd).map ptr) :: kidsR G d (((b, M1) : Kid G) :: [(x, ((r, M2) : Kid G))].map Prod.snd) :: Γ) ?_
  refine s_mkS (m := 1) (by simp) (by simp) ?_
  have e : psL ((b, M1) : Kid G) [(x, (r, M2))] = M1 ++ x :: M2 := by simp [psL]
  rw [e]; exact h
theorem s_tput1b (ok : BtOk G c) {o t t6 d b n r mb : Nat} {L M1 M2 : List G.It} {x : G.It} {k : κ} {v old v6 : Cel G.nv} {had : Bool} {Q : Array Value → Bool → K} (hs : Srt c L) (hL : L.length < 1000000000) (hp : PutR c (G.z0 ok.vz) L k v (M1 ++ x :: M2) old had)
    (h : HG B (TreeR G c t (M1 ++ x :: M2) :: Γ) (Q old.1.toArray had)) :
    HG B (valB G o old :: valB G t6 v6 :: blk t (.cells [.pointer (some ⟨b, 0, none⟩), .int .i64 L.length].toArray G.tT (0, 0)) :: blk mb (.cells (G.f x).toArray G.tI (0, 0)) :: NodeR G d 2 b M1 :: NodeR G d 2 r M2 :: Γ) (tput_s1 G Q (some ⟨t, 0, none⟩) ⟨t6, 0, none⟩ ⟨o, 0, none⟩ had (some ⟨mb, 0, none⟩) (some ⟨r, 0, none⟩)) := by
  unfold tput_s1
  refine s_t ?_
  refine s_dr ?_
  refine s_ws ?_
  refine s_nn ?_
  refine s_nn ?_
  refine s_ldNS (b := mb) (l' := G.f x) ?_ (List.take_of_length_le (by simp [G.f_len])) (G.f_len _)
  refine s_ldS (b := t) (x := some ⟨b, 0, none⟩) ?_
  refine s_all2 ?_ ?_
  · refine s_bld1 ?_ (by simp [ok.vz.1]) (G.f_len _)
    refine s_new fun t1 => ?_
    refine s_sv ?_
    refine s_new fun t2 => ?_
    refine s_sv ?_
    refine s_new fun b2 => ?_
    refine s_st (b := t) ?_
    refine s_end (Δ := nodeB G b2 ⟨some ⟨t1, 0, none⟩, 1, 1⟩ ⟨some ⟨t2, 0, none⟩, 2, 2⟩ :: blk t1 (.cells (G.f x).toArray G.tI (0, 0)) :: blk t2 (.cells [.pointer (some ⟨b, 0, none⟩), .pointer (some ⟨r, 0, none⟩)].toArray G.tK (0, 0)) :: NodeR G d 2 b M1 :: NodeR G d 2 r M2 :: valB G o old :: valB G t6 v6 :: blk t (.cells [.pointer (some ⟨b2, 0, none⟩), .int .i64 L.length].toArray G.tT (0, 0)) :: Γ) ?_
    refine s_root ?_
    refine s_end (Δ := valB G o old :: valB G t6 v6 :: blk t (.cells [.pointer (some ⟨b2, 0, none⟩), .int .i64 L.length].toArray G.tT (0, 0)) :: NodeR G (d + 1) 1 b2 (M1 ++ x :: M2) :: Γ) ?_
    exact s_tput2 ok (n := n) hs hL hp h
  · refine s_new fun t2 => ?_
    refine s_sv ?_
    refine s_bld1 ?_ (by simp [ok.vz.1]) (G.f_len _)
    refine s_new fun t1 => ?_
    refine s_sv ?_
    refine s_new fun b2 => ?_
    refine s_st (b := t) ?_
    refine s_end (Δ := nodeB G b2 ⟨some ⟨t1, 0, none⟩, 1, 1⟩ ⟨some ⟨t2, 0, none⟩, 2, 2⟩ :: blk t1 (.cells (G.f x).toArray G.tI (0, 0)) :: blk t2 (.cells [.pointer (some ⟨b, 0, none⟩), .pointer (some ⟨r, 0, none⟩)].toArray G.tK (0, 0)) :: NodeR G d 2 b M1 :: NodeR G d 2 r M2 :: valB G o old :: valB G t6 v6 :: blk t (.cells [.pointer (some ⟨b2, 0, none⟩), .int .i64 L.length].toArray G.tT (0, 0)) :: Γ) ?_
    refine s_root ?_
    refine s_end (Δ := valB G o old :: valB G t6 v6 :: blk t (.cells [.pointer (some ⟨b2, 0, none⟩), .int .i64 L.length].toArray G.tT (0, 0)) :: NodeR G (d + 1) 1 b2 (M1 ++ x :: M2) :: Γ) ?_
    exact s_tput2 ok (n := n) hs hL hp h

/-- Put. -/
theorem tput_spec (ok : BtOk G c) {t : Nat} {L : List G.It} {k : κ} {v : Cel G.nv} {Q : Array Value → Bool → K} (hL : L.length < 1000000000) (h : ∀ L' old had, PutR c (G.z0 ok.vz) L k v L' old had → HG B (TreeR G c t L' :: Γ) (Q old.1.toArray had)) :
    HG B (TreeR G c t L :: Γ) (tput G (some ⟨t, 0, none⟩) k v.1.toArray Q) := by
  refine s_tree fun d b hs => ?_
  unfold tput
  refine s_new fun v5 => ?_
  refine s_new fun t6 => ?_
  refine s_dr ?_
  refine s_ws ?_
  refine s_nn ?_
  refine s_ldS (b := t) (x := some ⟨b, 0, none⟩) ?_
  refine s_ldNS (b := v5) (off := 0) (l := v.1) (l' := v.1) ?_ (List.take_of_length_le (Nat.le_of_eq v.2.1)) v.2.1
  refine s_bld (cs := G.f (k, v)) ?_ (fill_kv (ok.kf k) ok.vz.1 v.2.1)
  refine s_all2 ?_ ?_
  · refine s_end (Δ := NodeR G d 1 b L :: blk t (.cells [.pointer (some ⟨b, 0, none⟩), .int .i64 L.length].toArray G.tT (0, 0)) :: valB G t6 (G.z0 ok.vz) :: Γ) ?_
    refine nput_spec ok d (m := 1) (Nat.le_refl _) hs (fun M' old had hp => ?_) fun M1 x M2 old had r mb hp => ?_
    · refine s_new fun o => ?_
      refine s_stN (b := o) ?_ ok.vz.1 old.2.1 old.2.2
      refine s_end (Δ := valB G o old :: valB G t6 (G.z0 ok.vz) :: blk t (.cells [.pointer (some ⟨b, 0, none⟩), .int .i64 L.length].toArray G.tT (0, 0)) :: NodeR G d 2 b M' :: Γ) ?_
      exact s_tput1 ok (n := 0) hs hL hp (h _ _ _ hp)
    · refine s_new fun o => ?_
      refine s_stN (b := o) ?_ ok.vz.1 old.2.1 old.2.2
      refine s_end (Δ := valB G o old :: valB G t6 (G.z0 ok.vz) :: blk t (.cells [.pointer (some ⟨b, 0, none⟩), .int .i64 L.length].toArray G.tT (0, 0)) :: blk mb (.cells (G.f x).toArray G.tI (0, 0)) :: NodeR G d 2 b M1 :: NodeR G d 2 r M2 :: Γ) ?_
      exact s_tput1b ok (n := 0) hs hL hp (h _ _ _ hp)
  · refine s_new fun o => ?_
    refine s_sv ?_
    refine s_end (Δ := NodeR G d 1 b L :: blk t (.cells [.pointer (some ⟨b, 0, none⟩), .int .i64 L.length].toArray G.tT (0, 0)) :: valB G t6 (G.z0 ok.vz) :: valB G o (G.z0 ok.vz) :: Γ) ?_
    refine nput_spec ok d (m := 1) (Nat.le_refl _) hs (fun M' old had hp => ?_) fun M1 x M2 old had r mb hp => ?_
    · refine s_stN (b := o) ?_ ok.vz.1 old.2.1 old.2.2
      refine s_end (Δ := valB G o old :: valB G t6 (G.z0 ok.vz) :: blk t (.cells [.pointer (some ⟨b, 0, none⟩), .int .i64 L.length].toArray G.tT (0, 0)) :: NodeR G d 2 b M' :: Γ) ?_
      exact s_tput1 ok (n := 0) hs hL hp (h _ _ _ hp)
    · refine s_stN (b := o) ?_ ok.vz.1 old.2.1 old.2.2
      refine s_end (Δ := valB G o old :: valB G t6 (G.z0 ok.vz) :: blk t (.cells [.pointer (some ⟨b, 0, none⟩), .int .i64 L.length].toArray G.tT (0, 0)) :: blk mb (.cells (G.f x).toArray G.tI (0, 0)) :: NodeR G d 2 b M1 :: NodeR G d 2 r M2 :: Γ) ?_
      exact s_tput1b ok (n := 0) hs hL hp (h _ _ _ hp)

/-- Where a search in a tree stands. -/
structure At (G : BtT κ) where
  d : Nat
  m : Nat
  b : Nat
  M : List G.It
  W : List HProp
  A : List G.It
  C : List G.It
/-- Get. -/
theorem tget_spec (ok : BtOk G c) {t : Nat} {L : List G.It} {k : κ} {Q : Array Value → Bool → K} (hfound : ∀ A v C, L = A ++ (k, v) :: C → HG B (TreeR G c t L :: Γ) (Q v.1.toArray true)) (hnot : (∀ A C, L = A ++ C → (∀ x ∈ A, c x.1 k < 0) → (∀ x ∈ C, c k x.1 < 0) → HG B (TreeR G c t L :: Γ) (Q G.vz.toArray false))) :
    HG B (TreeR G c t L :: Γ) (tget G (some ⟨t, 0, none⟩) k Q) := by
  refine s_tree fun d b hs => ?_
  unfold tget
  refine s_new fun o => ?_
  refine s_nn ?_
  refine s_ld (b := t) (x := some ⟨b, 0, none⟩) ?_
  let W0 : List HProp := blk t (.cells [.pointer (some ⟨b, 0, none⟩), .int .i64 L.length].toArray G.tT (0, 0)) :: Γ
  refine s_end (Δ := NodeR G d 1 b L :: valB G o (G.z0 ok.vz) :: W0) ?_
  refine s_loop (ι := At G) (fun x i => x = some ⟨i.b, 0, none⟩ ∧ L = i.A ++ i.M ++ i.C ∧ (∀ x ∈ i.A, c x.1 k < 0) ∧ (∀ x ∈ i.C, c k x.1 < 0) ∧ ∀ k', HG B (TreeR G c t L :: Γ) k' → HG B (NodeR G i.d i.m i.b i.M :: i.W) k')
    (fun x i => NodeR G i.d i.m i.b i.M :: valB G o (G.z0 ok.vz) :: i.W) (fun x i => i.d) (⟨d, 1, b, L, W0, [], []⟩ : At G) ⟨rfl, by simp, by simp, by simp, fun k' hk => ?_⟩ ?_
  · refine s_end (Δ := blk t (.cells [.pointer (some ⟨b, 0, none⟩), .int .i64 L.length].toArray G.tT (0, 0)) :: NodeR G d 1 b L :: Γ) ?_
    exact s_mkTree hs hk
  clear d b W0
  rintro k' _ ⟨d, m, b, M, W, A, C⟩ ⟨rfl, hL, hA, hC, cl⟩ hk
  simp only at hL hA hC cl hk ⊢
  have hsM : Srt c M := by rw [hL] at hs; exact (List.pairwise_append.1 (List.pairwise_append.1 hs).1).2.1
  unfold tget_b1
  cases d with
  | zero =>
    refine s_node0 fun s kd hm hl => ?_
    refine s_search ok (s := s) (kd := kd) hsM (by omega) (fun A' v C' e => ?_) fun A' C' e hA' hC' => ?_
    · subst e
      refine s_t ?_
      refine s_nn ?_
      refine s_cap s fun l1 l2 l3 l4 => ?_
      rw [flatMap_len G.f _ G.f_len] at l1
      have hn : s.n = (A' ++ (k, v) :: C').length := (Nat.eq_of_mul_eq_mul_right (by omega) l1).symm
      have hlen : (A' ++ (k, v) :: C').length = A'.length + (C'.length + 1) := List.length_append
      refine s_ld (b := b) (x := s) ?_
      refine s_idx (s := s) (i := A'.length) ?_
      refine s_ldEN (s := s) (l' := v.1) drop_val v.2.1 ?_
      refine s_stN (b := o) ?_ ok.vz.1 v.2.1 v.2.2
      refine s_ldN (b := o) (off := 0) (l := v.1) (l' := v.1) ?_ (List.take_of_length_le (Nat.le_of_eq v.2.1)) v.2.1
      refine s_end (Δ := nodeB G b s kd :: itsR G s (A' ++ (k, v) :: C') :: kpsR G kd [] :: W) ?_
      refine s_mk0 hm hl (cl _ (hfound (A ++ A') v (C' ++ C) ?_))
      rw [hL]; simp
    · subst e
      refine s_f ?_
      refine s_nn ?_
      refine s_cap kd fun m1 m2 m3 m4 => ?_
      refine s_ld (b := b) (x := kd) ?_
      refine s_t ?_ (by simpa using m1.symm)
      refine s_ret3 (v := G.z0 ok.vz) ?_
      refine s_end (Δ := nodeB G b s kd :: itsR G s (A' ++ C') :: kpsR G kd [] :: W) ?_
      refine s_mk0 hm hl (cl _ (hnot (A ++ A') (C' ++ C) ?_ (fun x hx => ?_) fun x hx => ?_))
      · rw [hL]; simp
      · rcases List.mem_append.1 hx with hx | hx
        · exact hA x hx
        · exact hA' x hx
      · rcases List.mem_append.1 hx with hx | hx
        · exact hC' x hx
        · exact hC x hx
  | succ d =>
    refine s_nodeS fun s kd q0 ps hne hl hM => ?_
    subst hM
    refine s_search ok (s := s) (kd := kd) (hsM.sub (its_sub q0 ps)) (by simp; omega) (fun A' v C' e => ?_) fun A' C' e hA' hC' => ?_
    · rw [e]
      refine s_t ?_
      refine s_nn ?_
      refine s_cap s fun l1 l2 l3 l4 => ?_
      rw [flatMap_len G.f _ G.f_len] at l1
      have hn : s.n = (A' ++ (k, v) :: C').length := (Nat.eq_of_mul_eq_mul_right (by omega) l1).symm
      have hlen : (A' ++ (k, v) :: C').length = A'.length + (C'.length + 1) := List.length_append
      refine s_ld (b := b) (x := s) ?_
      refine s_idx (s := s) (i := A'.length) ?_
      refine s_ldEN (s := s) (l' := v.1) drop_val v.2.1 ?_
      refine s_stN (b := o) ?_ ok.vz.1 v.2.1 v.2.2
      refine s_ldN (b := o) (off := 0) (l := v.1) (l' := v.1) ?_ (List.take_of_length_le (Nat.le_of_eq v.2.1)) v.2.1
      rw [← e]
      refine s_end (Δ := nodeB G b s kd :: itsR G s (ps.map Prod.fst) :: kpsR G kd ((q0 :: ps.map Prod.snd).map ptr) :: kidsR G d (q0 :: ps.map Prod.snd) :: W) ?_
      obtain ⟨A2, C2, e2⟩ : ∃ A2 C2, psL q0 ps = A2 ++ (k, v) :: C2 := List.append_of_mem ((its_sub q0 ps).subset (by rw [e]; simp))
      refine s_mkS hne hl (cl _ (hfound (A ++ A2) v (C2 ++ C) ?_))
      rw [hL, e2]; simp
    · obtain ⟨l, q, r, rfl, rfl, hK, hL2, hlen⟩ := zip_of (q0 := q0) e
      rw [hK]
      rw [hL2] at hsM hL
      refine s_f ?_
      refine s_nn ?_
      have hkl : ((l.map Prod.fst ++ q :: r.map Prod.snd).map ptr).length = l.length + r.length + 1 := by simp; omega
      refine s_cap kd fun m1 m2 m3 m4 => ?_
      rw [kp_len, hkl] at m1
      refine s_ld (b := b) (x := kd) ?_
      refine s_f ?_ (by simp; omega)
      refine s_ld (b := b) (x := kd) ?_
      refine s_idx (s := kd) (i := l.length) ?_ (by simp)
      refine s_ldE0 (s := kd) (x := ptr q) (by simp) ?_
      refine s_pick (kidsR G d (l.map Prod.fst ++ q :: r.map Prod.snd)) ?_
      refine s_kid ?_
      have hs1 := List.pairwise_append.1 hsM
      have hs2 := List.pairwise_append.1 hs1.1
      have hpre := pre_lt ok l hs2.1 hA'
      have hpost := post_gt ok r hs1.2.1 hC'
      refine s_end (Δ := NodeR G d 2 q.1 q.2 :: valB G o (G.z0 ok.vz) :: kidsR G d (l.map Prod.fst ++ r.map Prod.snd) :: nodeB G b s kd :: itsR G s (ps.map Prod.fst) :: kpsR G kd ((l.map Prod.fst ++ q :: r.map Prod.snd).map ptr) :: W) ?_
      refine hk _ (⟨d, 2, q.1, q.2, kidsR G d (l.map Prod.fst ++ r.map Prod.snd) :: nodeB G b s kd :: itsR G s (ps.map Prod.fst) :: kpsR G kd ((l.map Prod.fst ++ q :: r.map Prod.snd).map ptr) :: W, A ++ preL l, postL r ++ C⟩ : At G) ⟨rfl, ?_, fun x hx => ?_, fun x hx => ?_, fun k' hk' => ?_⟩ (Nat.lt_succ_self _)
      · rw [hL]; simp
      · rcases List.mem_append.1 hx with hx | hx
        · exact hA x hx
        · exact hpre x hx
      · rcases List.mem_append.1 hx with hx | hx
        · exact hpost x hx
        · exact hC x hx
      · refine s_unkid ?_
        rw [← hK]
        refine s_end (Δ := nodeB G b s kd :: itsR G s (ps.map Prod.fst) :: kpsR G kd ((q0 :: ps.map Prod.snd).map ptr) :: kidsR G d (q0 :: ps.map Prod.snd) :: W) ?_
        exact s_mkS hne hl (cl k' hk')
end
end Bt
end Go.Sep
/- The steps of a walk: from known slots and a word of the plain form. Holds for every program. -/
namespace Go.Sep
open Go
set_option linter.unusedSimpArgs false
set_option linter.unusedVariables false

/-- From these slots, and the plain form k, X holds. -/
def G (dl : List Deferred) (n : Nat) (σ : List (Nat × Value)) (k : K) (X : Act → World → Prop) : Prop := ∀ a w, SlotsD dl a n σ → k w → X a w
abbrev fe : Option Nat → Fence
  | none => Fence.wide
  | some l => Fence.wide.inRound l
def Cx (r : Option Nat) (P : Program) (c : Code) (Q : Exit → Act → World → Prop) : Act → World → Prop := fun a w => c.wpIn (fe r) 0 P Q a w
def Tx (r : Option Nat) (P : Program) (ops : Array Oper) (Q : Exit → Act → World → Prop) (l : List Oper) : Act → World → Prop := fun a w => wpListIn (fe r) 0 P ops Q l a w
def Ex (Q : Exit → Act → World → Prop) (e : Exit) : Act → World → Prop := fun a w => Q e a w
def isDef : Op → Bool
  | .defer _ => true
  | _ => false
theorem isDef_ne {o : Oper} (h : isDef o.op = false) : ∀ c, o.op ≠ .defer c := fun c hc => by rw [hc] at h; cases h
theorem fe_free : ∀ r, Free (fe r)
  | none => free_wide
  | some l => free_wide.round l
theorem fe_alive : ∀ r, (fe r).alive = false
  | none => rfl
  | some _ => rfl
theorem fe_depth : ∀ r, (fe r).depth = none
  | none => rfl
  | some _ => rfl

section
variable {P : Program} {dl : List Deferred} {n : Nat} {σ τ : List (Nat × Value)} {k : K} {X : Act → World → Prop} {r : Option Nat} {ops : Array Oper} {Q : Exit → Act → World → Prop} {l : List Oper} {o : Oper} {a : Act} {w w' : World} {v : Value}

/-! ### one operation -/
theorem op_value {K1 : Act → World → Prop} (hs : SlotsD dl a n σ) (nd : isDef o.op = false) (hp : Eff P σ o w (.value v) w') (h : K1 (a.put o.dst v) w') : o.wpIn (fe r) 0 P a w K1 Q := by
  refine ⟨fun f _ => (fe_free r).fn f, ?_⟩
  rw [Oper.semAt_eq _ _ _ (isDef_ne nd)]
  have h1 : (execOp a.eval o).run P w = .ok (.value v) w' := hp { a with defers := [] } n hs.1
  rw [h1, Oper.uponIn_value]; exact h
theorem op_skip {K1 : Act → World → Prop} (hs : SlotsD dl a n σ) (nd : isDef o.op = false) (hp : Eff P σ o w .skip w') (h : K1 (a.put o.dst undef) w') : o.wpIn (fe r) 0 P a w K1 Q := by
  refine ⟨fun f _ => (fe_free r).fn f, ?_⟩
  rw [Oper.semAt_eq _ _ _ (isDef_ne nd)]
  have h1 : (execOp a.eval o).run P w = .ok .skip w' := hp { a with defers := [] } n hs.1
  rw [h1, Oper.uponIn_skip]; exact h
theorem op_call {K1 : Act → World → Prop} {f : FuncId} {args : Array Value} {kk : Value → K} (hs : SlotsD dl a n σ) (nd : isDef o.op = false) (hp : Eff P σ o w (.enter f args) w') (hc : Calls P f args w' (Ret kk))
    (h : ∀ v w, kk v w → K1 (a.put o.dst v) w) : o.wpIn (fe r) 0 P a w K1 Q := by
  refine ⟨fun f _ => (fe_free r).fn f, ?_⟩
  rw [Oper.semAt_eq _ _ _ (isDef_ne nd)]
  have h1 : (execOp a.eval o).run P w = .ok (.enter f args) w' := hp { a with defers := [] } n hs.1
  rw [h1, Oper.uponIn_enter]
  refine ⟨(fun h => by rw [fe_depth r] at h; cases h), callsIn_free (fe_free r) (fe_alive r) (hc.mono fun e w'' he => ?_)⟩
  cases e with
  | returned v => exact h v _ he
  | panicked c => exact he.elim
  | outgrown => exact he.elim
theorem op_yield {K1 : Act → World → Prop} {y : Nat} {args : Array Value} {kk : Value → K} (hs : SlotsD dl a n σ) (nd : isDef o.op = false) (hp : ∀ (x : Next), (Instr.yield y args).run P w = .ok x w → Eff P σ o w x w) (hc : YieldAt Fence.wide 0 P y args w (Ret kk))
    (h : ∀ v w, kk v w → K1 (a.put o.dst v) w) : o.wpIn Fence.wide 0 P a w K1 Q := by
  obtain ⟨fn, tmps, as1, bd, hy, hr⟩ := hc
  refine ⟨fun f _ => trivial, ?_⟩
  rw [Oper.semAt_eq _ _ _ (isDef_ne nd)]
  have h1 : (execOp a.eval o).run P w = .ok (.round y fn tmps as1 bd) w := hp _ hy { a with defers := [] } n hs.1
  rw [h1, Oper.uponIn_round]
  refine ⟨(fun h => by cases h), roundIn_free (hr.mono fun e w'' he => ?_)⟩
  cases e with
  | returned v => exact h v _ he
  | panicked c => exact he.elim
  | outgrown => exact he.elim

/-! ### in the text's order -/
theorem t_run (hs : SlotsD dl a n σ) (hw : wants ops σ o = some true) (h : o.wpIn (fe r) 0 P a w (wpListIn (fe r) 0 P ops Q l) Q) : wpListIn (fe r) 0 P ops Q (o :: l) a w := by
  unfold wpListIn
  rw [if_pos (wants_wanted hs.1 hw)]; exact h
theorem tx_p {d : Nat} (h : G dl n ((d, v) :: σ) k (Tx r P ops Q l)) (hd : o.dst = some d := by rfl) (hw : wants ops σ o = some true := by rfl) (hp : Pure P σ o v := by exact pu_auto) (hn : Nat.ble (d + 1) n = true := by rfl) (nd : isDef o.op = false := by rfl) :
    G dl n σ k (Tx r P ops Q (o :: l)) := fun a w hs hk => t_run hs hw (op_value hs nd (hp.eff w) (by rw [hd]; exact h _ w (hs.put (Nat.le_of_ble_eq_true hn) v) hk))
theorem tx_no {d : Nat} (h : G dl n ((d, undef) :: σ) k (Tx r P ops Q l)) (hd : o.dst = some d := by rfl) (hw : wants ops σ o = some false := by rfl) (hn : Nat.ble (d + 1) n = true := by rfl) : G dl n σ k (Tx r P ops Q (o :: l)) := fun a w hs hk => by
  show wpListIn (fe r) 0 P ops Q (o :: l) a w
  unfold wpListIn
  rw [if_neg (by rw [wants_wanted hs.1 hw]; simp), hd]
  exact ⟨fun f _ => (fe_free r).fn f, h _ w (hs.put (Nat.le_of_ble_eq_true hn) _) hk⟩
theorem tx_no' (h : G dl n σ k (Tx r P ops Q l)) (hd : o.dst = none := by rfl) (hw : wants ops σ o = some false := by rfl) : G dl n σ k (Tx r P ops Q (o :: l)) := fun a w hs hk => by
  show wpListIn (fe r) 0 P ops Q (o :: l) a w
  unfold wpListIn
  rw [if_neg (by rw [wants_wanted hs.1 hw]; simp), hd]
  exact ⟨fun f _ => (fe_free r).fn f, h _ w hs hk⟩
section
variable {α : Type} {vx : α → Value} {k' : α → K}
theorem WP.wr {σ : List (Nat × Value)} (h : WP P σ o k vx k') : WR P σ o k vx k' := fun w hk => by obtain ⟨x, hp, h⟩ := h w hk; exact ⟨x, hp.eff w, h⟩
theorem WR.we {σ : List (Nat × Value)} (h : WR P σ o k vx k') : WE P σ o k vx k' := fun w hk => by obtain ⟨x, hp, h⟩ := h w hk; exact ⟨x, w, hp, h⟩
theorem tx_e0 {d : Nat} (he : WE P σ o k vx k') (h : ∀ x, G dl n ((d, vx x) :: σ) (k' x) (Tx r P ops Q l)) (hd : o.dst = some d) (hw : wants ops σ o = some true) (hn : Nat.ble (d + 1) n = true) (nd : isDef o.op = false) : G dl n σ k (Tx r P ops Q (o :: l)) := fun a w hs hk => by
  obtain ⟨x, w', hp, h'⟩ := he w hk
  exact t_run hs hw (op_value hs nd hp (by rw [hd]; exact h x _ w' (hs.put (Nat.le_of_ble_eq_true hn) _) h'))
theorem tx_wp {d : Nat} (h : ∀ x, G dl n ((d, vx x) :: σ) (k' x) (Tx r P ops Q l)) (hd : o.dst = some d := by rfl) (hw : wants ops σ o = some true := by rfl) (hp : WP P σ o k vx k' := by exact wp_auto) (hn : Nat.ble (d + 1) n = true := by rfl) (nd : isDef o.op = false := by rfl) : G dl n σ k (Tx r P ops Q (o :: l)) := tx_e0 hp.wr.we h hd hw hn nd
theorem tx_wr {d : Nat} (h : ∀ x, G dl n ((d, vx x) :: σ) (k' x) (Tx r P ops Q l)) (hd : o.dst = some d := by rfl) (hw : wants ops σ o = some true := by rfl) (hp : WR P σ o k vx k' := by exact wr_auto) (hn : Nat.ble (d + 1) n = true := by rfl) (nd : isDef o.op = false := by rfl) : G dl n σ k (Tx r P ops Q (o :: l)) := tx_e0 hp.we h hd hw hn nd
theorem tx_we {d : Nat} (h : ∀ x, G dl n ((d, vx x) :: σ) (k' x) (Tx r P ops Q l)) (hd : o.dst = some d := by rfl) (hw : wants ops σ o = some true := by rfl) (hp : WE P σ o k vx k' := by exact we_auto) (hn : Nat.ble (d + 1) n = true := by rfl) (nd : isDef o.op = false := by rfl) : G dl n σ k (Tx r P ops Q (o :: l)) := tx_e0 hp h hd hw hn nd
theorem tx_wen (h : ∀ x, G dl n σ (k' x) (Tx r P ops Q l)) (hd : o.dst = none := by rfl) (hw : wants ops σ o = some true := by rfl) (hp : WE P σ o k vx k' := by exact we_auto) (nd : isDef o.op = false := by rfl) : G dl n σ k (Tx r P ops Q (o :: l)) := fun a w hs hk => by
  obtain ⟨x, w', hp, h'⟩ := hp w hk
  exact t_run hs hw (op_value hs nd hp (by rw [hd]; exact h x _ w' hs h'))
end
theorem tx_wk {k' : K} (h : G dl n σ k' (Tx r P ops Q l)) (hd : o.dst = none := by rfl) (hw : wants ops σ o = some true := by rfl) (hp : WK P σ o k k' := by exact wk_auto) (nd : isDef o.op = false := by rfl) : G dl n σ k (Tx r P ops Q (o :: l)) := fun a w hs hk => by
  obtain ⟨w', hp, h'⟩ := hp w hk
  exact t_run hs hw (op_skip hs nd hp (by rw [hd]; exact h _ w' hs h'))
theorem tx_wc {d : Nat} {kk : Value → K} (h : ∀ u, G dl n ((d, u) :: σ) (kk u) (Tx r P ops Q l)) (hd : o.dst = some d := by rfl) (hw : wants ops σ o = some true := by rfl) (hp : WC P σ o k kk := by exact wc_auto) (hn : Nat.ble (d + 1) n = true := by rfl) (nd : isDef o.op = false := by rfl) : G dl n σ k (Tx r P ops Q (o :: l)) := fun a w hs hk => by
  obtain ⟨f, args, w', hp, hc⟩ := hp w hk
  exact t_run hs hw (op_call hs nd hp hc fun v w h' => by rw [hd]; exact h v _ w (hs.put (Nat.le_of_ble_eq_true hn) _) h')
theorem tx_wcn {kk : Value → K} (h : ∀ u, G dl n σ (kk u) (Tx r P ops Q l)) (hd : o.dst = none := by rfl) (hw : wants ops σ o = some true := by rfl) (hp : WC P σ o k kk := by exact wc_auto) (nd : isDef o.op = false := by rfl) : G dl n σ k (Tx r P ops Q (o :: l)) := fun a w hs hk => by
  obtain ⟨f, args, w', hp, hc⟩ := hp w hk
  exact t_run hs hw (op_call hs nd hp hc fun v w h' => by rw [hd]; exact h v _ w hs h')
theorem tx_wy {d : Nat} {kk : Value → K} (h : ∀ u, G dl n ((d, u) :: σ) (kk u) (Tx none P ops Q l)) (hd : o.dst = some d := by rfl) (hw : wants ops σ o = some true := by rfl) (hp : WY P σ o k kk := by exact wy_y rfl rfl rfl) (hn : Nat.ble (d + 1) n = true := by rfl) (nd : isDef o.op = false := by rfl) : G dl n σ k (Tx none P ops Q (o :: l)) := fun a w hs hk => by
  obtain ⟨y, args, hp, hc⟩ := hp w hk
  exact t_run (r := none) hs hw (op_yield hs nd hp hc fun v w h' => by rw [hd]; exact h v _ w (hs.put (Nat.le_of_ble_eq_true hn) _) h')
theorem tx_nil (h : G dl n σ k (Ex Q .normal)) : G dl n σ k (Tx r P ops Q []) := fun a w hs hk => h a w hs hk

/-! ### answers -/
section
variable {α β γ δ ε : Type} {d : Nat} {u : Value}
theorem an_0 {v0 : Value} (h : G dl n ((d, v0) :: σ) k X) : G dl n ((d, u) :: σ) (Ans0 v0 k u) X := fun a w hs ⟨hu, hk⟩ => h a w (hu ▸ hs) hk
theorem an_1 {c : α → Value} {k : α → K} (h : ∀ x, G dl n ((d, c x) :: σ) (k x) X) : G dl n ((d, u) :: σ) (Ans1 c k u) X := fun a w hs ⟨x, hu, hk⟩ => h x a w (hu ▸ hs) hk
theorem an_2 {c : α → β → Value} {k : α → β → K} (h : ∀ x y, G dl n ((d, c x y) :: σ) (k x y) X) : G dl n ((d, u) :: σ) (Ans2 c k u) X := fun a w hs ⟨x, y, hu, hk⟩ => h x y a w (hu ▸ hs) hk
theorem an_3 {c : α → β → γ → Value} {k : α → β → γ → K} (h : ∀ x y z, G dl n ((d, c x y z) :: σ) (k x y z) X) : G dl n ((d, u) :: σ) (Ans3 c k u) X := fun a w hs ⟨x, y, z, hu, hk⟩ => h x y z a w (hu ▸ hs) hk
theorem an_4 {c : α → β → γ → δ → Value} {k : α → β → γ → δ → K} (h : ∀ x y z t, G dl n ((d, c x y z t) :: σ) (k x y z t) X) : G dl n ((d, u) :: σ) (Ans4 c k u) X := fun a w hs ⟨x, y, z, t, hu, hk⟩ => h x y z t a w (hu ▸ hs) hk
theorem an_5 {c : α → β → γ → δ → ε → Value} {k : α → β → γ → δ → ε → K} (h : ∀ x y z t s, G dl n ((d, c x y z t s) :: σ) (k x y z t s) X) : G dl n ((d, u) :: σ) (Ans5 c k u) X := fun a w hs ⟨x, y, z, t, s, hu, hk⟩ => h x y z t s a w (hu ▸ hs) hk
-- where no slot bears the answer
theorem am_0 {v0 : Value} (h : G dl n σ k X) : G dl n σ (Ans0 v0 k u) X := fun a w hs ⟨_, hk⟩ => h a w hs hk
theorem am_1 {c : α → Value} {k : α → K} (h : ∀ x, G dl n σ (k x) X) : G dl n σ (Ans1 c k u) X := fun a w hs ⟨x, _, hk⟩ => h x a w hs hk
theorem am_2 {c : α → β → Value} {k : α → β → K} (h : ∀ x y, G dl n σ (k x y) X) : G dl n σ (Ans2 c k u) X := fun a w hs ⟨x, y, _, hk⟩ => h x y a w hs hk
end

/-! ### words without an operation -/
/-- What an operation's guard looks at. -/
def gslot (ops : Array Oper) (σ : List (Nat × Value)) (o : Oper) : Option Value := match o.guard with
  | none => none
  | some (j, _) => match (ops[j]?).bind (·.dst) with
    | none => none
    | some t => look σ t
theorem tx_ite {b : Bool} {x y : K} (h1 : b = true → G dl n σ x (Tx r P ops Q (o :: l))) (h2 : b = false → G dl n σ y (Tx r P ops Q (o :: l))) (hg : gslot ops σ o = some (.bool b) := by rfl) : G dl n σ (Ite b x y) (Tx r P ops Q (o :: l)) := fun a w hs hk => by
  cases b
  · exact h2 rfl a w hs (hk.2 rfl)
  · exact h1 rfl a w hs (hk.1 rfl)
theorem gx_fold (h : ∀ a w, SlotsD dl a n σ → k w → X a w) : G dl n σ k X := h
theorem gx_nn {p : Option Addr} {kp : Addr → K} (h : ∀ a, p = some a → G dl n σ (kp a) X) : G dl n σ (Nn p kp) X := fun a w hs ⟨b, hb, hk⟩ => h b hb a w hs hk
theorem gx_fv {f : Value} {kf : FuncId → Array Value → Array Value → K} (h : ∀ g fs cs, f = .func (.func g) fs cs → CB P g → G dl n σ (kf g fs cs) X) : G dl n σ (Fv P f kf) X := fun a w hs ⟨g, fs, cs, hf, hc, hk⟩ => h g fs cs hf ⟨hc⟩ a w hs hk
theorem gx_dead : G dl n σ Dead X := fun _ _ _ hk => hk.elim
/-- The same, as a predicate of slots and plain forms. -/
def Gp (dl : List Deferred) (n : Nat) (X : Act → World → Prop) (τ : List (Nat × Value)) (k : K) : Prop := G dl n τ k X
theorem gp_in (h : G dl n σ k X) : Gp dl n X σ k := h
theorem sub_auto (h : Sub σ τ := by repeat (first | exact trivial | refine ⟨rfl, ?_⟩)) : Sub σ τ := h
theorem gx_jump (h : Gp dl n X τ k := by apply_assumption) (hs : Sub σ τ := by exact sub_auto) : G dl n σ k X := fun a w hs' hk => h a w (hs'.to hs) hk
theorem gx_unf (h : G dl n σ k X) : ∀ a w, SlotsD dl a n σ → k w → X a w := h
theorem gx_sub (h : G dl n τ k X) (hs : Sub σ τ) : G dl n σ k X := fun a w hs' hk => h a w (hs'.to hs) hk

/-! ### code -/
def firstTwo (a b : Nat) : Nat := match Nat.beq a 1000000 with
  | true => b
  | false => a
def firstReg : Code → Nat
  | .region id _ _ => id
  | .seq x y => firstTwo (firstReg x) (firstReg y)
  | .cond _ x y => firstTwo (firstReg x) (firstReg y)
  | .block _ c => firstReg c
  | .loop c => firstReg c
  | .scope c => firstReg c
  | .rangeFunc _ _ a _ => firstReg a
  | _ => 1000000
def lastReg : Code → Nat
  | .region id _ _ => id
  | .seq x y => firstTwo (lastReg y) (lastReg x)
  | .cond _ x y => firstTwo (lastReg y) (lastReg x)
  | .block _ c => lastReg c
  | .loop c => lastReg c
  | .scope c => lastReg c
  | .rangeFunc _ _ _ b => lastReg b
  | _ => 1000000
/-- The number by which a seq's hint is found. -/
def seqKey (x y : Code) : Nat := firstTwo (firstReg y) (1000000 + lastReg x)
/-- A hint: how the code that begins with region id goes on, as a plain form of its own. -/
structure JH (id : Nat) (H : (List (Nat × Value) → ((List (Nat × Value) → K → Prop) → Prop) → Prop) → Prop) : Prop where
  h : ∀ D, H D → ∃ pre C, D pre C
/-- A hint: what a loop's slots bear. -/
structure LH (id : Nat) {α : Type} (S : α → List (Nat × Value)) (body : (α → K) → α → K) : Prop
/-- The continuation of a loop. -/
structure XH (id : Nat) {α : Type} (X : α → K) : Prop

variable {x y c : Code} {id : Nat}
theorem cx_seq (h : G dl n σ k (Cx r P x (Exit.then (Cx r P y Q) Q))) : G dl n σ k (Cx r P (.seq x y) Q) := fun a w hs hk => wpIn_seq (h a w hs hk)
def Jp (dl : List Deferred) (n : Nat) (σ : List (Nat × Value)) (k : K) (r : Option Nat) (P : Program) (x y : Code) (Q : Exit → Act → World → Prop) (pre : List (Nat × Value)) (C : (List (Nat × Value) → K → Prop) → Prop) : Prop :=
  Sub σ pre ∧ C (Gp dl n (Cx r P y Q)) ∧ ∀ Kc, C (Gp dl n Kc) → G dl n σ k (Cx r P x (Exit.then Kc Q))
theorem ex_i {α : Sort _} {p : α → Prop} {x : α} (h : p x) : ∃ x, p x := ⟨x, h⟩
theorem cx_join {H : (List (Nat × Value) → ((List (Nat × Value) → K → Prop) → Prop) → Prop) → Prop} (h : H (Jp dl n σ k r P x y Q)) (hi : seqKey x y = id := by rfl) (hh : JH id H := by first | assumption | (apply_assumption <;> assumption)) : G dl n σ k (Cx r P (.seq x y) Q) := fun a w hs hk => by
  obtain ⟨pre, C, _, h1, h2⟩ := hh.h _ h
  exact wpIn_seq (h2 _ h1 a w hs hk)
theorem cx_skip (h : G dl n σ k (Ex Q .normal)) : G dl n σ k (Cx r P .skip Q) := fun a w hs hk => wpIn_skip (h a w hs hk)
theorem cx_label {i : Nat} (h : G dl n σ k (Ex Q .normal)) : G dl n σ k (Cx r P (.label i) Q) := fun a w hs hk => wpIn_label (h a w hs hk)
theorem cx_exit {i : Nat} (h : G dl n σ k (Ex Q (.exit i))) : G dl n σ k (Cx r P (.exit i) Q) := fun a w hs hk => wpIn_exit (h a w hs hk)
theorem cx_ret (h : G dl n σ k (Ex Q .ret)) : G dl n σ k (Cx r P .ret Q) := fun a w hs hk => wpIn_ret (h a w hs hk)
theorem cx_block {i : Nat} (h : G dl n σ k (Cx r P c (Exit.inBlock i Q))) : G dl n σ k (Cx r P (.block i c) Q) := fun a w hs hk => wpIn_block (h a w hs hk)
theorem cx_cond {e : Operand} {b : Bool} {kx ky : K} (h1 : G dl n σ kx (Cx r P x Q)) (h2 : G dl n σ ky (Cx r P y Q)) (he : ev σ e = some (.bool b) := by rfl) : G dl n σ (Ite b kx ky) (Cx r P (.cond e x y) Q) := fun a w hs hk =>
  wpIn_cond_split (hs.1.ev he) (fun hb => h1 a w hs (hk.1 hb)) (fun hb => h2 a w hs (hk.2 hb))
theorem cx_cond_t {e : Operand} (h : G dl n σ k (Cx r P x Q)) (he : ev σ e = some (.bool true) := by rfl) : G dl n σ k (Cx r P (.cond e x y) Q) := fun a w hs hk => wpIn_cond_true (hs.1.ev he) (h a w hs hk)
theorem cx_cond_f {e : Operand} (h : G dl n σ k (Cx r P y Q)) (he : ev σ e = some (.bool false) := by rfl) : G dl n σ k (Cx r P (.cond e x y) Q) := fun a w hs hk => wpIn_cond_false (hs.1.ev he) (h a w hs hk)
theorem cx_reg {i : Nat} (h : G dl n σ k (Tx r P l.toArray Q l)) : G dl n σ k (Cx r P (.region i l.toArray false) Q) := fun a w hs hk => wpIn_region_lit (h a w hs hk)
def Lx (dl : List Deferred) (n : Nat) {α : Type} (S : α → List (Nat × Value)) (X : α → K) : Act → World → Prop := fun a w => ∃ x, SlotsD dl a n (S x) ∧ X x w
theorem cx_loop {α : Type} {body : (α → K) → α → K} {x0 : α} {S : α → List (Nat × Value)} (h : ∀ X : α → K, XH id X → ∀ x, G dl n (S x) (body X x) (Cx r P c (Exit.then (Lx dl n S X) Q))) (hi : firstReg c = id := by rfl) (hh : LH id S body := by first | assumption | (apply_assumption <;> assumption)) (h0 : Sub σ (S x0) := by exact sub_auto) :
    G dl n σ (LoopK body x0) (Cx r P (.loop c) Q) := fun a w hs ⟨I, μ, hI, hr⟩ => by
  refine cI_loop I μ (fun x a => SlotsD dl a n (S x)) x0 hI (hs.to h0) fun x a w hI hG => ?_
  refine wpIn_mono (h _ ⟨⟩ x a w hG (hr x w hI)) fun e a w hq => ?_
  cases e with
  | normal => exact hq
  | _ => exact hq
theorem lx_end {α : Type} {S : α → List (Nat × Value)} {X : α → K} {x : α} (hk : k = X x := by rfl) (h0 : Sub σ (S x) := by exact sub_auto) : G dl n σ k (Lx dl n S X) := fun a w hs h => ⟨x, hs.to h0, hk ▸ h⟩

theorem ex_then {Kc : Act → World → Prop} (h : G dl n σ k Kc) : G dl n σ k (Ex (Exit.then Kc Q) .normal) := h
theorem ex_then_x {Kc : Act → World → Prop} {i : Nat} (h : G dl n σ k (Ex Q (.exit i))) : G dl n σ k (Ex (Exit.then Kc Q) (.exit i)) := h
theorem ex_then_r {Kc : Act → World → Prop} (h : G dl n σ k (Ex Q .ret)) : G dl n σ k (Ex (Exit.then Kc Q) .ret) := h
theorem ex_blk {i : Nat} (h : G dl n σ k (Ex Q .normal)) : G dl n σ k (Ex (Exit.inBlock i Q) .normal) := h
theorem ex_blk_r {i : Nat} (h : G dl n σ k (Ex Q .ret)) : G dl n σ k (Ex (Exit.inBlock i Q) .ret) := h
theorem ex_blk_x {i : Nat} (h : G dl n σ k (Ex Q .normal)) : G dl n σ k (Ex (Exit.inBlock i Q) (.exit i)) := fun a w hs hk => by
  show Exit.inBlock i Q (.exit i) a w
  simp only [Exit.inBlock, if_true]; exact h a w hs hk
theorem ex_blk_y {i j : Nat} (h : G dl n σ k (Ex Q (.exit j))) (hij : Nat.beq j i = false := by rfl) : G dl n σ k (Ex (Exit.inBlock i Q) (.exit j)) := fun a w hs hk => by
  show Exit.inBlock i Q (.exit j) a w
  have : j ≠ i := fun e => by rw [e, Nat.beq_refl] at hij; cases hij
  simp only [Exit.inBlock, this, if_false]; exact h a w hs hk

/-! ### a function's end -/
def fin : List Value → Value
  | [v] => v
  | l => .tuple l.toArray
theorem fin_eq (l : List Value) : fin l = if h : l.toArray.size = 1 then l.toArray[0] else .tuple l.toArray := by
  cases l with
  | nil => rfl
  | cons v l => cases l <;> rfl
/-- The results are read, one after the other. -/
def Rx (P : Program) (kk : Value → K) (rs : List ResultVar) (vs : List Value) : Act → World → Prop := fun a w => ∃ us, (List.mapM (resSem a.tmps) rs).run P w = .ok us w ∧ kk (fin (vs ++ us)) w
theorem rx_run {fn : Func} {kk : Value → K} (h : Rx P kk fn.results.toList [] a w) : ∃ v, (results fn a.tmps).run P w = .ok v w ∧ kk v w := by
  obtain ⟨us, h1, h2⟩ := h
  refine ⟨fin us, ?_, h2⟩
  rw [results_eq, ← Array.toArray_toList (xs := fn.results), Array.mapM_eq_mapM_toList]
  simp only [Array.toArray_toList]
  simp only [Sem.run_bind, Sem.run_map, h1, Result.andThen, Sem.run_pure]
  rw [fin_eq]
theorem ex_ret {fn : Func} {kk : Value → K} {rs : List ResultVar} (h : G [] n σ k (Rx P kk rs [])) (hr : fn.results = rs.toArray := by rfl) : G [] n σ k (Ex (bodyPostT P fn (Ret kk)) .ret) := fun a w hs hk => by
  obtain ⟨v, h1, h2⟩ := rx_run (fn := fn) (by rw [hr]; exact h a w hs hk)
  show LeavesInM Fence.wide 0 P fn a.tmps (Ret kk) a.defers .returning w
  rw [hs.2]
  exact ⟨v, h1, h2⟩
theorem ex_end {fn : Func} {kk : Value → K} (h : G dl n σ k (Ex (bodyPostT P fn (Ret kk)) .ret)) : G dl n σ k (Ex (bodyPostT P fn (Ret kk)) .normal) := h
theorem ex_retM {fn : Func} {kk : Value → K} {D : Nat} {rs : List ResultVar} (h : G (markD D) n σ k (Rx P kk rs [])) (hr : fn.results = rs.toArray := by rfl) : G (markD D) n σ (TakeD D k) (Ex (bodyPostT P fn (Ret kk)) .ret) := fun a w hs hk => by
  obtain ⟨v, h1, h2⟩ := rx_run (fn := fn) (by rw [hr]; exact h a _ hs hk.2)
  show LeavesInM Fence.wide 0 P fn a.tmps (Ret kk) a.defers .returning w
  rw [hs.2]
  exact ⟨by simp, .inl ⟨D, _, rfl, run_takeDeferred hk.1, v, h1, h2⟩⟩
theorem rx_tmp {kk : Value → K} {t : Nat} {rs : List ResultVar} {vs : List Value} (h : G dl n σ k (Rx P kk rs (vs ++ [v]))) (ht : look σ t = some v := by rfl) : G dl n σ k (Rx P kk (.tmp t :: rs) vs) := fun a w hs hk => by
  obtain ⟨us, h1, h2⟩ := h a w hs hk
  refine ⟨v :: us, ?_, by simpa using h2⟩
  rw [List.mapM_cons]
  have h3 : (resSem a.tmps (.tmp t)).run P w = .ok v w := run_resAt (a := { a with defers := [] }) hs.1 (r := .tmp t) ht
  simp only [Sem.run_bind, h3, h1, Sem.run_pure, Result.andThen]
theorem rx_cell {α : Type} {c : α → Value} {kx : α → K} {kk : Value → K} {t T : Nat} {b : Addr} {rs : List ResultVar} {vs : List Value} [cl : CT P T] (h : ∀ x, G dl n σ (kx x) (Rx P kk rs (vs ++ [c x]))) (ht : look σ t = some (.pointer (some b)) := by rfl) : G dl n σ (Ld b c kx) (Rx P kk (.cell t T :: rs) vs) := fun a w hs ⟨x, hv, hk⟩ => by
  obtain ⟨us, h1, h2⟩ := h x a w hs hk
  refine ⟨c x :: us, ?_, by simpa using h2⟩
  rw [List.mapM_cons]
  have h3 : (resSem a.tmps (.cell t T)).run P w = .ok (c x) w := run_resAt (a := { a with defers := [] }) hs.1 (r := .cell t T) ⟨_, ht, run_loadVar cl.h hv⟩
  simp only [Sem.run_bind, h3, h1, Sem.run_pure, Result.andThen]
theorem rx_cellN {kx : Array Value → K} {kk : Value → K} {t T m : Nat} {b : Addr} {rs : List ResultVar} {vs : List Value} [cl : AT P T m] (h : ∀ x, G dl n σ (kx x) (Rx P kk rs (vs ++ [.agg x]))) (ht : look σ t = some (.pointer (some b)) := by rfl) : G dl n σ (LdN b m kx) (Rx P kk (.cell t T :: rs) vs) := fun a w hs ⟨x, hn, hv, hk⟩ => by
  obtain ⟨us, h1, h2⟩ := h x a w hs hk
  refine ⟨.agg x :: us, ?_, by simpa using h2⟩
  rw [List.mapM_cons]
  have h3 : (resSem a.tmps (.cell t T)).run P w = .ok (.agg x) w := run_resAt (a := { a with defers := [] }) hs.1 (r := .cell t T) ⟨_, ht, run_loadVarN cl.h hn hv⟩
  simp only [Sem.run_bind, h3, h1, Sem.run_pure, Result.andThen]
def Fx (k : K) : Act → World → Prop := fun _ w => k w
theorem rx_nil {kk : Value → K} {vs : List Value} (h : G dl n σ k (Fx (kk (fin vs)))) : G dl n σ k (Rx P kk [] vs) := fun a w hs hk => ⟨[], by simp, by rw [List.append_nil]; exact h a w hs hk⟩
section
variable {α β γ δ ε : Type} {u : Value}
theorem fx_0 {v0 : Value} {q : K} (hk : k = q := by rfl) (hu : u = v0 := by rfl) : G dl n σ k (Fx (Ans0 v0 q u)) := fun _ w _ h => ⟨hu, hk ▸ h⟩
theorem fx_1 {c : α → Value} {q : α → K} {x : α} (hk : k = q x := by rfl) (hu : u = c x := by rfl) : G dl n σ k (Fx (Ans1 c q u)) := fun _ w _ h => ⟨x, hu, hk ▸ h⟩
theorem fx_2 {c : α → β → Value} {q : α → β → K} {x : α} {y : β} (hk : k = q x y := by rfl) (hu : u = c x y := by rfl) : G dl n σ k (Fx (Ans2 c q u)) := fun _ w _ h => ⟨x, y, hu, hk ▸ h⟩
theorem fx_3 {c : α → β → γ → Value} {q : α → β → γ → K} {x : α} {y : β} {z : γ} (hk : k = q x y z := by rfl) (hu : u = c x y z := by rfl) : G dl n σ k (Fx (Ans3 c q u)) := fun _ w _ h => ⟨x, y, z, hu, hk ▸ h⟩
theorem fx_4 {c : α → β → γ → δ → Value} {q : α → β → γ → δ → K} {x : α} {y : β} {z : γ} {t : δ} (hk : k = q x y z t := by rfl) (hu : u = c x y z t := by rfl) : G dl n σ k (Fx (Ans4 c q u)) := fun _ w _ h => ⟨x, y, z, t, hu, hk ▸ h⟩
theorem fx_5 {c : α → β → γ → δ → ε → Value} {q : α → β → γ → δ → ε → K} {x : α} {y : β} {z : γ} {t : δ} {s : ε} (hk : k = q x y z t s := by rfl) (hu : u = c x y z t s := by rfl) : G dl n σ k (Fx (Ans5 c q u)) := fun _ w _ h => ⟨x, y, z, t, s, hu, hk ▸ h⟩
end
end
/-- The first slots of a function: its arguments. -/
def numb : Nat → List Value → List (Nat × Value)
  | _, [] => []
  | i, v :: vs => (i, v) :: numb (i + 1) vs
theorem numb_eq (l : List Value) (i : Nat) : ((l.zipIdx i).map fun p => (p.2, p.1)) = numb i l := by
  induction l generalizing i with
  | nil => rfl
  | cons v l ih => simp [numb, List.zipIdx_cons, ih]
theorem g_start {P : Program} {f : FuncId} {fn : Func} {c : Code} {args : List Value} {kk : Value → K} {k : K} (n : Nat) {w : World} (hk : k w) (hf : P.funcs[f]? = some fn) (h : G [] n (numb 0 args) k (Cx none P c (bodyPostT P fn (Ret kk)))) (hb : fn.body = some c := by rfl) (hn : fn.ntmps = n := by rfl) (hl : Nat.ble args.length n = true := by rfl) :
    CallF P f args.toArray kk w := by
  subst hn
  refine fI_start hf hb (Nat.le_of_ble_eq_true hl) fun a hs => h a w (by rw [← numb_eq]; exact hs) hk
end Go.Sep
/- The steps of a walk in a region whose order is drawn; the whole walk. Holds for every program. -/
namespace Go.Sep
open Go
set_option linter.unusedSimpArgs false
set_option linter.unusedVariables false

/-- In which order a drawn region is walked: some numbers one behind the other; whichever of several (0: one behind which S is asked no more, 1: S holds behind it, 2: it reads); by a guard. -/
inductive Scr where
  | e
  | s (l : List Nat) (t : Scr)
  | a (l : List (Nat × Nat × Scr))
  | i (x y : Scr)
/-- A hint: how a drawn region is walked: 0: no reads ahead, 1: all reads ahead of all else, 2: with an S. -/
structure DH (id mode : Nat) (ds : List Nat) (t : Scr) : Prop
def lst (n : Nat) (done : List Nat) : Array Bool := (Array.range n).map fun i => done.contains i
theorem lst_set (n i : Nat) (done : List Nat) : (lst n done).setIfInBounds i true = lst n (i :: done) := by
  apply Array.ext
  · simp [lst]
  · intro j h1 h2
    have h3 : j < (lst n done).size := by simpa using h1
    rw [Array.getElem_setIfInBounds h3]
    by_cases h : i = j
    · subst h; simp [lst]
    · have h' : ¬ j = i := fun e => h e.symm
      simp [lst, h, h']
theorem lst_nil (n : Nat) : Array.replicate n false = lst n [] := by
  apply Array.ext
  · simp [lst]
  · intro j h1 h2; simp [lst]
def Dx (P : Program) (ops : Array Oper) (Q : Exit → Act → World → Prop) (S : World → Prop) (ds done : List Nat) (t : Scr) : Act → World → Prop := fun a w => Tight Q → wpAnyD P ops Q S ds (ops.size - done.length) (lst ops.size done) a w
def Al (S : World → Prop) (k : K) : K := fun w => S w ∧ k w
/-- Number i comes up, whatever it does. -/
def Ox (P : Program) (ops : Array Oper) (Q : Exit → Act → World → Prop) (S : World → Prop) (ds done : List Nat) (i tag : Nat) (t : Scr) : Act → World → Prop := fun a w => Tight Q →
  opW P ops Q i (fun a' w' => (alive ds (lst ops.size done) = true → i ∉ ds → S w → S w') ∧ wpAnyD P ops Q S ds (ops.size - done.length - 1) (lst ops.size (i :: done)) a' w') a w
def Ax (P : Program) (ops : Array Oper) (Q : Exit → Act → World → Prop) (S : World → Prop) (ds done : List Nat) (l : List (Nat × Nat × Scr)) : Act → World → Prop := fun a w => ∀ p ∈ l, Ox P ops Q S ds done p.1 p.2.1 p.2.2 a w

def takeC (ops : Array Oper) (ds done : List Nat) (i : Nat) : Bool :=
  Region.noSelect ops && Region.free .any ops (lst ops.size done) i && (Region.ready .any ops (lst ops.size done)).contains i && !ds.contains i && Nat.ble (done.length + 1) ops.size
def closedB (ops : Array Oper) (l : Array Bool) : Bool :=
  (List.range ops.size).all fun j => match ops[j]? with
    | some oj => !l.getD j false || oj.after.all fun e => !Region.binds .any e || l.getD e.on false
    | none => true
def readC (ops : Array Oper) (ds done : List Nat) (i : Nat) : Bool := takeC ops ds done i && closedB ops (lst ops.size done) && ds.all fun d => reach ops i ops.size d
theorem closedB_spec {ops : Array Oper} {l : Array Bool} (h : closedB ops l = true) : Closed ops l := fun j oj hj hl e he hb => by
  have h1 := List.all_eq_true.1 h j (by simpa using (Array.getElem?_eq_some_iff.1 hj).1)
  simp only [hj, hl, Bool.not_true, Bool.false_or, Array.all_eq_true_iff_forall_mem] at h1
  have h2 := h1 e he
  simpa [hb] using h2
theorem tight_then {Q : Exit → Act → World → Prop} {K : Act → World → Prop} (h : Tight Q) : Tight (Exit.then K Q) := fun c a w hc => h c a w hc
theorem tight_blk {Q : Exit → Act → World → Prop} {i : Nat} (h : Tight Q) : Tight (Exit.inBlock i Q) := fun c a w hc => h c a w hc
theorem tight_auto {Q : Exit → Act → World → Prop} (h : Tight Q := by repeat (first | refine tight_then ?_ | refine tight_blk ?_ | exact tight_bodyT)) : Tight Q := h

section
variable {P : Program} {dl : List Deferred} {n : Nat} {σ τ : List (Nat × Value)} {k : K} {X : Act → World → Prop} {ops : Array Oper} {Q : Exit → Act → World → Prop} {l : List Oper} {o : Oper} {v : Value} {S : World → Prop} {ds done : List Nat} {i : Nat} {is : List Nat} {t : Scr}

theorem dx_first {T : World → Prop} (hi : ops[i]? = some o) (hc : takeC ops ds done i = true) (hT : (∀ w, T w) ∨ (T = S ∧ readC ops ds done i = true)) (hQ : Tight Q) {a : Act} {w : World} (hy : YieldsIf P ops T o v a) (hw : T w)
    (h : wpAnyD P ops Q S ds (ops.size - (i :: done).length) (lst ops.size (i :: done)) (a.put o.dst v) w) : wpAnyD P ops Q S ds (ops.size - done.length) (lst ops.size done) a w := by
  simp only [takeC, Bool.and_eq_true, Bool.not_eq_true'] at hc
  obtain ⟨⟨⟨⟨h1, h2⟩, h3⟩, h4⟩, h5⟩ := hc
  have h5 := Nat.le_of_ble_eq_true h5
  rw [show ops.size - done.length = (ops.size - (i :: done).length) + 1 by simp only [List.length_cons]; omega]
  refine wpAnyD_first hi (by intro hm; rw [List.contains_iff_mem.2 hm] at h4; cases h4) (Region.noSelect_spec h1) hQ _ _ a w (Region.free_spec hi h2) ?_ (by simpa using h3) hy hw (by rw [lst_set]; exact h)
  rcases hT with h | ⟨h, hr⟩
  · exact .inl h
  · simp only [readC, Bool.and_eq_true] at hr
    exact .inr ⟨h, closedB_spec hr.1.2, fun d hd => ⟨_, List.all_eq_true.1 hr.2 d hd⟩⟩

theorem dx_p {d : Nat} (h : G dl n ((d, v) :: σ) k (Dx P ops Q S ds (i :: done) (.s is t))) (hi : ops[i]? = some o := by rfl) (hd : o.dst = some d := by rfl) (hw : wants ops σ o = some true := by rfl) (hp : Pure P σ o v := by exact pu_auto) (hc : takeC ops ds done i = true := by kernel_rfl)
    (hn : Nat.ble (d + 1) n = true := by rfl) : G dl n σ k (Dx P ops Q S ds done (.s (i :: is) t)) := fun a w hs hk hQ =>
  dx_first (T := fun _ => True) hi hc (.inl fun _ => trivial) hQ (.inl ⟨wants_wanted hs.1 hw, fun w _ => hp { a with defers := [] } n hs.1 w⟩) trivial (by rw [hd]; exact h _ w (hs.put (Nat.le_of_ble_eq_true hn) v) hk hQ)
def less (ds : List Nat) (i : Nat) : List Nat := ds.filter fun j => !Nat.beq j i
theorem less_sub : ∀ d ∈ less ds i, d ∈ ds := fun d hd => (List.mem_filter.1 hd).1
theorem dx_no {d : Nat} (h : G dl n ((d, undef) :: σ) k (Dx P ops Q S (less ds i) (i :: done) (.s is t))) (hi : ops[i]? = some o := by rfl) (hd : o.dst = some d := by rfl) (hw : wants ops σ o = some false := by rfl) (hc : takeC ops (less ds i) done i = true := by kernel_rfl)
    (hn : Nat.ble (d + 1) n = true := by rfl) : G dl n σ k (Dx P ops Q S ds done (.s (i :: is) t)) := fun a w hs hk hQ =>
  wpAnyD_ds less_sub _ _ _ _ (dx_first (T := fun _ => True) (v := undef) hi hc (.inl fun _ => trivial) hQ (.inr ⟨wants_wanted hs.1 hw, rfl⟩) trivial (by rw [hd]; exact h _ w (hs.put (Nat.le_of_ble_eq_true hn) undef) hk hQ))
theorem dx_no' (h : G dl n σ k (Dx P ops Q S (less ds i) (i :: done) (.s is t))) (hi : ops[i]? = some o := by rfl) (hd : o.dst = none := by rfl) (hw : wants ops σ o = some false := by rfl) (hc : takeC ops (less ds i) done i = true := by kernel_rfl) : G dl n σ k (Dx P ops Q S ds done (.s (i :: is) t)) := fun a w hs hk hQ =>
  wpAnyD_ds less_sub _ _ _ _ (dx_first (T := fun _ => True) (v := undef) hi hc (.inl fun _ => trivial) hQ (.inr ⟨wants_wanted hs.1 hw, rfl⟩) trivial (by rw [hd]; exact h _ w hs hk hQ))
theorem dx_end (h : G dl n σ k (Dx P ops Q S ds done t)) : G dl n σ k (Dx P ops Q S ds done (.s [] t)) := h
section
variable {α : Type} {vx : α → Value} {k' : α → K} {d : Nat}
theorem dx_wp (h : ∀ x, G dl n ((d, vx x) :: σ) (k' x) (Dx P ops Q S ds (i :: done) (.s is t))) (hi : ops[i]? = some o := by rfl) (hd : o.dst = some d := by rfl) (hw : wants ops σ o = some true := by rfl) (hp : WP P σ o k vx k' := by exact wp_auto) (hc : takeC ops ds done i = true := by kernel_rfl)
    (hn : Nat.ble (d + 1) n = true := by rfl) : G dl n σ k (Dx P ops Q S ds done (.s (i :: is) t)) := fun a w hs hk hQ => by
  obtain ⟨x, hp, hk⟩ := hp w hk
  exact dx_first (T := fun _ => True) hi hc (.inl fun _ => trivial) hQ (.inl ⟨wants_wanted hs.1 hw, fun w _ => hp { a with defers := [] } n hs.1 w⟩) trivial (by rw [hd]; exact h x _ w (hs.put (Nat.le_of_ble_eq_true hn) _) hk hQ)
theorem dx_wpA (h : ∀ x, G dl n ((d, vx x) :: σ) (Al S (k' x)) (Dx P ops Q S ds (i :: done) (.s is t))) (hi : ops[i]? = some o := by rfl) (hd : o.dst = some d := by rfl) (hw : wants ops σ o = some true := by rfl) (hp : WP P σ o k vx k' := by exact wp_auto) (hc : takeC ops ds done i = true := by kernel_rfl)
    (hn : Nat.ble (d + 1) n = true := by rfl) : G dl n σ (Al S k) (Dx P ops Q S ds done (.s (i :: is) t)) := fun a w hs ⟨hS, hk⟩ hQ => by
  obtain ⟨x, hp, hk⟩ := hp w hk
  exact dx_first (T := fun _ => True) hi hc (.inl fun _ => trivial) hQ (.inl ⟨wants_wanted hs.1 hw, fun w _ => hp { a with defers := [] } n hs.1 w⟩) trivial (by rw [hd]; exact h x _ w (hs.put (Nat.le_of_ble_eq_true hn) _) ⟨hS, hk⟩ hQ)
theorem dx_r0 (h : ∀ x, G dl n ((d, vx x) :: σ) (Al S (k' x)) (Dx P ops Q S ds (i :: done) (.s is t))) (hi : ops[i]? = some o) (hd : o.dst = some d) (hw : wants ops σ o = some true) (hp : ∀ w, S w → k w → ∃ x, (∀ w, S w → Eff P σ o w (.value (vx x)) w) ∧ k' x w) (hc : readC ops ds done i = true)
    (hn : Nat.ble (d + 1) n = true) : G dl n σ (Al S k) (Dx P ops Q S ds done (.s (i :: is) t)) := fun a w hs ⟨hS, hk⟩ hQ => by
  obtain ⟨x, hp, hk⟩ := hp w hS hk
  have hc' : takeC ops ds done i = true := by simp only [readC, Bool.and_eq_true] at hc; exact hc.1.1
  exact dx_first (T := S) hi hc' (.inr ⟨rfl, hc⟩) hQ (.inl ⟨wants_wanted hs.1 hw, fun w hw => hp w hw { a with defers := [] } n hs.1⟩) hS (by rw [hd]; exact h x _ w (hs.put (Nat.le_of_ble_eq_true hn) _) ⟨hS, hk⟩ hQ)
theorem dx_is {w1 : World} (h : ∀ x, G dl n ((d, vx x) :: σ) (Al (Is w1) (k' x)) (Dx P ops Q (Is w1) ds (i :: done) (.s is t))) (hi : ops[i]? = some o := by rfl) (hd : o.dst = some d := by rfl) (hw : wants ops σ o = some true := by rfl) (hp : WR P σ o k vx k' := by exact wr_auto) (hc : readC ops ds done i = true := by kernel_rfl)
    (hn : Nat.ble (d + 1) n = true := by rfl) : G dl n σ (Al (Is w1) k) (Dx P ops Q (Is w1) ds done (.s (i :: is) t)) := dx_r0 h hi hd hw hp.is hc hn
theorem dx_S (h : ∀ x, G dl n ((d, vx x) :: σ) (Al S (k' x)) (Dx P ops Q S ds (i :: done) (.s is t))) (hi : ops[i]? = some o := by rfl) (hd : o.dst = some d := by rfl) (hw : wants ops σ o = some true := by rfl) (hp : WS P S σ o k vx k' := by exact ws_auto) (hc : readC ops ds done i = true := by kernel_rfl)
    (hn : Nat.ble (d + 1) n = true := by rfl) : G dl n σ (Al S k) (Dx P ops Q S ds done (.s (i :: is) t)) := dx_r0 h hi hd hw (fun w _ hk => hp w hk) hc hn
end
theorem dx_nil (h : G dl n σ k (Ex Q .normal)) (hc : Region.ready .any ops (lst ops.size done) = [] := by kernel_rfl) : G dl n σ k (Dx P ops Q S ds done .e) := fun a w hs hk _ => by
  show wpAnyD P ops Q S ds (ops.size - done.length) (lst ops.size done) a w
  cases ops.size - done.length with
  | zero => exact ⟨hc, h a w hs hk⟩
  | succ m => exact ⟨fun _ => h a w hs hk, by rw [hc]; simp⟩
theorem al_drop (h : G dl n σ k X) : G dl n σ (Al S k) X := fun a w hs hk => h a w hs hk.2
theorem dx_ite {b : Bool} {x y : K} {s t : Scr} (h1 : b = true → G dl n σ x (Dx P ops Q S ds done s)) (h2 : b = false → G dl n σ y (Dx P ops Q S ds done t)) : G dl n σ (Ite b x y) (Dx P ops Q S ds done (.i s t)) := fun a w hs hk => by
  cases b
  · exact h2 rfl a w hs (hk.2 rfl)
  · exact h1 rfl a w hs (hk.1 rfl)
theorem dx_iteA {b : Bool} {x y : K} {s t : Scr} (h1 : b = true → G dl n σ (Al S x) (Dx P ops Q S ds done s)) (h2 : b = false → G dl n σ (Al S y) (Dx P ops Q S ds done t)) : G dl n σ (Al S (Ite b x y)) (Dx P ops Q S ds done (.i s t)) := fun a w hs ⟨hS, hk⟩ => by
  cases b
  · exact h2 rfl a w hs ⟨hS, hk.2 rfl⟩
  · exact h1 rfl a w hs ⟨hS, hk.1 rfl⟩
theorem al_nn {p : Option Addr} {kp : Addr → K} (h : ∀ a, p = some a → G dl n σ (Al S (kp a)) X) : G dl n σ (Al S (Nn p kp)) X := fun a w hs ⟨hS, b, hb, hk⟩ => h b hb a w hs ⟨hS, hk⟩
theorem al_fv {f : Value} {kf : FuncId → Array Value → Array Value → K} (h : ∀ g fs cs, f = .func (.func g) fs cs → CB P g → G dl n σ (Al S (kf g fs cs)) X) : G dl n σ (Al S (Fv P f kf)) X := fun a w hs ⟨hS, g, fs, cs, hf, hc, hk⟩ => h g fs cs hf ⟨hc⟩ a w hs ⟨hS, hk⟩
theorem al_an1 {α : Type} {d : Nat} {u : Value} {c : α → Value} {k : α → K} (h : ∀ x, G dl n ((d, c x) :: σ) (Al S (k x)) X) : G dl n ((d, u) :: σ) (Al S (Ans1 c k u)) X := fun a w hs ⟨hS, x, hu, hk⟩ => h x a w (hu ▸ hs) ⟨hS, hk⟩
theorem al_an2 {α β : Type} {d : Nat} {u : Value} {c : α → β → Value} {k : α → β → K} (h : ∀ x y, G dl n ((d, c x y) :: σ) (Al S (k x y)) X) : G dl n ((d, u) :: σ) (Al S (Ans2 c k u)) X := fun a w hs ⟨hS, x, y, hu, hk⟩ => h x y a w (hu ▸ hs) ⟨hS, hk⟩

/-! ### whichever comes up -/
theorem dx_a {m : List (Nat × Nat × Scr)} (h : G dl n σ k (Ax P ops Q S ds done m)) (hr : Region.ready .any ops (lst ops.size done) = m.map (·.1) := by kernel_rfl) (hl : (Nat.ble (done.length + 1) ops.size && !m.isEmpty) = true := by rfl) : G dl n σ k (Dx P ops Q S ds done (.a m)) := fun a w hs hk hQ => by
  simp only [Bool.and_eq_true, Bool.not_eq_true'] at hl
  have h5 := Nat.le_of_ble_eq_true hl.1
  show wpAnyD P ops Q S ds (ops.size - done.length) (lst ops.size done) a w
  have h0 := h a w hs hk
  rw [show ops.size - done.length = (ops.size - done.length - 1) + 1 by omega]
  refine ⟨fun h0 => ?_, fun i hi => ?_⟩
  · rw [h0] at hr
    cases m with
    | nil => simp at hl
    | cons p m => simp at hr
  · rw [hr] at hi
    obtain ⟨p, hp, rfl⟩ := List.mem_map.1 hi
    have := h0 p hp hQ
    rw [lst_set]
    exact this
theorem ax_all {ks : List K} {m : List (Nat × Nat × Scr)} {i tag : Nat} {t : Scr} (h1 : G dl n σ k (Ox P ops Q S ds done i tag t)) (h2 : G dl n σ (All ks) (Ax P ops Q S ds done m)) : G dl n σ (All (k :: ks)) (Ax P ops Q S ds done ((i, tag, t) :: m)) := fun a w hs hk p hp => by
  rcases List.mem_cons.1 hp with rfl | hp
  · exact h1 a w hs (hk 0 _ rfl)
  · exact h2 a w hs (fun j x hx => hk (j + 1) x (by simpa using hx)) p hp
theorem ax_allA {ks : List K} {m : List (Nat × Nat × Scr)} {i tag : Nat} {t : Scr} (h1 : G dl n σ (Al S k) (Ox P ops Q S ds done i tag t)) (h2 : G dl n σ (Al S (All ks)) (Ax P ops Q S ds done m)) : G dl n σ (Al S (All (k :: ks))) (Ax P ops Q S ds done ((i, tag, t) :: m)) := fun a w hs ⟨hS, hk⟩ p hp => by
  rcases List.mem_cons.1 hp with rfl | hp
  · exact h1 a w hs ⟨hS, hk 0 _ rfl⟩
  · exact h2 a w hs ⟨hS, fun j x hx => hk (j + 1) x (by simpa using hx)⟩ p hp
theorem ax_nil : G dl n σ k (Ax P ops Q S ds done []) := fun _ _ _ _ _ hp => by cases hp
theorem ax_one {i tag : Nat} {t : Scr} (h1 : G dl n σ k (Ox P ops Q S ds done i tag t)) : G dl n σ k (Ax P ops Q S ds done [(i, tag, t)]) := fun a w hs hk p hp => by
  rcases List.mem_cons.1 hp with rfl | hp
  · exact h1 a w hs hk
  · cases hp

def okK (ops : Array Oper) (S : World → Prop) (ds done : List Nat) (i : Nat) : Prop := (∀ w, S w) ∨ (ds.contains i || !alive ds (lst ops.size done)) = true
theorem okK.keep (h : okK ops S ds done i) (w w' : World) : alive ds (lst ops.size done) = true → i ∉ ds → S w → S w' := fun ha hi _ => by
  rcases h with h | h
  · exact h w'
  · rw [ha] at h
    simp only [Bool.not_true, Bool.or_false] at h
    exact absurd (List.contains_iff_mem.1 h) hi
theorem okK_auto (h : okK ops S ds done i := by first | exact .inl (fun _ => trivial) | exact .inr (by kernel_rfl)) : okK ops S ds done i := h
theorem ox_run {a : Act} {w : World} (hs : SlotsD dl a n σ) (hi : ops[i]? = some o) (hw : wants ops σ o = some true) {tag : Nat} (h : Tight Q → o.wpIn Fence.wide 0 P a w (fun a' w' => (alive ds (lst ops.size done) = true → i ∉ ds → S w → S w') ∧ wpAnyD P ops Q S ds (ops.size - done.length - 1) (lst ops.size (i :: done)) a' w') Q) : Ox P ops Q S ds done i tag t a w := by
  intro hQ
  unfold opW wpOpIn
  simp only [hi, wants_wanted hs.1 hw, if_true]
  exact h hQ
theorem dn_len {m : Nat} : ops.size - done.length - 1 = ops.size - (i :: done).length := by simp only [List.length_cons]; omega
section
variable {α : Type} {vx : α → Value} {k' : α → K} {d : Nat} {k1 : K}
theorem ox_e (h : ∀ x, G dl n ((d, vx x) :: σ) (k' x) (Dx P ops Q S ds (i :: done) t)) (hi : ops[i]? = some o := by rfl) (hd : o.dst = some d := by rfl) (hw : wants ops σ o = some true := by rfl) (hp : WE P σ o k vx k' := by first | exact we_auto | exact WR.we wr_auto) (hK : okK ops S ds done i := by exact okK_auto)
    (hn : Nat.ble (d + 1) n = true := by rfl) (nd : isDef o.op = false := by rfl) : G dl n σ k (Ox P ops Q S ds done i 0 t) := fun a w hs hk => by
  obtain ⟨x, w', hp, h'⟩ := hp w hk
  refine ox_run hs hi hw fun hQ => (op_value (r := none) hs nd hp ⟨hK.keep w w', ?_⟩)
  rw [hd, dn_len (m := 0)]; exact h x _ w' (hs.put (Nat.le_of_ble_eq_true hn) _) h' hQ
theorem ox_en (h : ∀ x, G dl n σ (k' x) (Dx P ops Q S ds (i :: done) t)) (hi : ops[i]? = some o := by rfl) (hd : o.dst = none := by rfl) (hw : wants ops σ o = some true := by rfl) (hp : WE P σ o k vx k' := by exact we_auto) (hK : okK ops S ds done i := by exact okK_auto)
    (nd : isDef o.op = false := by rfl) : G dl n σ k (Ox P ops Q S ds done i 0 t) := fun a w hs hk => by
  obtain ⟨x, w', hp, h'⟩ := hp w hk
  refine ox_run hs hi hw fun hQ => (op_value (r := none) hs nd hp ⟨hK.keep w w', ?_⟩)
  rw [hd, dn_len (m := 0)]; exact h x _ w' hs h' hQ
theorem ox_k (h : G dl n σ k1 (Dx P ops Q S ds (i :: done) t)) (hi : ops[i]? = some o := by rfl) (hd : o.dst = none := by rfl) (hw : wants ops σ o = some true := by rfl) (hp : WK P σ o k k1 := by exact wk_auto) (hK : okK ops S ds done i := by exact okK_auto)
    (nd : isDef o.op = false := by rfl) : G dl n σ k (Ox P ops Q S ds done i 0 t) := fun a w hs hk => by
  obtain ⟨w', hp, h'⟩ := hp w hk
  refine ox_run hs hi hw fun hQ => (op_skip (r := none) hs nd hp ⟨hK.keep w w', ?_⟩)
  rw [hd, dn_len (m := 0)]; exact h _ w' hs h' hQ
theorem ox_c {kk : Value → K} (h : ∀ u, G dl n ((d, u) :: σ) (kk u) (Dx P ops Q S ds (i :: done) t)) (hi : ops[i]? = some o := by rfl) (hd : o.dst = some d := by rfl) (hw : wants ops σ o = some true := by rfl) (hp : WC P σ o k kk := by exact wc_auto) (hK : okK ops S ds done i := by exact okK_auto)
    (hn : Nat.ble (d + 1) n = true := by rfl) (nd : isDef o.op = false := by rfl) : G dl n σ k (Ox P ops Q S ds done i 0 t) := fun a w hs hk => by
  obtain ⟨f, args, w', hp, hc⟩ := hp w hk
  refine ox_run hs hi hw fun hQ => (op_call (r := none) hs nd hp hc fun v w1 h' => ⟨hK.keep w w1, ?_⟩)
  rw [hd, dn_len (m := 0)]; exact h v _ w1 (hs.put (Nat.le_of_ble_eq_true hn) _) h' hQ
theorem ox_cn {kk : Value → K} (h : ∀ u, G dl n σ (kk u) (Dx P ops Q S ds (i :: done) t)) (hi : ops[i]? = some o := by rfl) (hd : o.dst = none := by rfl) (hw : wants ops σ o = some true := by rfl) (hp : WC P σ o k kk := by exact wc_auto) (hK : okK ops S ds done i := by exact okK_auto)
    (nd : isDef o.op = false := by rfl) : G dl n σ k (Ox P ops Q S ds done i 0 t) := fun a w hs hk => by
  obtain ⟨f, args, w', hp, hc⟩ := hp w hk
  refine ox_run hs hi hw fun hQ => (op_call (r := none) hs nd hp hc fun v w1 h' => ⟨hK.keep w w1, ?_⟩)
  rw [hd, dn_len (m := 0)]; exact h v _ w1 hs h' hQ
theorem ox_y {kk : Value → K} (h : ∀ u, G dl n ((d, u) :: σ) (kk u) (Dx P ops Q S ds (i :: done) t)) (hi : ops[i]? = some o := by rfl) (hd : o.dst = some d := by rfl) (hw : wants ops σ o = some true := by rfl) (hp : WY P σ o k kk := by exact wy_y rfl rfl rfl) (hK : okK ops S ds done i := by exact okK_auto)
    (hn : Nat.ble (d + 1) n = true := by rfl) (nd : isDef o.op = false := by rfl) : G dl n σ k (Ox P ops Q S ds done i 0 t) := fun a w hs hk => by
  obtain ⟨y, args, hp, hc⟩ := hp w hk
  refine ox_run hs hi hw fun hQ => (op_yield hs nd hp hc fun v w1 h' => ⟨hK.keep w w1, ?_⟩)
  rw [hd, dn_len (m := 0)]; exact h v _ w1 (hs.put (Nat.le_of_ble_eq_true hn) _) h' hQ
-- S holds behind it
theorem ox_e1 (h : ∀ x, G dl n ((d, vx x) :: σ) (Al S (k' x)) (Dx P ops Q S ds (i :: done) t)) (hi : ops[i]? = some o := by rfl) (hd : o.dst = some d := by rfl) (hw : wants ops σ o = some true := by rfl) (hp : WE P σ o k vx (fun x => Sv S (k' x)) := by exact we_auto)
    (hn : Nat.ble (d + 1) n = true := by rfl) (nd : isDef o.op = false := by rfl) : G dl n σ (Al S k) (Ox P ops Q S ds done i 1 t) := fun a w hs ⟨_, hk⟩ => by
  obtain ⟨x, w', hp, hS, h'⟩ := hp w hk
  refine ox_run hs hi hw fun hQ => (op_value (r := none) hs nd hp ⟨fun _ _ _ => hS, ?_⟩)
  rw [hd, dn_len (m := 0)]; exact h x _ w' (hs.put (Nat.le_of_ble_eq_true hn) _) ⟨hS, h'⟩ hQ
theorem ox_en1 (h : ∀ x, G dl n σ (Al S (k' x)) (Dx P ops Q S ds (i :: done) t)) (hi : ops[i]? = some o := by rfl) (hd : o.dst = none := by rfl) (hw : wants ops σ o = some true := by rfl) (hp : WE P σ o k vx (fun x => Sv S (k' x)) := by exact we_auto)
    (nd : isDef o.op = false := by rfl) : G dl n σ (Al S k) (Ox P ops Q S ds done i 1 t) := fun a w hs ⟨_, hk⟩ => by
  obtain ⟨x, w', hp, hS, h'⟩ := hp w hk
  refine ox_run hs hi hw fun hQ => (op_value (r := none) hs nd hp ⟨fun _ _ _ => hS, ?_⟩)
  rw [hd, dn_len (m := 0)]; exact h x _ w' hs ⟨hS, h'⟩ hQ
theorem ox_k1 (h : G dl n σ (Al S k1) (Dx P ops Q S ds (i :: done) t)) (hi : ops[i]? = some o := by rfl) (hd : o.dst = none := by rfl) (hw : wants ops σ o = some true := by rfl) (hp : WK P σ o k (Sv S k1) := by exact wk_auto)
    (nd : isDef o.op = false := by rfl) : G dl n σ (Al S k) (Ox P ops Q S ds done i 1 t) := fun a w hs ⟨_, hk⟩ => by
  obtain ⟨w', hp, hS, h'⟩ := hp w hk
  refine ox_run hs hi hw fun hQ => (op_skip (r := none) hs nd hp ⟨fun _ _ _ => hS, ?_⟩)
  rw [hd, dn_len (m := 0)]; exact h _ w' hs ⟨hS, h'⟩ hQ
/-- An answer, with S. -/
def SvA (S : World → Prop) (kk : Value → K) (kS : Value → K) : Prop := ∀ u w, kk u w → S w ∧ kS u w
theorem sva_0 {v0 : Value} {k : K} : SvA S (Ans0 v0 (Sv S k)) (Ans0 v0 k) := fun _ _ ⟨h, hS, hk⟩ => ⟨hS, h, hk⟩
theorem sva_1 {α : Type} {c : α → Value} {k : α → K} : SvA S (Ans1 c fun x => Sv S (k x)) (Ans1 c k) := fun _ _ ⟨x, h, hS, hk⟩ => ⟨hS, x, h, hk⟩
theorem sva_2 {α β : Type} {c : α → β → Value} {k : α → β → K} : SvA S (Ans2 c fun x y => Sv S (k x y)) (Ans2 c k) := fun _ _ ⟨x, y, h, hS, hk⟩ => ⟨hS, x, y, h, hk⟩
theorem sva_3 {α β γ : Type} {c : α → β → γ → Value} {k : α → β → γ → K} : SvA S (Ans3 c fun x y z => Sv S (k x y z)) (Ans3 c k) := fun _ _ ⟨x, y, z, h, hS, hk⟩ => ⟨hS, x, y, z, h, hk⟩
theorem ox_c1 {kk kS : Value → K} (h : ∀ u, G dl n ((d, u) :: σ) (Al S (kS u)) (Dx P ops Q S ds (i :: done) t)) (hi : ops[i]? = some o := by rfl) (hd : o.dst = some d := by rfl) (hw : wants ops σ o = some true := by rfl) (hp : WC P σ o k kk := by exact wc_auto)
    (hS : SvA S kk kS := by first | exact sva_1 | exact sva_0 | exact sva_2 | exact sva_3) (hn : Nat.ble (d + 1) n = true := by rfl) (nd : isDef o.op = false := by rfl) : G dl n σ (Al S k) (Ox P ops Q S ds done i 1 t) := fun a w hs ⟨_, hk⟩ => by
  obtain ⟨f, args, w', hp, hc⟩ := hp w hk
  refine ox_run hs hi hw fun hQ => (op_call (r := none) hs nd hp hc fun v w1 h' => ⟨fun _ _ _ => (hS v w1 h').1, ?_⟩)
  rw [hd, dn_len (m := 0)]; exact h v _ w1 (hs.put (Nat.le_of_ble_eq_true hn) _) (hS v w1 h') hQ
-- it reads
theorem ox_r2 (h : ∀ x, G dl n ((d, vx x) :: σ) (k' x) (Dx P ops Q S ds (i :: done) t)) (hi : ops[i]? = some o := by rfl) (hd : o.dst = some d := by rfl) (hw : wants ops σ o = some true := by rfl) (hp : WR P σ o k vx k' := by exact wr_auto)
    (hn : Nat.ble (d + 1) n = true := by rfl) (nd : isDef o.op = false := by rfl) : G dl n σ k (Ox P ops Q S ds done i 2 t) := fun a w hs hk => by
  obtain ⟨x, hp, h'⟩ := hp w hk
  refine ox_run hs hi hw fun hQ => (op_value (r := none) hs nd hp ⟨fun _ _ h => h, ?_⟩)
  rw [hd, dn_len (m := 0)]; exact h x _ w (hs.put (Nat.le_of_ble_eq_true hn) _) h' hQ
theorem ox_r2A (h : ∀ x, G dl n ((d, vx x) :: σ) (Al S (k' x)) (Dx P ops Q S ds (i :: done) t)) (hi : ops[i]? = some o := by rfl) (hd : o.dst = some d := by rfl) (hw : wants ops σ o = some true := by rfl) (hp : WR P σ o k vx k' := by exact wr_auto)
    (hn : Nat.ble (d + 1) n = true := by rfl) (nd : isDef o.op = false := by rfl) : G dl n σ (Al S k) (Ox P ops Q S ds done i 2 t) := fun a w hs ⟨hS, hk⟩ => by
  obtain ⟨x, hp, h'⟩ := hp w hk
  refine ox_run hs hi hw fun hQ => (op_value (r := none) hs nd hp ⟨fun _ _ h => h, ?_⟩)
  rw [hd, dn_len (m := 0)]; exact h x _ w (hs.put (Nat.le_of_ble_eq_true hn) _) ⟨hS, h'⟩ hQ
end

/-! ### a drawn region's beginning -/
variable {k0 : K} {id : Nat}
theorem cx_draw0 (h : G dl n σ k0 (Dx P l.toArray Q Any ds [] t)) (hh : DH id 0 ds t := by assumption) (hQ : Tight Q := by exact tight_auto) [hm : MX P] : G dl n σ (Dr k0) (Cx none P (.region id l.toArray true) Q) := fun a w hs ⟨w1, hw, hk⟩ => by
  subst hw
  have h1 := h a _ hs hk hQ
  refine wpIn_region_any hm.h (wpAnyIn_of_D (S := Any) (ds := ds) _ _ _ _ ?_)
  rw [lst_nil]; exact h1
theorem cx_draw1 (h : ∀ w1, G dl n σ (Al (Is w1) k0) (Dx P l.toArray Q (Is w1) ds [] t)) (hh : DH id 1 ds t := by assumption) (hQ : Tight Q := by exact tight_auto) [hm : MX P] : G dl n σ (Dr k0) (Cx none P (.region id l.toArray true) Q) := fun a w hs ⟨w1, hw, hk⟩ => by
  subst hw
  have h1 := h _ a _ hs ⟨Is.intro _, hk⟩ hQ
  refine wpIn_region_any hm.h (wpAnyIn_of_D (S := Is { w with drawn := w.drawn + 1 }) (ds := ds) _ _ _ _ ?_)
  rw [lst_nil]; exact h1
theorem cx_draw2 {kS : (World → Prop) → K} (h : ∀ S, G dl n σ (Al S (kS S)) (Dx P l.toArray Q S ds [] t)) (hh : DH id 2 ds t := by assumption) (hQ : Tight Q := by exact tight_auto) [hm : MX P] : G dl n σ (Dr (WithS kS)) (Cx none P (.region id l.toArray true) Q) := fun a w hs ⟨w1, hw, S, hS, hk⟩ => by
  subst hw
  have h1 := h S a _ hs ⟨hS, hk⟩ hQ
  refine wpIn_region_any hm.h (wpAnyIn_of_D (S := S) (ds := ds) _ _ _ _ ?_)
  rw [lst_nil]; exact h1

/-! ### a drawn region that only reads -/
/-- The order of the text, in the world w. -/
def Sx (P : Program) (ops : Array Oper) (Q : Exit → Act → World → Prop) (l : List Oper) : Act → World → Prop := fun a w => wpStill P ops w (fun a' => Q .normal a' w) l a
theorem cx_still (h : G [] n σ k0 (Sx P l.toArray Q l)) [hm : MX P] (hB : Region.lexB .any l.toArray = true := by kernel_rfl) : G [] n σ (Dr k0) (Cx none P (.region id l.toArray true) Q) := fun a w hs ⟨w1, hw, hk⟩ => by
  refine wpIn_wide.2 (s_start hm.h hB hw (h a w1 hs hk))
theorem sx_p {d : Nat} (h : G [] n ((d, v) :: σ) k (Sx P ops Q l)) (hd : o.dst = some d := by rfl) (hw : wants ops σ o = some true := by rfl) (hp : Pure P σ o v := by exact pu_auto) (hn : Nat.ble (d + 1) n = true := by rfl) : G [] n σ k (Sx P ops Q (o :: l)) := fun a w hs hk =>
  s_yes hs.nil hw (s_pure hs.nil rfl hd (Nat.le_of_ble_eq_true hn) hp fun a h' => h a w h'.D hk)
theorem sx_no {d : Nat} (h : G [] n ((d, undef) :: σ) k (Sx P ops Q l)) (hd : o.dst = some d := by rfl) (hw : wants ops σ o = some false := by rfl) (hn : Nat.ble (d + 1) n = true := by rfl) : G [] n σ k (Sx P ops Q (o :: l)) := fun a w hs hk =>
  s_no hs.nil hw hd (Nat.le_of_ble_eq_true hn) fun a h' => h a w h'.D hk
section
variable {α : Type} {vx : α → Value} {k' : α → K} {d : Nat}
theorem sx_r0 (hr : WR P σ o k vx k') (h : ∀ x, G [] n ((d, vx x) :: σ) (k' x) (Sx P ops Q l)) (hd : o.dst = some d) (hw : wants ops σ o = some true) (hn : Nat.ble (d + 1) n = true) : G [] n σ k (Sx P ops Q (o :: l)) := fun a w hs hk => by
  obtain ⟨x, hp, h'⟩ := hr w hk
  exact s_yes hs.nil hw (s_eff hs.nil rfl hd (Nat.le_of_ble_eq_true hn) hp fun a hs' => h x a w hs'.D h')
theorem sx_wp (h : ∀ x, G [] n ((d, vx x) :: σ) (k' x) (Sx P ops Q l)) (hd : o.dst = some d := by rfl) (hw : wants ops σ o = some true := by rfl) (hp : WP P σ o k vx k' := by exact wp_auto) (hn : Nat.ble (d + 1) n = true := by rfl) : G [] n σ k (Sx P ops Q (o :: l)) := sx_r0 hp.wr h hd hw hn
theorem sx_wr (h : ∀ x, G [] n ((d, vx x) :: σ) (k' x) (Sx P ops Q l)) (hd : o.dst = some d := by rfl) (hw : wants ops σ o = some true := by rfl) (hp : WR P σ o k vx k' := by exact wr_auto) (hn : Nat.ble (d + 1) n = true := by rfl) : G [] n σ k (Sx P ops Q (o :: l)) := sx_r0 hp h hd hw hn
end
theorem sx_ite {b : Bool} {x y : K} (h1 : b = true → G dl n σ x (Sx P ops Q (o :: l))) (h2 : b = false → G dl n σ y (Sx P ops Q (o :: l))) (hg : gslot ops σ o = some (.bool b) := by rfl) : G dl n σ (Ite b x y) (Sx P ops Q (o :: l)) := fun a w hs hk => by
  cases b
  · exact h2 rfl a w hs (hk.2 rfl)
  · exact h1 rfl a w hs (hk.1 rfl)
theorem sx_nil (h : G [] n σ k (Ex Q .normal)) : G [] n σ k (Sx P ops Q []) := fun a w hs hk => h a w hs hk
end
end Go.Sep
/- Ranges over a function, in a walk: of some variables, left by a jump or not. Holds for every program. -/
namespace Go.Sep
open Go
set_option linter.unusedSimpArgs false
set_option linter.unusedVariables false

def jumpC : Exit → Code
  | .exit i => .exit i
  | _ => .ret
/-- A round begins. -/
def BeginR (l : Nat) (r : Loop) (k : K) : K := fun w => w.heap[l]? = some (.loop r) ∧ k (w.putObj l (.loop { r with state := .busy }))
/-- A round is left by a jump. -/
def StopR (l : Nat) (r : Loop) (J : Exit) (k : K) : K := fun w => w.heap[l]? = some (.loop r) ∧ k (w.putObj l (.loop { r with state := .done, pending := some (jumpC J) }))
def YN (kN kJ : K) : Value → K := fun v w => (v = .bool true ∧ kN w) ∨ (v = .bool false ∧ kJ w)
def RangeJ {α : Type} (P : Program) (fv : Value) (J : Exit) (cX : α → List Value) (body : (K → K) → K → K → α → K) (after afterJ : Nat → K) : K := fun w =>
  ∃ g cs, fv = .func (.func g) #[] cs ∧ callable P g = true ∧
    ∀ (r : Loop) (w1 : World), r.state = .ready → r.pending = none → r.defers = w.heap.size → w1 = (w.alloc (.deferred (some []))).alloc (.loop r) →
      (∀ (x : α) (kN kJ : K) (W : World), W.heap[w.heap.size + 1]? = some (.loop r) →
        body (BeginR (w.heap.size + 1) r) (EndR (w.heap.size + 1) { r with state := .busy } kN) (StopR (w.heap.size + 1) { r with state := .busy } J kJ) x W →
        YieldAt Fence.wide 0 P (w.heap.size + 1) (cX x).toArray W (Ret (YN kN kJ))) →
      Calls P g (yv (w.heap.size + 1) :: cs.toList).toArray w1 (Ret fun _ w3 =>
        (w3.heap[w.heap.size + 1]? = some (.loop r) ∧ after w.heap.size (w3.putObj (w.heap.size + 1) (.loop { r with state := .exhausted }))) ∨
        (w3.heap[w.heap.size + 1]? = some (.loop { r with state := .done, pending := some (jumpC J) }) ∧ afterJ w.heap.size (w3.putObj (w.heap.size + 1) (.loop { r with state := .exhausted, pending := some (jumpC J) }))))

def FQ : Exit → Act → World → Prop := fun _ _ _ => False
/-- How a round's body is left. -/
def RQ (J : Exit) (kN kJ : K) : Exit → Act → World → Prop := fun e _ w => match e with
  | .normal => kN w
  | .ret => J = .ret ∧ kJ w
  | .exit i => J = .exit i ∧ kJ w
  | _ => False
def Bx (kb k : K) (r : Option Nat) (P : Program) (body : Code) (Q : Exit → Act → World → Prop) : Act → World → Prop := fun a w => k w ∧ ∀ w, kb w → body.wpIn (fe r) 0 P Q a w
def Bj (BG : K → K) (r : Option Nat) (P : Program) (body : Code) (Q : Exit → Act → World → Prop) : Act → World → Prop := fun a w => ∃ k, BG k w ∧ ∀ w, k w → body.wpIn (fe r) 0 P Q a w
def zipS : List Nat → List Value → List (Nat × Value) → List (Nat × Value)
  | p :: ps, v :: vs, σ => zipS ps vs ((p, v) :: σ)
  | _, _, σ => σ

section
variable {P : Program} {dl : List Deferred} {n : Nat} {σ τ : List (Nat × Value)} {k kb : K} {r : Option Nat} {Q : Exit → Act → World → Prop} {body assign : Code} {a : Act} {w : World}
theorem bx_b (h : G dl n σ kb (Cx r P body Q)) : G dl n σ k (Bx kb k r P body Q) := fun a _ hs hk => ⟨hk, fun w hk => h a w hs hk⟩
theorem bj_b {BG : K → K} (h : G dl n σ k (Cx r P body Q)) : G dl n σ (BG k) (Bj BG r P body Q) := fun a w hs hk => ⟨k, hk, fun w hk => h a w hs hk⟩
theorem rq_n {J : Exit} {kJ : K} : G dl n σ k (Ex (RQ J k kJ) .normal) := fun _ _ _ hk => hk
theorem rq_r {kN : K} : G dl n σ k (Ex (RQ .ret kN k) .ret) := fun _ _ _ hk => ⟨rfl, hk⟩
theorem rq_x {kN : K} {i : Nat} : G dl n σ k (Ex (RQ (.exit i) kN k) (.exit i)) := fun _ _ _ hk => ⟨rfl, hk⟩

theorem zip_slots : ∀ (ps : List Nat) (vs : List Value) (σ : List (Nat × Value)) (t : Array Value), (ps.all fun p => Nat.ble (p + 1) n) = true → Slots { tmps := t, defers := [] } n σ →
    Slots { tmps := (ps.zip vs).foldl (fun t p => t.setIfInBounds p.1 p.2) t, defers := [] } n (zipS ps vs σ)
  | [], _, _, _, _, h => h
  | p :: ps, [], _, _, _, h => h
  | p :: ps, v :: vs, σ, t, hp, h => by
    simp only [List.all_cons, Bool.and_eq_true] at hp
    have h1 := h.put (Nat.le_of_ble_eq_true hp.1) v
    exact zip_slots ps vs _ _ hp.2 h1

theorem cx_rangeJ {α : Type} {g : Operand} {ps : List Tmp} {fv : Value} {J : Exit} {cX : α → List Value} {bk : (K → K) → K → K → α → K} {after afterJ : Nat → K}
    (h1 : ∀ (l : Nat) (BG : K → K) (KN KJ : K) (x : α), G [] n (zipS ps (cX x) σ) (bk BG KN KJ x) (Cx (some l) P assign (Exit.then (Bj BG (some l) P body (RQ J KN KJ)) FQ)))
    (h2 : ∀ D, G (markD D) n σ (after D) (Ex Q .normal)) (h3 : ∀ D, G (markD D) n σ (afterJ D) (Ex Q J)) (hg : ev σ g = some fv := by rfl) (hp : (ps.all fun p => Nat.ble (p + 1) n) = true := by rfl) (hlen : ∀ x, (cX x).length = ps.length := by exact fun _ => rfl) (hJ : J = .ret ∨ ∃ i, J = .exit i := by first | exact .inl rfl | exact .inr ⟨_, rfl⟩) :
    G [] n σ (RangeJ P fv J cX bk after afterJ) (Cx none P (.rangeFunc g ps.toArray assign body) Q) := fun a w hs ⟨gf, cs, hfv, hcb, h⟩ => by
  show (Code.rangeFunc g ps.toArray assign body).wpIn Fence.wide 0 P Q a w
  refine wpIn_rangeFunc fun fn hfn => ?_
  obtain ⟨r, hr⟩ : ∃ r : Loop, r = { state := .ready, pending := none, fn, tmps := a.tmps, params := ps.toArray, assign, body, defers := w.heap.size } := ⟨_, rfl⟩
  have hh := h r _ (by rw [hr]) (by rw [hr]) (by rw [hr]) rfl
  refine ⟨w.heap.size + 1, markD w.heap.size, (w.alloc (.deferred (some []))).alloc (.loop r), { target := .fn (.func gf) cs, args := #[.func (.yield (w.heap.size + 1)) #[] #[]] }, (w.alloc (.deferred (some []))).alloc (.loop r), gf,
    (yv (w.heap.size + 1) :: cs.toList).toArray, (w.alloc (.deferred (some []))).alloc (.loop r), ?_, ?_, fun _ _ => trivial, ?_, (fun h => by cases h), ?_⟩
  · rw [hr]; exact run_enterLoop_outer _ _ _ _ _
  · have he : a.eval g = .func (.func gf) #[] cs := by rw [← hfv]; exact hs.1.ev hg
    simp only [resolve, he]
    simp [go_sem]
  · simp [invoke, run_callFunc hcb]
  · refine callsIn_free free_wide rfl ((hh ?_).mono fun e w3 he => ?_)
    · intro x kN kJ W hl hb
      refine ⟨fn, _, assign, body, (run_yield (P := P) (args := (cX x).toArray) hl (by rw [hr]; simp [hlen])).trans (by rw [hr]), ?_⟩
      refine roundIn_of_wpIn trivial ?_
      have hs1 := zip_slots ps (cX x) σ a.tmps hp (show Slots { tmps := a.tmps, defers := [] } n σ from by have := hs.1; exact this)
      have h4 := h1 (w.heap.size + 1) _ _ _ x { tmps := (ps.zip (cX x)).foldl (fun t p => t.setIfInBounds p.1 p.2) a.tmps, defers := [] } W ⟨hs1, rfl⟩ hb
      have h5 : assign.wpIn (Fence.wide.inRound (w.heap.size + 1)) 0 P (Exit.then (Bj (BeginR (w.heap.size + 1) r) (some (w.heap.size + 1)) P body (RQ J (EndR (w.heap.size + 1) { r with state := .busy } kN) (StopR (w.heap.size + 1) { r with state := .busy } J kJ))) FQ)
          { tmps := (ps.toArray.zip (cX x).toArray).foldl (fun t p => t.setIfInBounds p.1 p.2) a.tmps, defers := [] } W := by
        have : (ps.toArray.zip (cX x).toArray).foldl (fun t p => t.setIfInBounds p.1 p.2) a.tmps = (ps.zip (cX x)).foldl (fun t p => t.setIfInBounds p.1 p.2) a.tmps := by simp
        rw [this]; exact h4
      refine wpIn_mono h5 fun e a2 w2 hq => ?_
      cases e with
      | normal =>
        obtain ⟨kk, hk, hbd⟩ := hq
        refine ⟨_, run_beginRound hk.1 (by rw [hr]), ?_⟩
        refine wpIn_mono (hbd _ hk.2) fun e a3 w3 hq => ?_
        cases e with
        | normal =>
          obtain ⟨h3, h4⟩ := hq
          exact ⟨_, _, run_endRound none h3, .inl ⟨rfl, h4⟩⟩
        | ret =>
          obtain ⟨rfl, h3, h4⟩ := hq
          exact ⟨_, _, run_endRound (some .ret) h3, .inr ⟨rfl, h4⟩⟩
        | exit i =>
          obtain ⟨rfl, h3, h4⟩ := hq
          exact ⟨_, _, run_endRound (some (.exit i)) h3, .inr ⟨rfl, h4⟩⟩
        | goto t => exact hq.elim
        | panic c => exact hq.elim
        | outgrown => exact hq.elim
      | _ => exact hq.elim
    · cases e with
      | returned v =>
        have hn : r.pending = none := by rw [hr]
        rcases he with ⟨h3', h4⟩ | ⟨h3', h4⟩
        · refine ⟨_, _, run_endLoop h3' (by rw [hr]; simp), ?_⟩
          have h5 := h2 _ { a with defers := markD w.heap.size ++ a.defers } _ ⟨hs.1, by simp [hs.2, markD]⟩ h4
          rw [hn] at h5 ⊢
          exact h5
        · refine ⟨_, _, run_endLoop h3' (by simp), ?_⟩
          have h5 := h3 _ { a with defers := markD w.heap.size ++ a.defers } _ ⟨hs.1, by simp [hs.2, markD]⟩ h4
          rcases hJ with rfl | ⟨i, rfl⟩
          · exact wpIn_ret h5
          · exact wpIn_exit h5
      | panicked c => exact he.elim
      | outgrown => exact he.elim

theorem cx_rangeF {α : Type} {g : Operand} {p : Tmp} {fv : Value} {cX : α → Value} {bk : K → α → K} {after : Nat → K}
    (h1 : ∀ (l : Nat) (KN : K) (x : α) (k1 : K), G [] n ((p, cX x) :: σ) k1 (Cx (some l) P assign (Exit.then (Bx (bk KN x) k1 (some l) P body (RQ .normal KN Dead)) FQ)))
    (h2 : ∀ D, G (markD D) n σ (after D) (Ex Q .normal)) (hg : ev σ g = some fv := by rfl) (hp : Nat.ble (p + 1) n = true := by rfl) :
    G [] n σ (RangeF P fv cX bk after) (Cx none P (.rangeFunc g #[p] assign body) Q) := fun a w hs ⟨gf, cs, hfv, hcb, h⟩ => by
  show (Code.rangeFunc g #[p] assign body).wpIn Fence.wide 0 P Q a w
  refine wpIn_rangeFunc fun fn hfn => ?_
  obtain ⟨r, hr⟩ : ∃ r : Loop, r = { state := .ready, pending := none, fn, tmps := a.tmps, params := #[p], assign, body, defers := w.heap.size } := ⟨_, rfl⟩
  have hh := h r _ (by rw [hr]) (by rw [hr]) (by rw [hr]) rfl
  refine ⟨w.heap.size + 1, markD w.heap.size, (w.alloc (.deferred (some []))).alloc (.loop r), { target := .fn (.func gf) cs, args := #[.func (.yield (w.heap.size + 1)) #[] #[]] }, (w.alloc (.deferred (some []))).alloc (.loop r), gf,
    (yv (w.heap.size + 1) :: cs.toList).toArray, (w.alloc (.deferred (some []))).alloc (.loop r), ?_, ?_, fun _ _ => trivial, ?_, (fun h => by cases h), ?_⟩
  · rw [hr]; exact run_enterLoop_outer _ _ _ _ _
  · have he : a.eval g = .func (.func gf) #[] cs := by rw [← hfv]; exact hs.1.ev hg
    simp only [resolve, he]
    simp [go_sem]
  · simp [invoke, run_callFunc hcb]
  · refine callsIn_free free_wide rfl ((hh ?_).mono fun e w3 he => ?_)
    · intro x kN W hl hb
      refine ⟨fn, _, assign, body, (run_yield (P := P) (args := #[cX x]) hl (by rw [hr]; rfl)).trans (by rw [hr]), ?_⟩
      refine roundIn_of_wpIn trivial ?_
      have hs1 : SlotsD [] { tmps := a.tmps.setIfInBounds p (cX x), defers := [] } n ((p, cX x) :: σ) := by
        have := hs.1.put (Nat.le_of_ble_eq_true hp) (cX x)
        exact ⟨this, rfl⟩
      have h4 := h1 (w.heap.size + 1) (EndR (w.heap.size + 1) { r with state := .busy } kN) x (fun w => w = W) _ W hs1 rfl
      refine wpIn_mono (show assign.wpIn (Fence.wide.inRound (w.heap.size + 1)) 0 P _ _ W from by simp only [Cx] at h4; simpa using h4) fun e a2 w2 hq => ?_
      cases e with
      | normal =>
        obtain ⟨rfl, hbd⟩ := hq
        refine ⟨_, run_beginRound hl (by rw [hr]), ?_⟩
        refine wpIn_mono (hbd _ hb) fun e a3 w3 hq => ?_
        cases e with
        | normal =>
          obtain ⟨h3, h4⟩ := hq
          exact ⟨_, _, run_endRound none h3, rfl, h4⟩
        | ret => exact absurd hq.1 (by simp)
        | exit i => exact absurd hq.1 (by simp)
        | _ => exact hq.elim
      | _ => exact hq.elim
    · cases e with
      | returned v =>
        have hn : r.pending = none := by rw [hr]
        obtain ⟨h3, h4⟩ := he
        refine ⟨_, _, run_endLoop h3 (by rw [hr]; simp), ?_⟩
        have h5 := h2 _ { a with defers := markD w.heap.size ++ a.defers } _ ⟨hs.1, by simp [hs.2, markD]⟩ h4
        rw [hn] at h5 ⊢
        exact h5
      | panicked c => exact he.elim
      | outgrown => exact he.elim
end
end Go.Sep
/- The whole walk of a function, by the kinds of its operations. Holds for every program. -/
namespace Go.Sep
open Go
set_option linter.unusedVariables false
def opb : Builtin → Nat
  | .len => 20
  | .max | .min => 21
  | _ => 22
def opc : Op → Nat
  | .move _ | .assign _ => 0
  | .pick _ _ _ => 1
  | .nilCheck _ => 2
  | .fieldAddr _ _ _ => 3
  | .extract _ _ => 4
  | .makeFunc _ _ _ => 5
  | .unOp o _ _ => match o with
    | .not => 6
    | _ => 7
  | .binOp o _ _ _ _ => match o with
    | .add | .sub | .mul | .and | .or | .xor => 8
    | .shl | .shr | .quo | .rem | .andNot => 9
    | _ => 10
  | .convert _ _ _ => 11
  | .build _ _ => 12
  | .load _ _ => 13
  | .lookup _ _ _ _ => 14
  | .alloc _ | .box _ _ => 15
  | .buildSlice _ _ _ => 16
  | .store _ _ _ => 17
  | .mapUpdate _ _ _ _ => 18
  | .call c => match c.callee with
    | .builtin b => opb b
    | _ => 19
  | .makeMap _ _ | .makeSlice _ _ _ => 23
  | .range _ _ | .next _ _ | .entry _ => 24
  | .makeInterface _ _ => 25
  | .field _ _ _ => 26
  | .index _ _ _ | .indexAddr _ _ _ => 27
  | .slice _ _ _ _ _ => 28
  | _ => 99
def opi (ops : Array Oper) (i : Nat) : Nat := match ops[i]? with
  | some o => opc o.op
  | none => 98
section
variable {P : Program} {dl : List Deferred} {n : Nat} {σ : List (Nat × Value)} {k : K} {r : Option Nat} {ops : Array Oper} {Q : Exit → Act → World → Prop} {l : List Oper} {o : Oper} {S : World → Prop} {ds done is : List Nat} {i tag : Nat} {t : Scr} {c x y : Code} {e : Exit} {kk : Value → K} {u : Operand}
theorem is_tx (h : G dl n σ k (Tx r P ops Q l)) : G dl n σ k (Tx r P ops Q l) := h
theorem is_cx (h : G dl n σ k (Cx r P c Q)) : G dl n σ k (Cx r P c Q) := h
theorem is_ex (h : G dl n σ k (Ex Q e)) : G dl n σ k (Ex Q e) := h
theorem is_rx {rs : List ResultVar} {vs : List Value} (h : G dl n σ k (Rx P kk rs vs)) : G dl n σ k (Rx P kk rs vs) := h
theorem is_fx {q : K} (h : G dl n σ k (Fx q)) : G dl n σ k (Fx q) := h
theorem is_dx (h : G dl n σ k (Dx P ops Q S ds done t)) : G dl n σ k (Dx P ops Q S ds done t) := h
theorem is_ox (h : G dl n σ k (Ox P ops Q S ds done i tag t)) : G dl n σ k (Ox P ops Q S ds done i tag t) := h
theorem is_sx (h : G dl n σ k (Sx P ops Q l)) : G dl n σ k (Sx P ops Q l) := h
theorem is_lx {α : Type} {S : α → List (Nat × Value)} {X : α → K} (h : G dl n σ k (Lx dl n S X)) : G dl n σ k (Lx dl n S X) := h
theorem is_seq (h : G dl n σ k (Cx r P (.seq x y) Q)) : G dl n σ k (Cx r P (.seq x y) Q) := h
theorem is_cond (h : G dl n σ k (Cx r P (.cond u x y) Q)) : G dl n σ k (Cx r P (.cond u x y) Q) := h
theorem is_draw (h : G dl n σ k (Cx r P (.region i ops true) Q)) : G dl n σ k (Cx r P (.region i ops true) Q) := h
theorem is_t (c : Nat) (h : G dl n σ k (Tx r P ops Q (o :: l))) (hc : opc o.op = c) : G dl n σ k (Tx r P ops Q (o :: l)) := h
theorem is_s (c : Nat) (h : G dl n σ k (Sx P ops Q (o :: l))) (hc : opc o.op = c) : G dl n σ k (Sx P ops Q (o :: l)) := h
theorem is_d (c : Nat) (h : G dl n σ k (Dx P ops Q S ds done (.s (i :: is) t))) (hc : opi ops i = c) : G dl n σ k (Dx P ops Q S ds done (.s (i :: is) t)) := h
theorem is_o (c : Nat) (h : G dl n σ k (Ox P ops Q S ds done i tag t)) (hc : opi ops i = c) : G dl n σ k (Ox P ops Q S ds done i tag t) := h
theorem is_gd (h : G dl n σ k (Tx r P ops Q (o :: l))) (hc : o.guard.isSome = true) : G dl n σ k (Tx r P ops Q (o :: l)) := h
theorem is_gs (h : G dl n σ k (Sx P ops Q (o :: l))) (hc : o.guard.isSome = true) : G dl n σ k (Sx P ops Q (o :: l)) := h
theorem is_gdx (h : G dl n σ k (Dx P ops Q S ds done (.s (i :: is) t))) (hc : (ops[i]?).map (fun o => o.guard.isSome) = some true) : G dl n σ k (Dx P ops Q S ds done (.s (i :: is) t)) := h
theorem cx_cond_i {b : Bool} {kx ky : K} (h1 : G dl n σ kx (Cx r P x Q)) (h2 : G dl n σ ky (Cx r P y Q)) (he : ev σ u = some (.bool b)) : G dl n σ (Ite b kx ky) (Cx r P (.cond u x y) Q) := cx_cond h1 h2 he
theorem al_an0 {d : Nat} {u v0 : Value} {X1 : Act → World → Prop} (h : G dl n ((d, v0) :: σ) (Al S k) X1) : G dl n ((d, u) :: σ) (Al S (Ans0 v0 k u)) X1 := fun a w hs ⟨hS, hu, hk⟩ => h a w (hu ▸ hs) ⟨hS, hk⟩
theorem au_p0 {v : Value} (h : Pure P σ o v := by first | exact p_move rfl rfl | exact p_assign rfl rfl) : Pure P σ o v := h
theorem au_p1 {v : Value} (h : Pure P σ o v := by first | exact p_pick_t rfl rfl rfl | exact p_pick_f rfl rfl rfl | exact p_pick_b rfl rfl rfl rfl) : Pure P σ o v := h
theorem au_p2 {v : Value} (h : Pure P σ o v := by first | exact p_nil rfl rfl | exact p_nilf rfl rfl) : Pure P σ o v := h
theorem au_p3 {v : Value} (h : Pure P σ o v := by first | exact q_fieldAddr0 rfl rfl | exact q_fieldAddr rfl rfl) : Pure P σ o v := h
theorem au_p4 {v : Value} (h : Pure P σ o v := by exact q_extract rfl rfl rfl) : Pure P σ o v := h
theorem au_p5 {v : Value} (h : Pure P σ o v := by exact p_makeFunc rfl rfl rfl) : Pure P σ o v := h
theorem au_p6 {v : Value} (h : Pure P σ o v := by exact p_not rfl rfl) : Pure P σ o v := h
theorem au_p10 {v : Value} (h : Pure P σ o v := by first | exact p_eq rfl rfl rfl | exact p_ne rfl rfl rfl | exact p_lt rfl rfl rfl | exact p_le rfl rfl rfl | exact p_gt rfl rfl rfl | exact p_ge rfl rfl rfl | exact p_eqs rfl rfl rfl | exact p_nes rfl rfl rfl | exact p_lts rfl rfl rfl | exact p_gts rfl rfl rfl | exact p_ges rfl rfl rfl | exact p_les rfl rfl rfl | exact q_eq_nil rfl rfl rfl | exact q_ne_nil rfl rfl rfl | exact q_eq_sl rfl rfl rfl | exact q_ne_sl rfl rfl rfl | exact q_eqb rfl rfl rfl | exact q_neb rfl rfl rfl) : Pure P σ o v := h
theorem au_p11 {v : Value} (h : Pure P σ o v := by exact q_conv_str rfl rfl) : Pure P σ o v := h
theorem au_p12 {v : Value} (h : Pure P σ o v := by exact q_build rfl rfl rfl rfl (by kernel_rfl)) : Pure P σ o v := h
theorem au_p20 {v : Value} (h : Pure P σ o v := by first | exact q_len rfl rfl | exact q_lens rfl rfl) : Pure P σ o v := h
theorem au_p26 {v : Value} (h : Pure P σ o v := by exact q_fieldN rfl rfl) : Pure P σ o v := h
theorem au_wp4 {α : Type} {k : K} {vx : α → Value} {k1 : α → K} (h : WP P σ o k vx k1 := by exact wp_ext rfl rfl) : WP P σ o k vx k1 := h
theorem au_wp7 {α : Type} {k : K} {vx : α → Value} {k1 : α → K} (h : WP P σ o k vx k1 := by exact wp_ar (by first | exact p_neg rfl rfl | exact p_com rfl rfl)) : WP P σ o k vx k1 := h
theorem au_wp8 {α : Type} {k : K} {vx : α → Value} {k1 : α → K} (h : WP P σ o k vx k1 := by first | exact wp_ar (by first | exact p_add rfl rfl rfl | exact p_sub rfl rfl rfl | exact p_mul rfl rfl rfl | exact p_and rfl rfl rfl | exact p_or rfl rfl rfl | exact p_xor rfl rfl rfl) | exact wp_cat rfl rfl rfl) : WP P σ o k vx k1 := h
theorem au_wp9 {α : Type} {k : K} {vx : α → Value} {k1 : α → K} (h : WP P σ o k vx k1 := by exact wp_cdar (fun h0 => by first | exact p_shl rfl rfl rfl h0 | exact p_shr rfl rfl rfl h0 | exact p_quo rfl rfl rfl h0 | exact p_rem rfl rfl rfl h0)) : WP P σ o k vx k1 := h
theorem au_wp10 {α : Type} {k : K} {vx : α → Value} {k1 : α → K} (h : WP P σ o k vx k1 := by exact wp_pu (e_binOp' rfl rfl rfl)) : WP P σ o k vx k1 := h
theorem au_wp11 {α : Type} {k : K} {vx : α → Value} {k1 : α → K} (h : WP P σ o k vx k1 := by exact wp_ar (q_conv_int rfl rfl)) : WP P σ o k vx k1 := h
theorem au_wp12 {α : Type} {k : K} {vx : α → Value} {k1 : α → K} (h : WP P σ o k vx k1 := by first | exact wp_bld rfl rfl rfl | exact wp_pu (e_buildg' rfl rfl)) : WP P σ o k vx k1 := h
theorem au_wp21 {α : Type} {k : K} {vx : α → Value} {k1 : α → K} (h : WP P σ o k vx k1 := by exact wp_ar (by first | exact p_max _ rfl rfl rfl | exact p_min _ rfl rfl rfl)) : WP P σ o k vx k1 := h
theorem au_wp26 {α : Type} {k : K} {vx : α → Value} {k1 : α → K} (h : WP P σ o k vx k1 := by exact wp_fld rfl rfl) : WP P σ o k vx k1 := h
theorem au_wp27 {α : Type} {k : K} {vx : α → Value} {k1 : α → K} (h : WP P σ o k vx k1 := by first | exact wp_idx rfl rfl rfl | exact wp_idxS rfl rfl rfl | exact wp_idxA rfl rfl rfl) : WP P σ o k vx k1 := h
theorem au_wp28 {α : Type} {k : K} {vx : α → Value} {k1 : α → K} (h : WP P σ o k vx k1 := by first | exact wp_slc rfl rfl (by first | exact rfl | exact ⟨_, rfl⟩) (by first | exact rfl | exact ⟨_, rfl⟩) (by first | exact rfl | exact ⟨_, rfl⟩) rfl | exact wp_slcS rfl rfl (by first | exact rfl | exact ⟨_, rfl⟩) (by first | exact rfl | exact ⟨_, rfl⟩)) : WP P σ o k vx k1 := h
theorem au_wr11 {α : Type} {k : K} {vx : α → Value} {k1 : α → K} (h : WR P σ o k vx k1 := by exact wr_rd (e_convert' rfl rfl)) : WR P σ o k vx k1 := h
theorem au_wr13 {α : Type} {k : K} {vx : α → Value} {k1 : α → K} (h : WR P σ o k vx k1 := by first | exact wr_ld rfl rfl | exact wr_ldN rfl rfl) : WR P σ o k vx k1 := h
theorem au_wr14 {α : Type} {k : K} {vx : α → Value} {k1 : α → K} (h : WR P σ o k vx k1 := by first | exact wr_rd (e_lookup' rfl rfl rfl) | exact wr_rd2 (e_lookup' rfl rfl rfl)) : WR P σ o k vx k1 := h
theorem au_wr20 {α : Type} {k : K} {vx : α → Value} {k1 : α → K} (h : WR P σ o k vx k1 := by exact wr_rd (e_len' rfl rfl rfl)) : WR P σ o k vx k1 := h
theorem au_wr25 {α : Type} {k : K} {vx : α → Value} {k1 : α → K} (h : WR P σ o k vx k1 := by exact wr_rd (e_mkI' rfl rfl)) : WR P σ o k vx k1 := h
theorem au_we11 {α : Type} {k : K} {vx : α → Value} {k1 : α → K} (h : WE P σ o k vx k1 := by exact we_do (e_convert' rfl rfl)) : WE P σ o k vx k1 := h
theorem au_we15 {α : Type} {k : K} {vx : α → Value} {k1 : α → K} (h : WE P σ o k vx k1 := by first | exact we_box rfl rfl rfl | exact we_alloc rfl rfl) : WE P σ o k vx k1 := h
theorem au_we16 {α : Type} {k : K} {vx : α → Value} {k1 : α → K} (h : WE P σ o k vx k1 := by first | exact we_slice rfl rfl rfl rfl (by kernel_rfl) | exact we_bldslice rfl rfl rfl (by kernel_rfl)) : WE P σ o k vx k1 := h
theorem au_we22 {α : Type} {k : K} {vx : α → Value} {k1 : α → K} (h : WE P σ o k vx k1 := by exact we_do (by first | exact e_append' rfl rfl rfl rfl | exact e_copy' rfl rfl rfl rfl | exact e_delete' rfl rfl rfl rfl | exact e_cap' rfl rfl rfl | exact e_clear' rfl rfl rfl)) : WE P σ o k vx k1 := h
theorem au_we23 {α : Type} {k : K} {vx : α → Value} {k1 : α → K} (h : WE P σ o k vx k1 := by exact we_do (by first | exact e_makeMap' rfl | exact e_makeSlice' rfl rfl rfl)) : WE P σ o k vx k1 := h
theorem au_we24 {α : Type} {k : K} {vx : α → Value} {k1 : α → K} (h : WE P σ o k vx k1 := by exact we_do (by first | exact e_next' rfl rfl rfl | exact e_range' rfl rfl | exact e_entry' rfl rfl)) : WE P σ o k vx k1 := h
theorem au_wk17 {k k1 : K} (h : WK P σ o k k1 := by first | exact wk_st rfl rfl rfl | exact wk_stN rfl rfl rfl) : WK P σ o k k1 := h
theorem au_wk18 {k k1 : K} (h : WK P σ o k k1 := by exact wk_do (e_mapUpdate' rfl rfl rfl rfl)) : WK P σ o k k1 := h
theorem au_wc19 {k : K} {kk : Value → K} (h : WC P σ o k kk := by first | exact wc_call rfl rfl rfl rfl | exact wc_callv rfl rfl rfl rfl | exact wc_fv rfl rfl rfl) : WC P σ o k kk := h
theorem au_ws11 {S : World → Prop} {α : Type} {k : K} {vx : α → Value} {k1 : α → K} (h : WS P S σ o k vx k1 := by exact ws_rd (e_convert' rfl rfl)) : WS P S σ o k vx k1 := h
theorem au_ws13 {S : World → Prop} {α : Type} {k : K} {vx : α → Value} {k1 : α → K} (h : WS P S σ o k vx k1 := by first | exact ws_ld rfl rfl | exact ws_ldN rfl rfl) : WS P S σ o k vx k1 := h
theorem au_ws14 {S : World → Prop} {α : Type} {k : K} {vx : α → Value} {k1 : α → K} (h : WS P S σ o k vx k1 := by first | exact ws_rd (e_lookup' rfl rfl rfl) | exact ws_rd2 (e_lookup' rfl rfl rfl)) : WS P S σ o k vx k1 := h
theorem au_ws20 {S : World → Prop} {α : Type} {k : K} {vx : α → Value} {k1 : α → K} (h : WS P S σ o k vx k1 := by exact ws_rd (e_len' rfl rfl rfl)) : WS P S σ o k vx k1 := h
theorem au_ws25 {S : World → Prop} {α : Type} {k : K} {vx : α → Value} {k1 : α → K} (h : WS P S σ o k vx k1 := by exact ws_rd (e_mkI' rfl rfl)) : WS P S σ o k vx k1 := h
end
set_option maxRecDepth 100000 in
theorem g_walk {P : Program} {f : FuncId} {fn : Func} {c : Code} {args : List Value} {kk : Value → K} {k : K} (n : Nat) {w : World} (hk : k w) (hf : P.funcs[f]? = some fn) (hb : fn.body = some c := by rfl) (hn : fn.ntmps = n := by rfl) (hl : Nat.ble args.length n = true := by rfl)
    (h : G [] n (numb 0 args) k (Cx none P c (bodyPostT P fn (Ret kk))) := by
      repeat' first
      | intro _
      | (refine is_tx ?_; first
          | refine tx_nil ?_
          | (refine is_gd ?_ rfl; first | refine tx_no ?_ | refine tx_no' ?_)
          | (refine is_t 0 ?_ rfl; refine tx_p (hp := by exact au_p0) ?_)
          | (refine is_t 2 ?_ rfl; first | refine tx_p (hp := by exact au_p2) ?_ | (refine gx_nn ?_; intro b hb; subst hb) | (refine gx_fv ?_; intro g fs cs hf cb; subst hf))
          | (refine is_t 3 ?_ rfl; refine tx_p (hp := by exact au_p3) ?_)
          | (refine is_t 13 ?_ rfl; refine tx_wr (hp := by exact au_wr13) ?_)
          | (refine is_t 19 ?_ rfl; first | (refine tx_wc (hp := by exact au_wc19) ?_; intro u; first | refine an_1 ?_ | refine an_0 ?_ | refine an_2 ?_ | refine an_3 ?_ | refine an_4 ?_ | refine an_5 ?_) | refine tx_wr (hp := by exact wr_rd (e_ext' rfl rfl rfl)) ?_ | (refine tx_wcn (hp := by exact au_wc19) ?_; intro u; first | refine am_0 ?_ | refine am_1 ?_ | refine am_2 ?_ | skip) | (refine tx_wy ?_; intro u; first | refine an_1 ?_ | refine an_0 ?_ | refine an_2 ?_ | refine an_3 ?_ | refine an_4 ?_ | refine an_5 ?_))
          | (refine is_t 10 ?_ rfl; first | refine tx_p (hp := by exact au_p10) ?_ | refine tx_wp (hp := by exact au_wp10) ?_)
          | (refine is_t 8 ?_ rfl; refine tx_wp (hp := by exact au_wp8) ?_)
          | (refine is_t 20 ?_ rfl; first | refine tx_p (hp := by exact au_p20) ?_ | refine tx_wr (hp := by exact au_wr20) ?_)
          | (refine is_t 27 ?_ rfl; refine tx_wp (hp := by exact au_wp27) ?_)
          | (refine is_t 4 ?_ rfl; first | refine tx_p (hp := by exact au_p4) ?_ | refine tx_wp (hp := by exact au_wp4) ?_)
          | (refine is_t 17 ?_ rfl; refine tx_wk (hp := by exact au_wk17) ?_)
          | (refine is_t 1 ?_ rfl; refine tx_p (hp := by exact au_p1) ?_)
          | (refine is_t 6 ?_ rfl; refine tx_p (hp := by exact au_p6) ?_)
          | (refine is_t 15 ?_ rfl; refine tx_we (hp := by exact au_we15) ?_)
          | (refine is_t 16 ?_ rfl; refine tx_we (hp := by exact au_we16) ?_)
          | (refine is_t 22 ?_ rfl; first | refine tx_we (hp := by exact au_we22) ?_ | refine tx_wen (hp := by exact au_we22) ?_)
          | (refine is_t 28 ?_ rfl; refine tx_wp (hp := by exact au_wp28) ?_)
          | (refine is_t 11 ?_ rfl; first | refine tx_wp (hp := by exact au_wp11) ?_ | refine tx_p (hp := by exact au_p11) ?_ | refine tx_wr (hp := by exact au_wr11) ?_ | refine tx_we (hp := by exact au_we11) ?_)
          | (refine is_t 26 ?_ rfl; first | refine tx_wp (hp := by exact au_wp26) ?_ | refine tx_p (hp := by exact au_p26) ?_)
          | (refine is_t 12 ?_ rfl; first | refine tx_wp (hp := by exact au_wp12) ?_ | refine tx_p (hp := by exact au_p12) ?_)
          | (refine is_t 5 ?_ rfl; refine tx_p (hp := by exact au_p5) ?_)
          | (refine is_t 7 ?_ rfl; refine tx_wp (hp := by exact au_wp7) ?_)
          | (refine is_t 9 ?_ rfl; refine tx_wp (hp := by exact au_wp9) ?_)
          | (refine is_t 14 ?_ rfl; first | refine tx_wr (hp := by exact wr_rd (e_lookup' rfl rfl rfl)) ?_ | (refine tx_wr (hp := by exact wr_rd2 (e_lookup' rfl rfl rfl)) ?_; intro u; refine an_2 ?_))
          | (refine is_t 18 ?_ rfl; refine tx_wk (hp := by exact au_wk18) ?_)
          | (refine is_t 21 ?_ rfl; refine tx_wp (hp := by exact au_wp21) ?_)
          | (refine is_t 23 ?_ rfl; refine tx_we (hp := by exact au_we23) ?_)
          | (refine is_t 24 ?_ rfl; refine tx_we (hp := by exact au_we24) ?_)
          | (refine is_t 25 ?_ rfl; refine tx_wr (hp := by exact au_wr25) ?_)
          | (refine tx_ite ?_ ?_ <;> (intro hb; refine gx_fold ?_; intro a w hs; try rw [hb] at hs; clear hb; revert hs; revert w; revert a; refine gx_unf ?_)))
      | (refine is_cx ?_; first
          | refine cx_reg ?_
          | (refine is_seq ?_; first | (refine cx_join ?_; (repeat apply ex_i); refine And.intro sub_auto (And.intro ?_ ?_)) | refine cx_seq ?_)
          | refine cx_cond_i ?_ ?_ rfl
          | refine cx_skip ?_
          | refine cx_ret ?_
          | refine cx_block ?_
          | refine cx_exit ?_
          | refine cx_loop ?_
          | (refine is_cond ?_; first | refine cx_cond_t ?_ | refine cx_cond_f ?_)
          | (refine is_draw ?_; first | refine cx_draw1 ?_ | refine cx_draw0 ?_ | refine cx_draw2 ?_ | refine cx_still ?_)
          | refine cx_label ?_
          | refine cx_rangeF ?_ ?_
          | refine cx_rangeJ ?_ ?_ ?_
          | refine al_drop ?_)
      | (refine is_ex ?_; first
          | refine ex_then ?_
          | refine ex_then_r ?_
          | refine ex_then_x ?_
          | refine ex_blk ?_
          | refine ex_blk_r ?_
          | refine ex_blk_x ?_
          | refine ex_blk_y ?_
          | refine ex_retM ?_
          | refine ex_ret ?_
          | refine ex_end ?_
          | exact rq_n
          | exact rq_r
          | exact rq_x
          | refine al_drop ?_)
      | exact gx_dead
      | refine gp_in ?_
      | (refine is_rx ?_; first
          | refine rx_tmp ?_
          | refine rx_nil ?_
          | refine rx_cell ?_
          | refine rx_cellN ?_)
      | (refine is_fx ?_; first
          | exact fx_1
          | exact fx_0
          | exact fx_2
          | exact fx_3
          | exact fx_4
          | exact fx_5)
      | (refine is_dx ?_; first
          | refine dx_end ?_
          | refine dx_nil ?_
          | refine dx_a ?_
          | (refine dx_iteA ?_ ?_ <;> (intro hb; refine gx_fold ?_; intro a w hs; try rw [hb] at hs; clear hb; revert hs; revert w; revert a; refine gx_unf ?_))
          | (refine dx_ite ?_ ?_ <;> (intro hb; refine gx_fold ?_; intro a w hs; try rw [hb] at hs; clear hb; revert hs; revert w; revert a; refine gx_unf ?_))
          | (refine is_gdx ?_ rfl; first | refine dx_no ?_ | refine dx_no' ?_)
          | (refine is_d 0 ?_ rfl; refine dx_p (hp := by exact au_p0) ?_)
          | (refine is_d 2 ?_ rfl; first | refine dx_p (hp := by exact au_p2) ?_ | (refine al_nn ?_; intro b hb; subst hb) | (refine gx_nn ?_; intro b hb; subst hb) | (refine al_fv ?_; intro g fs cs hf cb; subst hf) | (refine gx_fv ?_; intro g fs cs hf cb; subst hf))
          | (refine is_d 3 ?_ rfl; refine dx_p (hp := by exact au_p3) ?_)
          | (refine is_d 13 ?_ rfl; first | refine dx_is (hp := by exact au_wr13) ?_ | refine dx_S (hp := by exact au_ws13) ?_)
          | (refine is_d 10 ?_ rfl; first | refine dx_p (hp := by exact au_p10) ?_ | refine dx_wpA (hp := by exact au_wp10) ?_ | refine dx_wp (hp := by exact au_wp10) ?_)
          | (refine is_d 8 ?_ rfl; first | refine dx_wpA (hp := by exact au_wp8) ?_ | refine dx_wp (hp := by exact au_wp8) ?_)
          | (refine is_d 20 ?_ rfl; first | refine dx_p (hp := by exact au_p20) ?_ | refine dx_is (hp := by exact au_wr20) ?_ | refine dx_S (hp := by exact au_ws20) ?_)
          | (refine is_d 27 ?_ rfl; first | refine dx_wpA (hp := by exact au_wp27) ?_ | refine dx_wp (hp := by exact au_wp27) ?_)
          | (refine is_d 4 ?_ rfl; first | refine dx_p (hp := by exact au_p4) ?_ | refine dx_wpA (hp := by exact au_wp4) ?_ | refine dx_wp (hp := by exact au_wp4) ?_)
          | (refine is_d 1 ?_ rfl; refine dx_p (hp := by exact au_p1) ?_)
          | (refine is_d 6 ?_ rfl; refine dx_p (hp := by exact au_p6) ?_)
          | (refine is_d 28 ?_ rfl; first | refine dx_wpA (hp := by exact au_wp28) ?_ | refine dx_wp (hp := by exact au_wp28) ?_)
          | (refine is_d 11 ?_ rfl; first | refine dx_wpA (hp := by exact au_wp11) ?_ | refine dx_wp (hp := by exact au_wp11) ?_ | refine dx_p (hp := by exact au_p11) ?_ | refine dx_is (hp := by exact au_wr11) ?_ | refine dx_S (hp := by exact au_ws11) ?_)
          | (refine is_d 26 ?_ rfl; first | refine dx_wpA (hp := by exact au_wp26) ?_ | refine dx_wp (hp := by exact au_wp26) ?_ | refine dx_p (hp := by exact au_p26) ?_)
          | (refine is_d 12 ?_ rfl; first | refine dx_wpA (hp := by exact au_wp12) ?_ | refine dx_wp (hp := by exact au_wp12) ?_ | refine dx_p (hp := by exact au_p12) ?_)
          | (refine is_d 5 ?_ rfl; refine dx_p (hp := by exact au_p5) ?_)
          | (refine is_d 7 ?_ rfl; first | refine dx_wpA (hp := by exact au_wp7) ?_ | refine dx_wp (hp := by exact au_wp7) ?_)
          | (refine is_d 9 ?_ rfl; first | refine dx_wpA (hp := by exact au_wp9) ?_ | refine dx_wp (hp := by exact au_wp9) ?_)
          | (refine is_d 14 ?_ rfl; first | refine dx_is (hp := by exact wr_rd (e_lookup' rfl rfl rfl)) ?_ | (refine dx_is (hp := by exact wr_rd2 (e_lookup' rfl rfl rfl)) ?_; intro u; refine al_an2 ?_) | refine dx_S (hp := by exact ws_rd (e_lookup' rfl rfl rfl)) ?_ | (refine dx_S (hp := by exact ws_rd2 (e_lookup' rfl rfl rfl)) ?_; intro u; refine al_an2 ?_))
          | (refine is_d 21 ?_ rfl; first | refine dx_wpA (hp := by exact au_wp21) ?_ | refine dx_wp (hp := by exact au_wp21) ?_)
          | (refine is_d 25 ?_ rfl; first | refine dx_is (hp := by exact au_wr25) ?_ | refine dx_S (hp := by exact au_ws25) ?_)
          | refine al_drop ?_)
      | (refine is_ox ?_; first
          | (refine is_o 13 ?_ rfl; first | refine ox_r2A (hp := by exact au_wr13) ?_ | refine ox_r2 (hp := by exact au_wr13) ?_)
          | (refine is_o 19 ?_ rfl; first | (refine ox_c1 (hp := by exact au_wc19) ?_; intro u; first | refine al_an1 ?_ | refine al_an0 ?_ | refine al_an2 ?_) | (refine ox_c (hp := by exact au_wc19) ?_; intro u; first | refine an_1 ?_ | refine an_0 ?_ | refine an_2 ?_ | refine an_3 ?_ | refine an_4 ?_ | refine an_5 ?_) | (refine ox_cn (hp := by exact au_wc19) ?_; intro u; first | refine am_0 ?_ | refine am_1 ?_ | refine am_2 ?_ | skip) | (refine ox_y ?_; intro u; first | refine an_1 ?_ | refine an_0 ?_ | refine an_2 ?_ | refine an_3 ?_ | refine an_4 ?_ | refine an_5 ?_))
          | (refine is_o 20 ?_ rfl; first | refine ox_r2A (hp := by exact au_wr20) ?_ | refine ox_r2 (hp := by exact au_wr20) ?_)
          | (refine is_o 17 ?_ rfl; first | refine ox_k1 (hp := by exact au_wk17) ?_ | refine ox_k (hp := by exact au_wk17) ?_)
          | (refine is_o 15 ?_ rfl; first | refine ox_e1 (hp := by exact au_we15) ?_ | refine ox_e (hp := by exact au_we15) ?_)
          | (refine is_o 16 ?_ rfl; first | refine ox_e1 (hp := by exact au_we16) ?_ | refine ox_e (hp := by exact au_we16) ?_)
          | (refine is_o 22 ?_ rfl; first | refine ox_e1 (hp := by exact au_we22) ?_ | refine ox_e (hp := by exact au_we22) ?_ | refine ox_en1 (hp := by exact au_we22) ?_ | refine ox_en (hp := by exact au_we22) ?_)
          | (refine is_o 11 ?_ rfl; first | refine ox_e1 (hp := by exact au_we11) ?_ | refine ox_e (hp := by exact au_we11) ?_ | refine ox_r2A (hp := by exact au_wr11) ?_ | refine ox_r2 (hp := by exact au_wr11) ?_)
          | (refine is_o 14 ?_ rfl; first | refine ox_r2A (hp := by exact wr_rd (e_lookup' rfl rfl rfl)) ?_ | (refine ox_r2A (hp := by exact wr_rd2 (e_lookup' rfl rfl rfl)) ?_; intro u; refine al_an2 ?_) | refine ox_r2 (hp := by exact wr_rd (e_lookup' rfl rfl rfl)) ?_ | (refine ox_r2 (hp := by exact wr_rd2 (e_lookup' rfl rfl rfl)) ?_; intro u; refine an_2 ?_))
          | (refine is_o 18 ?_ rfl; first | refine ox_k1 (hp := by exact au_wk18) ?_ | refine ox_k (hp := by exact au_wk18) ?_)
          | (refine is_o 23 ?_ rfl; first | refine ox_e1 (hp := by exact au_we23) ?_ | refine ox_e (hp := by exact au_we23) ?_)
          | (refine is_o 24 ?_ rfl; first | refine ox_e1 (hp := by exact au_we24) ?_ | refine ox_e (hp := by exact au_we24) ?_)
          | (refine is_o 25 ?_ rfl; first | refine ox_r2A (hp := by exact au_wr25) ?_ | refine ox_r2 (hp := by exact au_wr25) ?_)
          | refine al_drop ?_)
      | refine ax_allA ?_ ?_
      | refine ax_all ?_ ?_
      | exact ax_nil
      | refine ax_one ?_
      | (refine is_lx ?_; exact lx_end)
      | (refine is_sx ?_; first
          | refine sx_nil ?_
          | (refine is_gs ?_ rfl; refine sx_no ?_)
          | (refine is_s 0 ?_ rfl; refine sx_p (hp := by exact au_p0) ?_)
          | (refine is_s 2 ?_ rfl; first | refine sx_p (hp := by exact au_p2) ?_ | (refine gx_nn ?_; intro b hb; subst hb) | (refine gx_fv ?_; intro g fs cs hf cb; subst hf))
          | (refine is_s 3 ?_ rfl; refine sx_p (hp := by exact au_p3) ?_)
          | (refine is_s 13 ?_ rfl; refine sx_wr (hp := by exact au_wr13) ?_)
          | (refine is_s 10 ?_ rfl; first | refine sx_p (hp := by exact au_p10) ?_ | refine sx_wp (hp := by exact au_wp10) ?_)
          | (refine is_s 8 ?_ rfl; refine sx_wp (hp := by exact au_wp8) ?_)
          | (refine is_s 20 ?_ rfl; first | refine sx_p (hp := by exact au_p20) ?_ | refine sx_wr (hp := by exact au_wr20) ?_)
          | (refine is_s 27 ?_ rfl; refine sx_wp (hp := by exact au_wp27) ?_)
          | (refine is_s 4 ?_ rfl; first | refine sx_p (hp := by exact au_p4) ?_ | refine sx_wp (hp := by exact au_wp4) ?_)
          | (refine is_s 1 ?_ rfl; refine sx_p (hp := by exact au_p1) ?_)
          | (refine is_s 6 ?_ rfl; refine sx_p (hp := by exact au_p6) ?_)
          | (refine is_s 28 ?_ rfl; refine sx_wp (hp := by exact au_wp28) ?_)
          | (refine is_s 11 ?_ rfl; first | refine sx_wp (hp := by exact au_wp11) ?_ | refine sx_p (hp := by exact au_p11) ?_ | refine sx_wr (hp := by exact au_wr11) ?_)
          | (refine is_s 26 ?_ rfl; first | refine sx_wp (hp := by exact au_wp26) ?_ | refine sx_p (hp := by exact au_p26) ?_)
          | (refine is_s 12 ?_ rfl; first | refine sx_wp (hp := by exact au_wp12) ?_ | refine sx_p (hp := by exact au_p12) ?_)
          | (refine is_s 5 ?_ rfl; refine sx_p (hp := by exact au_p5) ?_)
          | (refine is_s 7 ?_ rfl; refine sx_wp (hp := by exact au_wp7) ?_)
          | (refine is_s 9 ?_ rfl; refine sx_wp (hp := by exact au_wp9) ?_)
          | (refine is_s 14 ?_ rfl; first | refine sx_wr (hp := by exact wr_rd (e_lookup' rfl rfl rfl)) ?_ | (refine sx_wr (hp := by exact wr_rd2 (e_lookup' rfl rfl rfl)) ?_; intro u; refine an_2 ?_))
          | (refine is_s 21 ?_ rfl; refine sx_wp (hp := by exact au_wp21) ?_)
          | (refine is_s 25 ?_ rfl; refine sx_wr (hp := by exact au_wr25) ?_)
          | (refine sx_ite ?_ ?_ <;> (intro hb; refine gx_fold ?_; intro a w hs; try rw [hb] at hs; clear hb; revert hs; revert w; revert a; refine gx_unf ?_)))
      | refine bx_b ?_
      | refine bj_b ?_
      | exact gx_jump
      | refine al_drop ?_) :
    CallF P f args.toArray kk w := g_start n hk hf h hb hn hl
end Go.Sep
/- Facts of the program's own tables. -/
namespace Go.Proofs.YtinpgiafjjibnaaGreat
open Go Go.Sep
set_option linter.unusedVariables false
set_option linter.unusedSimpArgs false
abbrev ty_int64 : Nat := 2
abbrev ty_int : Nat := 3
abbrev ty_bool : Nat := 4
abbrev ty_uint8 : Nat := 5
abbrev ty_abi_BoundsErrorCode : Nat := 6
abbrev ty_runtime_boundsError : Nat := 8
abbrev ty_string : Nat := 9
abbrev ty_runtime_errorString : Nat := 10
abbrev ty_runtime_plainError : Nat := 11
abbrev ty_uintptr : Nat := 12
abbrev ty_struct_msg_string_addr_uintptr : Nat := 13
abbrev ty_runtime_errorAddressString : Nat := 14
abbrev ty_p_runtime_TypeAssertionError : Nat := 15
abbrev ty_p_runtime_PanicNilError : Nat := 16
abbrev ty_p_abi_Type : Nat := 17
abbrev ty_struct_typ_p_abi_Type : Nat := 18
abbrev ty_maps_unhashableTypeError : Nat := 19
abbrev ty_interface : Nat := 20
abbrev ty_int32 : Nat := 21
abbrev ty_s_argosylaw07_Cell : Nat := 22
abbrev ty_s_string : Nat := 23
abbrev ty_s_api_Op : Nat := 24
abbrev ty_api_Txn : Nat := 26
abbrev ty_p_store_Store : Nat := 30
abbrev ty_p_argosyref06_Store : Nat := 31
abbrev ty_api_Errno : Nat := 35
abbrev ty_s_api_Out : Nat := 36
abbrev ty_struct_Code_api_Errno_Outs_s_api_Out : Nat := 37
abbrev ty_api_Result : Nat := 38
abbrev ty_s_api_Row : Nat := 39
abbrev ty_struct_Regions_int_Rows_s_api_Row : Nat := 44
abbrev ty_argosyref06_Store : Nat := 45
abbrev ty_s_uint8 : Nat := 52
abbrev ty_struct_Has_bool_Value_s_uint8 : Nat := 53
abbrev ty_api_Out : Nat := 54
abbrev ty_uint64 : Nat := 55
abbrev ty_api_Record : Nat := 57
abbrev ty_struct_Key_string_Record_api_Record : Nat := 58
abbrev ty_api_Row : Nat := 59
abbrev ty_s_api_Txn : Nat := 61
abbrev ty_api_Op : Nat := 66
abbrev ty_argosylaw07_Cell : Nat := 68
abbrev ty_p_eval_run : Nat := 73
abbrev ty_map_string_api_Record : Nat := 74
abbrev ty_eval_run : Nat := 76
abbrev ty_p_btree_Tree_string_api_Record : Nat := 86
abbrev ty_store_Store : Nat := 88
abbrev ty_p_btree_node_string_api_Record : Nat := 108
abbrev ty_btree_Tree_string_api_Record : Nat := 110
abbrev ty_s_btree_item_string_api_Record : Nat := 118
abbrev ty_s_p_btree_node_string_api_Record : Nat := 119
abbrev ty_btree_node_string_api_Record : Nat := 121
abbrev ty_uint : Nat := 126
abbrev ty_p_string : Nat := 127
abbrev ty_struct_key_string_value_api_Record : Nat := 130
abbrev ty_btree_item_string_api_Record : Nat := 131
abbrev ty_p_btree_item_string_api_Record : Nat := 132
abbrev ty_slices_sortedHint : Nat := 136
abbrev ty_uint32 : Nat := 144
abbrev ty_slices_xorshift : Nat := 156
abbrev ty_p_int : Nat := 160
abbrev ty_p_slices_xorshift : Nat := 167
abbrev ty_runtime_TypeAssertionError : Nat := 174
abbrev ty_0_p_runtime_PanicNilError : Nat := 175
abbrev ty_struct_0_p_runtime_PanicNilError : Nat := 176
abbrev ty_runtime_PanicNilError : Nat := 177
abbrev ty_abi_TFlag : Nat := 179
abbrev ty_abi_Kind : Nat := 180
abbrev ty_p_uint8 : Nat := 182
abbrev ty_abi_NameOff : Nat := 183
abbrev ty_abi_TypeOff : Nat := 184
abbrev ty_abi_Type : Nat := 186
abbrev ty_unsafe_Pointer : Nat := 187
theorem zero_ty_int64 : zeroT Tryz.prog ty_int64 (.int .i64 0) := ⟨Tryz.t2, by kernel_rfl, by kernel_rfl⟩
theorem zero_ty_int : zeroT Tryz.prog ty_int (.int .i64 0) := ⟨Tryz.t3, by kernel_rfl, by kernel_rfl⟩
theorem zero_ty_bool : zeroT Tryz.prog ty_bool (.bool false) := ⟨Tryz.t4, by kernel_rfl, by kernel_rfl⟩
theorem zero_ty_uint8 : zeroT Tryz.prog ty_uint8 (.int .u8 0) := ⟨Tryz.t5, by kernel_rfl, by kernel_rfl⟩
theorem zero_ty_abi_BoundsErrorCode : zeroT Tryz.prog ty_abi_BoundsErrorCode (.int .u8 0) := ⟨Tryz.t6, by kernel_rfl, by kernel_rfl⟩
theorem zero_ty_runtime_boundsError : zeroT Tryz.prog ty_runtime_boundsError (.agg #[(.int .i64 0), (.int .i64 0), (.bool false), (.int .u8 0)]) := ⟨Tryz.t8, by kernel_rfl, by kernel_rfl⟩
theorem zero_ty_string : zeroT Tryz.prog ty_string (.string ⟨#[]⟩) := ⟨Tryz.t9, by kernel_rfl, by kernel_rfl⟩
theorem zero_ty_runtime_errorString : zeroT Tryz.prog ty_runtime_errorString (.string ⟨#[]⟩) := ⟨Tryz.t10, by kernel_rfl, by kernel_rfl⟩
theorem zero_ty_runtime_plainError : zeroT Tryz.prog ty_runtime_plainError (.string ⟨#[]⟩) := ⟨Tryz.t11, by kernel_rfl, by kernel_rfl⟩
theorem zero_ty_uintptr : zeroT Tryz.prog ty_uintptr (.int .u64 0) := ⟨Tryz.t12, by kernel_rfl, by kernel_rfl⟩
theorem zero_ty_struct_msg_string_addr_uintptr : zeroT Tryz.prog ty_struct_msg_string_addr_uintptr (.agg #[(.string ⟨#[]⟩), (.int .u64 0)]) := ⟨Tryz.t13, by kernel_rfl, by kernel_rfl⟩
theorem zero_ty_runtime_errorAddressString : zeroT Tryz.prog ty_runtime_errorAddressString (.agg #[(.string ⟨#[]⟩), (.int .u64 0)]) := ⟨Tryz.t14, by kernel_rfl, by kernel_rfl⟩
theorem zero_ty_p_runtime_TypeAssertionError : zeroT Tryz.prog ty_p_runtime_TypeAssertionError (.pointer none) := ⟨Tryz.t15, by kernel_rfl, by kernel_rfl⟩
theorem zero_ty_p_runtime_PanicNilError : zeroT Tryz.prog ty_p_runtime_PanicNilError (.pointer none) := ⟨Tryz.t16, by kernel_rfl, by kernel_rfl⟩
theorem zero_ty_p_abi_Type : zeroT Tryz.prog ty_p_abi_Type (.pointer none) := ⟨Tryz.t17, by kernel_rfl, by kernel_rfl⟩
theorem zero_ty_struct_typ_p_abi_Type : zeroT Tryz.prog ty_struct_typ_p_abi_Type (.agg #[(.pointer none)]) := ⟨Tryz.t18, by kernel_rfl, by kernel_rfl⟩
theorem zero_ty_maps_unhashableTypeError : zeroT Tryz.prog ty_maps_unhashableTypeError (.agg #[(.pointer none)]) := ⟨Tryz.t19, by kernel_rfl, by kernel_rfl⟩
theorem zero_ty_interface : zeroT Tryz.prog ty_interface .nilIface := ⟨Tryz.t20, by kernel_rfl, by kernel_rfl⟩
theorem zero_ty_int32 : zeroT Tryz.prog ty_int32 (.int .i32 0) := ⟨Tryz.t21, by kernel_rfl, by kernel_rfl⟩
theorem zero_ty_s_argosylaw07_Cell : zeroT Tryz.prog ty_s_argosylaw07_Cell (Sl.val ⟨none, 0, 0⟩) := ⟨Tryz.t22, by kernel_rfl, by kernel_rfl⟩
theorem zero_ty_s_string : zeroT Tryz.prog ty_s_string (Sl.val ⟨none, 0, 0⟩) := ⟨Tryz.t23, by kernel_rfl, by kernel_rfl⟩
theorem zero_ty_s_api_Op : zeroT Tryz.prog ty_s_api_Op (Sl.val ⟨none, 0, 0⟩) := ⟨Tryz.t24, by kernel_rfl, by kernel_rfl⟩
theorem zero_ty_api_Txn : zeroT Tryz.prog ty_api_Txn (.agg #[(.int .i64 0), (Sl.val ⟨none, 0, 0⟩), (Sl.val ⟨none, 0, 0⟩), (Sl.val ⟨none, 0, 0⟩), (.int .i64 0)]) := ⟨Tryz.t26, by kernel_rfl, by kernel_rfl⟩
theorem zero_ty_p_store_Store : zeroT Tryz.prog ty_p_store_Store (.pointer none) := ⟨Tryz.t30, by kernel_rfl, by kernel_rfl⟩
theorem zero_ty_p_argosyref06_Store : zeroT Tryz.prog ty_p_argosyref06_Store (.pointer none) := ⟨Tryz.t31, by kernel_rfl, by kernel_rfl⟩
theorem zero_ty_api_Errno : zeroT Tryz.prog ty_api_Errno (.int .i64 0) := ⟨Tryz.t35, by kernel_rfl, by kernel_rfl⟩
theorem zero_ty_s_api_Out : zeroT Tryz.prog ty_s_api_Out (Sl.val ⟨none, 0, 0⟩) := ⟨Tryz.t36, by kernel_rfl, by kernel_rfl⟩
theorem zero_ty_struct_Code_api_Errno_Outs_s_api_Out : zeroT Tryz.prog ty_struct_Code_api_Errno_Outs_s_api_Out (.agg #[(.int .i64 0), (Sl.val ⟨none, 0, 0⟩)]) := ⟨Tryz.t37, by kernel_rfl, by kernel_rfl⟩
theorem zero_ty_api_Result : zeroT Tryz.prog ty_api_Result (.agg #[(.int .i64 0), (Sl.val ⟨none, 0, 0⟩)]) := ⟨Tryz.t38, by kernel_rfl, by kernel_rfl⟩
theorem zero_ty_s_api_Row : zeroT Tryz.prog ty_s_api_Row (Sl.val ⟨none, 0, 0⟩) := ⟨Tryz.t39, by kernel_rfl, by kernel_rfl⟩
theorem zero_ty_struct_Regions_int_Rows_s_api_Row : zeroT Tryz.prog ty_struct_Regions_int_Rows_s_api_Row (.agg #[(.int .i64 0), (Sl.val ⟨none, 0, 0⟩)]) := ⟨Tryz.t44, by kernel_rfl, by kernel_rfl⟩
theorem zero_ty_argosyref06_Store : zeroT Tryz.prog ty_argosyref06_Store (.agg #[(.int .i64 0), (Sl.val ⟨none, 0, 0⟩)]) := ⟨Tryz.t45, by kernel_rfl, by kernel_rfl⟩
theorem zero_ty_s_uint8 : zeroT Tryz.prog ty_s_uint8 (Sl.val ⟨none, 0, 0⟩) := ⟨Tryz.t52, by kernel_rfl, by kernel_rfl⟩
theorem zero_ty_struct_Has_bool_Value_s_uint8 : zeroT Tryz.prog ty_struct_Has_bool_Value_s_uint8 (.agg #[(.bool false), (Sl.val ⟨none, 0, 0⟩)]) := ⟨Tryz.t53, by kernel_rfl, by kernel_rfl⟩
theorem zero_ty_api_Out : zeroT Tryz.prog ty_api_Out (.agg #[(.bool false), (Sl.val ⟨none, 0, 0⟩)]) := ⟨Tryz.t54, by kernel_rfl, by kernel_rfl⟩
theorem zero_ty_uint64 : zeroT Tryz.prog ty_uint64 (.int .u64 0) := ⟨Tryz.t55, by kernel_rfl, by kernel_rfl⟩
theorem zero_ty_api_Record : zeroT Tryz.prog ty_api_Record (.agg #[(.bool false), (Sl.val ⟨none, 0, 0⟩), (.int .i64 0), (.int .u64 0)]) := ⟨Tryz.t57, by kernel_rfl, by kernel_rfl⟩
theorem zero_ty_struct_Key_string_Record_api_Record : zeroT Tryz.prog ty_struct_Key_string_Record_api_Record (.agg #[(.string ⟨#[]⟩), (.bool false), (Sl.val ⟨none, 0, 0⟩), (.int .i64 0), (.int .u64 0)]) := ⟨Tryz.t58, by kernel_rfl, by kernel_rfl⟩
theorem zero_ty_api_Row : zeroT Tryz.prog ty_api_Row (.agg #[(.string ⟨#[]⟩), (.bool false), (Sl.val ⟨none, 0, 0⟩), (.int .i64 0), (.int .u64 0)]) := ⟨Tryz.t59, by kernel_rfl, by kernel_rfl⟩
theorem zero_ty_s_api_Txn : zeroT Tryz.prog ty_s_api_Txn (Sl.val ⟨none, 0, 0⟩) := ⟨Tryz.t61, by kernel_rfl, by kernel_rfl⟩
theorem zero_ty_api_Op : zeroT Tryz.prog ty_api_Op (.agg #[(.int .i64 0), (.string ⟨#[]⟩), (Sl.val ⟨none, 0, 0⟩), (.int .i64 0)]) := ⟨Tryz.t66, by kernel_rfl, by kernel_rfl⟩
theorem zero_ty_argosylaw07_Cell : zeroT Tryz.prog ty_argosylaw07_Cell (.agg #[(.string ⟨#[]⟩), (Sl.val ⟨none, 0, 0⟩), (.bool false), (.int .i64 0)]) := ⟨Tryz.t68, by kernel_rfl, by kernel_rfl⟩
theorem zero_ty_p_eval_run : zeroT Tryz.prog ty_p_eval_run (.pointer none) := ⟨Tryz.t73, by kernel_rfl, by kernel_rfl⟩
theorem zero_ty_map_string_api_Record : zeroT Tryz.prog ty_map_string_api_Record (.map none) := ⟨Tryz.t74, by kernel_rfl, by kernel_rfl⟩
theorem zero_ty_eval_run : zeroT Tryz.prog ty_eval_run (.agg #[(.pointer none), (.map none), (Sl.val ⟨none, 0, 0⟩)]) := ⟨Tryz.t76, by kernel_rfl, by kernel_rfl⟩
theorem zero_ty_p_btree_Tree_string_api_Record : zeroT Tryz.prog ty_p_btree_Tree_string_api_Record (.pointer none) := ⟨Tryz.t86, by kernel_rfl, by kernel_rfl⟩
theorem zero_ty_store_Store : zeroT Tryz.prog ty_store_Store (.agg #[(.int .i64 0), (.pointer none)]) := ⟨Tryz.t88, by kernel_rfl, by kernel_rfl⟩
theorem zero_ty_p_btree_node_string_api_Record : zeroT Tryz.prog ty_p_btree_node_string_api_Record (.pointer none) := ⟨Tryz.t108, by kernel_rfl, by kernel_rfl⟩
theorem zero_ty_btree_Tree_string_api_Record : zeroT Tryz.prog ty_btree_Tree_string_api_Record (.agg #[(.pointer none), (.int .i64 0)]) := ⟨Tryz.t110, by kernel_rfl, by kernel_rfl⟩
theorem zero_ty_s_btree_item_string_api_Record : zeroT Tryz.prog ty_s_btree_item_string_api_Record (Sl.val ⟨none, 0, 0⟩) := ⟨Tryz.t118, by kernel_rfl, by kernel_rfl⟩
theorem zero_ty_s_p_btree_node_string_api_Record : zeroT Tryz.prog ty_s_p_btree_node_string_api_Record (Sl.val ⟨none, 0, 0⟩) := ⟨Tryz.t119, by kernel_rfl, by kernel_rfl⟩
theorem zero_ty_btree_node_string_api_Record : zeroT Tryz.prog ty_btree_node_string_api_Record (.agg #[(Sl.val ⟨none, 0, 0⟩), (Sl.val ⟨none, 0, 0⟩)]) := ⟨Tryz.t121, by kernel_rfl, by kernel_rfl⟩
theorem zero_ty_uint : zeroT Tryz.prog ty_uint (.int .u64 0) := ⟨Tryz.t126, by kernel_rfl, by kernel_rfl⟩
theorem zero_ty_p_string : zeroT Tryz.prog ty_p_string (.pointer none) := ⟨Tryz.t127, by kernel_rfl, by kernel_rfl⟩
theorem zero_ty_struct_key_string_value_api_Record : zeroT Tryz.prog ty_struct_key_string_value_api_Record (.agg #[(.string ⟨#[]⟩), (.bool false), (Sl.val ⟨none, 0, 0⟩), (.int .i64 0), (.int .u64 0)]) := ⟨Tryz.t130, by kernel_rfl, by kernel_rfl⟩
theorem zero_ty_btree_item_string_api_Record : zeroT Tryz.prog ty_btree_item_string_api_Record (.agg #[(.string ⟨#[]⟩), (.bool false), (Sl.val ⟨none, 0, 0⟩), (.int .i64 0), (.int .u64 0)]) := ⟨Tryz.t131, by kernel_rfl, by kernel_rfl⟩
theorem zero_ty_p_btree_item_string_api_Record : zeroT Tryz.prog ty_p_btree_item_string_api_Record (.pointer none) := ⟨Tryz.t132, by kernel_rfl, by kernel_rfl⟩
theorem zero_ty_slices_sortedHint : zeroT Tryz.prog ty_slices_sortedHint (.int .i64 0) := ⟨Tryz.t136, by kernel_rfl, by kernel_rfl⟩
theorem zero_ty_uint32 : zeroT Tryz.prog ty_uint32 (.int .u32 0) := ⟨Tryz.t144, by kernel_rfl, by kernel_rfl⟩
theorem zero_ty_slices_xorshift : zeroT Tryz.prog ty_slices_xorshift (.int .u64 0) := ⟨Tryz.t156, by kernel_rfl, by kernel_rfl⟩
theorem zero_ty_p_int : zeroT Tryz.prog ty_p_int (.pointer none) := ⟨Tryz.t160, by kernel_rfl, by kernel_rfl⟩
theorem zero_ty_p_slices_xorshift : zeroT Tryz.prog ty_p_slices_xorshift (.pointer none) := ⟨Tryz.t167, by kernel_rfl, by kernel_rfl⟩
theorem zero_ty_runtime_TypeAssertionError : zeroT Tryz.prog ty_runtime_TypeAssertionError (.agg #[(.pointer none), (.pointer none), (.pointer none), (.string ⟨#[]⟩)]) := ⟨Tryz.t174, by kernel_rfl, by kernel_rfl⟩
theorem zero_ty_0_p_runtime_PanicNilError : zeroT Tryz.prog ty_0_p_runtime_PanicNilError (.agg #[]) := ⟨Tryz.t175, by kernel_rfl, by kernel_rfl⟩
theorem zero_ty_struct_0_p_runtime_PanicNilError : zeroT Tryz.prog ty_struct_0_p_runtime_PanicNilError (.agg #[]) := ⟨Tryz.t176, by kernel_rfl, by kernel_rfl⟩
theorem zero_ty_runtime_PanicNilError : zeroT Tryz.prog ty_runtime_PanicNilError (.agg #[]) := ⟨Tryz.t177, by kernel_rfl, by kernel_rfl⟩
theorem zero_ty_abi_TFlag : zeroT Tryz.prog ty_abi_TFlag (.int .u8 0) := ⟨Tryz.t179, by kernel_rfl, by kernel_rfl⟩
theorem zero_ty_abi_Kind : zeroT Tryz.prog ty_abi_Kind (.int .u8 0) := ⟨Tryz.t180, by kernel_rfl, by kernel_rfl⟩
theorem zero_ty_p_uint8 : zeroT Tryz.prog ty_p_uint8 (.pointer none) := ⟨Tryz.t182, by kernel_rfl, by kernel_rfl⟩
theorem zero_ty_abi_NameOff : zeroT Tryz.prog ty_abi_NameOff (.int .i32 0) := ⟨Tryz.t183, by kernel_rfl, by kernel_rfl⟩
theorem zero_ty_abi_TypeOff : zeroT Tryz.prog ty_abi_TypeOff (.int .i32 0) := ⟨Tryz.t184, by kernel_rfl, by kernel_rfl⟩
theorem zero_ty_unsafe_Pointer : zeroT Tryz.prog ty_unsafe_Pointer (.pointer none) := ⟨Tryz.t187, by kernel_rfl, by kernel_rfl⟩
theorem mixed : Tryz.prog.follows .mixedOrders = true := by kernel_rfl
end Go.Proofs.YtinpgiafjjibnaaGreat
/- The calls of the program's functions, by name. -/
namespace Go.Proofs.YtinpgiafjjibnaaGreat
open Go Go.Sep
set_option linter.unusedVariables false
set_option linter.unusedSimpArgs false
def law07_EvalRuns.call (cells0 : Sl) (t1 : (Array Value)) (k : Bool → K) : K := CallF Tryz.prog 3 [(Sl.val cells0), (.agg t1)].toArray (Ans1 Value.bool k)
def law07_EvalPlays.call (list0 : Sl) (k : Bool → K) : K := CallF Tryz.prog 4 [(Sl.val list0)].toArray (Ans1 Value.bool k)
def law07_speaks.call  (k : Bool → K) : K := CallF Tryz.prog 5 [].toArray (Ans1 Value.bool k)
def law07_great.call (cells0 : Sl) (k : Bool → K) : K := CallF Tryz.prog 6 [(Sl.val cells0)].toArray (Ans1 Value.bool k)
def ref05_Great.call (t0 : (Array Value)) (k : Bool → K) : K := CallF Tryz.prog 7 [(.agg t0)].toArray (Ans1 Value.bool k)
def law07_filled.call (cells0 : Sl) (k : (Option Addr) → (Option Addr) → K) : K := CallF Tryz.prog 8 [(Sl.val cells0)].toArray (Ans2 (fun r0 r1 => .tuple #[Value.pointer r0, Value.pointer r1]) k)
def ref05_Copy.call (t0 : (Array Value)) (k : (Array Value) → K) : K := CallF Tryz.prog 9 [(.agg t0)].toArray (Ans1 Value.agg k)
def eval_Run.call (s0 : (Option Addr)) (t1 : (Array Value)) (k : (Array Value) → Sl → K) : K := CallF Tryz.prog 10 [(.pointer s0), (.agg t1)].toArray (Ans2 (fun r0 r1 => .tuple #[Value.agg r0, Sl.val r1]) k)
def ref06_Same.call (a0 : Sl) (b1 : Sl) (k : Bool → K) : K := CallF Tryz.prog 11 [(Sl.val a0), (Sl.val b1)].toArray (Ans1 Value.bool k)
def store_Store_Rows.call (s0 : (Option Addr)) (k : Sl → K) : K := CallF Tryz.prog 12 [(.pointer s0)].toArray (Ans1 Sl.val k)
def ref05_Same.call (a0 : (Array Value)) (b1 : (Array Value)) (k : Bool → K) : K := CallF Tryz.prog 13 [(.agg a0), (.agg b1)].toArray (Ans1 Value.bool k)
def ref05_Right.call (t0 : (Array Value)) (regions1 : Int) (k : Bool → K) : K := CallF Tryz.prog 14 [(.agg t0), (.int .i64 regions1)].toArray (Ans1 Value.bool k)
def ref07_Run.call (s0 : (Option Addr)) (t1 : (Array Value)) (k : (Array Value) → Sl → K) : K := CallF Tryz.prog 15 [(.pointer s0), (.agg t1)].toArray (Ans2 (fun r0 r1 => .tuple #[Value.agg r0, Sl.val r1]) k)
def ref07_Same.call (a0 : (Array Value)) (b1 : (Array Value)) (k : Bool → K) : K := CallF Tryz.prog 16 [(.agg a0), (.agg b1)].toArray (Ans1 Value.bool k)
def eval_Apply.call (s0 : (Option Addr)) (writes1 : Sl) (k : K) : K := CallF Tryz.prog 17 [(.pointer s0), (Sl.val writes1)].toArray (Ans0 (.tuple #[]) k)
def ref07_Apply.call (s0 : (Option Addr)) (rows1 : Sl) (k : K) : K := CallF Tryz.prog 18 [(.pointer s0), (Sl.val rows1)].toArray (Ans0 (.tuple #[]) k)
def store_New.call (regions0 : Int) (k : (Option Addr) → Int → K) : K := CallF Tryz.prog 19 [(.int .i64 regions0)].toArray (Ans2 (fun r0 r1 => .tuple #[Value.pointer r0, (Value.int .i64) r1]) k)
def ref06_New.call (regions0 : Int) (k : (Option Addr) → K) : K := CallF Tryz.prog 20 [(.int .i64 regions0)].toArray (Ans1 Value.pointer k)
def store_Store_Put.call (s0 : (Option Addr)) (key1 : ByteArray) (value2 : Sl) (k : K) : K := CallF Tryz.prog 21 [(.pointer s0), (.string key1), (Sl.val value2)].toArray (Ans0 (.tuple #[]) k)
def ref06_Store_Put.call (s0 : (Option Addr)) (key1 : ByteArray) (value2 : Sl) (k : K) : K := CallF Tryz.prog 22 [(.pointer s0), (.string key1), (Sl.val value2)].toArray (Ans0 (.tuple #[]) k)
def store_Store_Move.call (s0 : (Option Addr)) (key1 : ByteArray) (home2 : Int) (k : Int → K) : K := CallF Tryz.prog 23 [(.pointer s0), (.string key1), (.int .i64 home2)].toArray (Ans1 (Value.int .i64) k)
def ref06_Store_Move.call (s0 : (Option Addr)) (key1 : ByteArray) (home2 : Int) (k : Int → K) : K := CallF Tryz.prog 24 [(.pointer s0), (.string key1), (.int .i64 home2)].toArray (Ans1 (Value.int .i64) k)
def eval_run_move.call (r0 : (Option Addr)) (t1 : (Array Value)) (k : Int → K) : K := CallF Tryz.prog 25 [(.pointer r0), (.agg t1)].toArray (Ans1 (Value.int .i64) k)
def eval_run_step.call (r0 : (Option Addr)) (o1 : (Array Value)) (k : Int → K) : K := CallF Tryz.prog 26 [(.pointer r0), (.agg o1)].toArray (Ans1 (Value.int .i64) k)
def slices_Sorted_string.call (seq0 : Value) (k : Sl → K) : K := CallF Tryz.prog 27 [seq0].toArray (Ans1 Sl.val k)
def maps_Keys_map_string_api_Record_string_api_Record.call (m0 : (Option Nat)) (k : Value → K) : K := CallF Tryz.prog 28 [(.map m0)].toArray (Ans1 id k)
def ref06_SameRecord.call (a0 : (Array Value)) (b1 : (Array Value)) (k : Bool → K) : K := CallF Tryz.prog 29 [(.agg a0), (.agg b1)].toArray (Ans1 Value.bool k)
def btree_Tree_string_api_Record_All.call (t0 : (Option Addr)) (k : Value → K) : K := CallF Tryz.prog 30 [(.pointer t0)].toArray (Ans1 id k)
def bytes_Clone.call (b0 : Sl) (k : Sl → K) : K := CallF Tryz.prog 31 [(Sl.val b0)].toArray (Ans1 Sl.val k)
def ref05_SameTexts.call (a0 : Sl) (b1 : Sl) (k : Bool → K) : K := CallF Tryz.prog 32 [(Sl.val a0), (Sl.val b1)].toArray (Ans1 Value.bool k)
def ref05_Rising.call (list0 : Sl) (k : Bool → K) : K := CallF Tryz.prog 33 [(Sl.val list0)].toArray (Ans1 Value.bool k)
def ref05_In.call (list0 : Sl) (key1 : ByteArray) (k : Bool → K) : K := CallF Tryz.prog 34 [(Sl.val list0), (.string key1)].toArray (Ans1 Value.bool k)
def ref05_op.call (t0 : (Array Value)) (o1 : (Array Value)) (k : Bool → K) : K := CallF Tryz.prog 35 [(.agg t0), (.agg o1)].toArray (Ans1 Value.bool k)
def ref06_Store_Copy.call (s0 : (Option Addr)) (k : (Option Addr) → K) : K := CallF Tryz.prog 36 [(.pointer s0)].toArray (Ans1 Value.pointer k)
def ref06_Store_Get.call (s0 : (Option Addr)) (key1 : ByteArray) (k : (Array Value) → K) : K := CallF Tryz.prog 37 [(.pointer s0), (.string key1)].toArray (Ans1 Value.agg k)
def ref07_step.call (s0 : (Option Addr)) (o1 : (Array Value)) (k : Sl → Int → K) : K := CallF Tryz.prog 38 [(.pointer s0), (.agg o1)].toArray (Ans2 (fun r0 r1 => .tuple #[Sl.val r0, (Value.int .i64) r1]) k)
def ref05_Keys.call (t0 : (Array Value)) (k : Sl → K) : K := CallF Tryz.prog 39 [(.agg t0)].toArray (Ans1 Sl.val k)
def store_Store_Get.call (s0 : (Option Addr)) (key1 : ByteArray) (k : (Array Value) → K) : K := CallF Tryz.prog 40 [(.pointer s0), (.string key1)].toArray (Ans1 Value.agg k)
def store_Store_Delete.call (s0 : (Option Addr)) (key1 : ByteArray) (k : K) : K := CallF Tryz.prog 41 [(.pointer s0), (.string key1)].toArray (Ans0 (.tuple #[]) k)
def ref06_Store_Set.call (s0 : (Option Addr)) (key1 : ByteArray) (r2 : (Array Value)) (k : K) : K := CallF Tryz.prog 42 [(.pointer s0), (.string key1), (.agg r2)].toArray (Ans0 (.tuple #[]) k)
def btree_New_string_api_Record.call  (k : (Option Addr) → K) : K := CallF Tryz.prog 43 [].toArray (Ans1 Value.pointer k)
def store_Store_set.call (s0 : (Option Addr)) (key1 : ByteArray) (r2 : (Array Value)) (k : K) : K := CallF Tryz.prog 44 [(.pointer s0), (.string key1), (.agg r2)].toArray (Ans0 (.tuple #[]) k)
def eval_run_get.call (r0 : (Option Addr)) (key1 : ByteArray) (k : (Array Value) → K) : K := CallF Tryz.prog 45 [(.pointer r0), (.string key1)].toArray (Ans1 Value.agg k)
def eval_run_set.call (r0 : (Option Addr)) (key1 : ByteArray) (has2 : Bool) (value3 : Sl) (k : K) : K := CallF Tryz.prog 46 [(.pointer r0), (.string key1), (.bool has2), (Sl.val value3)].toArray (Ans0 (.tuple #[]) k)
def bytes_Equal.call (a0 : Sl) (b1 : Sl) (k : Bool → K) : K := CallF Tryz.prog 47 [(Sl.val a0), (Sl.val b1)].toArray (Ans1 Value.bool k)
def eval_run_add.call (r0 : (Option Addr)) (o1 : (Array Value)) (k : Int → K) : K := CallF Tryz.prog 48 [(.pointer r0), (.agg o1)].toArray (Ans1 (Value.int .i64) k)
def slices_Collect_string.call (seq0 : Value) (k : Sl → K) : K := CallF Tryz.prog 49 [seq0].toArray (Ans1 Sl.val k)
def slices_Sort_s_string_string.call (x0 : Sl) (k : K) : K := CallF Tryz.prog 50 [(Sl.val x0)].toArray (Ans0 (.tuple #[]) k)
def maps_Keys_map_string_api_Record_string_api_Record_1.call (yield0 : Value) (t1 : Addr) (k : K) : K := CallF Tryz.prog 51 [yield0, (.pointer (some t1))].toArray (Ans0 (.tuple #[]) k)
def btree_Tree_string_api_Record_All_1.call (yield0 : Value) (t1 : Addr) (k : K) : K := CallF Tryz.prog 52 [yield0, (.pointer (some t1))].toArray (Ans0 (.tuple #[]) k)
def btree_node_string_api_Record_walk.call (n0 : (Option Addr)) (from1 : (Option Addr)) (yield2 : Value) (k : Bool → K) : K := CallF Tryz.prog 53 [(.pointer n0), (.pointer from1), yield2].toArray (Ans1 Value.bool k)
def ref06_Default.call (key0 : ByteArray) (regions1 : Int) (k : Int → K) : K := CallF Tryz.prog 54 [(.string key0), (.int .i64 regions1)].toArray (Ans1 (Value.int .i64) k)
def ref06_Store_Delete.call (s0 : (Option Addr)) (key1 : ByteArray) (k : K) : K := CallF Tryz.prog 55 [(.pointer s0), (.string key1)].toArray (Ans0 (.tuple #[]) k)
def ref07_Number.call (v0 : Sl) (k : Int → Bool → K) : K := CallF Tryz.prog 56 [(Sl.val v0)].toArray (Ans2 (fun r0 r1 => .tuple #[(Value.int .i64) r0, Value.bool r1]) k)
def ref07_sum.call (a0 : Int) (b1 : Int) (k : Int → Bool → K) : K := CallF Tryz.prog 57 [(.int .i64 a0), (.int .i64 b1)].toArray (Ans2 (fun r0 r1 => .tuple #[(Value.int .i64) r0, Value.bool r1]) k)
def ref07_Value.call (n0 : Int) (k : Sl → K) : K := CallF Tryz.prog 58 [(.int .i64 n0)].toArray (Ans1 Sl.val k)
def btree_Tree_string_api_Record_Get.call (t0 : (Option Addr)) (key1 : ByteArray) (k : (Array Value) → Bool → K) : K := CallF Tryz.prog 59 [(.pointer t0), (.string key1)].toArray (Ans2 (fun r0 r1 => .tuple #[Value.agg r0, Value.bool r1]) k)
def store_Default.call (key0 : ByteArray) (regions1 : Int) (k : Int → K) : K := CallF Tryz.prog 60 [(.string key0), (.int .i64 regions1)].toArray (Ans1 (Value.int .i64) k)
def btree_Tree_string_api_Record_Delete.call (t0 : (Option Addr)) (key1 : ByteArray) (k : (Array Value) → Bool → K) : K := CallF Tryz.prog 61 [(.pointer t0), (.string key1)].toArray (Ans2 (fun r0 r1 => .tuple #[Value.agg r0, Value.bool r1]) k)
def btree_Tree_string_api_Record_Put.call (t0 : (Option Addr)) (key1 : ByteArray) (value2 : (Array Value)) (k : (Array Value) → Bool → K) : K := CallF Tryz.prog 62 [(.pointer t0), (.string key1), (.agg value2)].toArray (Ans2 (fun r0 r1 => .tuple #[Value.agg r0, Value.bool r1]) k)
def eval_Number.call (value0 : Sl) (k : Int → Bool → K) : K := CallF Tryz.prog 63 [(Sl.val value0)].toArray (Ans2 (fun r0 r1 => .tuple #[(Value.int .i64) r0, Value.bool r1]) k)
def eval_Value.call (n0 : Int) (k : Sl → K) : K := CallF Tryz.prog 64 [(.int .i64 n0)].toArray (Ans1 Sl.val k)
def slices_AppendSeq_s_string_string.call (s0 : Sl) (seq1 : Value) (k : Sl → K) : K := CallF Tryz.prog 65 [(Sl.val s0), seq1].toArray (Ans1 Sl.val k)
def slices_pdqsortOrdered_string.call (data0 : Sl) (a1 : Int) (b2 : Int) (limit3 : Int) (k : K) : K := CallF Tryz.prog 66 [(Sl.val data0), (.int .i64 a1), (.int .i64 b2), (.int .i64 limit3)].toArray (Ans0 (.tuple #[]) k)
def math_bits_Len.call (x0 : Int) (k : Int → K) : K := CallF Tryz.prog 67 [(.int .u64 x0)].toArray (Ans1 (Value.int .i64) k)
def btree_node_string_api_Record_search.call (n0 : (Option Addr)) (key1 : ByteArray) (k : Int → Bool → K) : K := CallF Tryz.prog 68 [(.pointer n0), (.string key1)].toArray (Ans2 (fun r0 r1 => .tuple #[(Value.int .i64) r0, Value.bool r1]) k)
def btree_node_string_api_Record_take.call (n0 : (Option Addr)) (key1 : ByteArray) (k : (Array Value) → Bool → K) : K := CallF Tryz.prog 69 [(.pointer n0), (.string key1)].toArray (Ans2 (fun r0 r1 => .tuple #[Value.agg r0, Value.bool r1]) k)
def btree_node_string_api_Record_put.call (n0 : (Option Addr)) (x1 : (Array Value)) (k : (Array Value) → Bool → (Option Addr) → (Option Addr) → K) : K := CallF Tryz.prog 70 [(.pointer n0), (.agg x1)].toArray (Ans4 (fun r0 r1 r2 r3 => .tuple #[Value.agg r0, Value.bool r1, Value.pointer r2, Value.pointer r3]) k)
def slices_insertionSortOrdered_string.call (data0 : Sl) (a1 : Int) (b2 : Int) (k : K) : K := CallF Tryz.prog 71 [(Sl.val data0), (.int .i64 a1), (.int .i64 b2)].toArray (Ans0 (.tuple #[]) k)
def slices_heapSortOrdered_string.call (data0 : Sl) (a1 : Int) (b2 : Int) (k : K) : K := CallF Tryz.prog 72 [(Sl.val data0), (.int .i64 a1), (.int .i64 b2)].toArray (Ans0 (.tuple #[]) k)
def slices_breakPatternsOrdered_string.call (data0 : Sl) (a1 : Int) (b2 : Int) (k : K) : K := CallF Tryz.prog 73 [(Sl.val data0), (.int .i64 a1), (.int .i64 b2)].toArray (Ans0 (.tuple #[]) k)
def slices_choosePivotOrdered_string.call (data0 : Sl) (a1 : Int) (b2 : Int) (k : Int → Int → K) : K := CallF Tryz.prog 74 [(Sl.val data0), (.int .i64 a1), (.int .i64 b2)].toArray (Ans2 (fun r0 r1 => .tuple #[(Value.int .i64) r0, (Value.int .i64) r1]) k)
def slices_reverseRangeOrdered_string.call (data0 : Sl) (a1 : Int) (b2 : Int) (k : K) : K := CallF Tryz.prog 75 [(Sl.val data0), (.int .i64 a1), (.int .i64 b2)].toArray (Ans0 (.tuple #[]) k)
def slices_partialInsertionSortOrdered_string.call (data0 : Sl) (a1 : Int) (b2 : Int) (k : Bool → K) : K := CallF Tryz.prog 76 [(Sl.val data0), (.int .i64 a1), (.int .i64 b2)].toArray (Ans1 Value.bool k)
def cmp_Less_string.call (x0 : ByteArray) (y1 : ByteArray) (k : Bool → K) : K := CallF Tryz.prog 77 [(.string x0), (.string y1)].toArray (Ans1 Value.bool k)
def slices_partitionEqualOrdered_string.call (data0 : Sl) (a1 : Int) (b2 : Int) (pivot3 : Int) (k : Int → K) : K := CallF Tryz.prog 78 [(Sl.val data0), (.int .i64 a1), (.int .i64 b2), (.int .i64 pivot3)].toArray (Ans1 (Value.int .i64) k)
def slices_partitionOrdered_string.call (data0 : Sl) (a1 : Int) (b2 : Int) (pivot3 : Int) (k : Int → Bool → K) : K := CallF Tryz.prog 79 [(Sl.val data0), (.int .i64 a1), (.int .i64 b2), (.int .i64 pivot3)].toArray (Ans2 (fun r0 r1 => .tuple #[(Value.int .i64) r0, Value.bool r1]) k)
def math_bits_Len32.call (x0 : Int) (k : Int → K) : K := CallF Tryz.prog 80 [(.int .u32 x0)].toArray (Ans1 (Value.int .i64) k)
def math_bits_Len64.call (x0 : Int) (k : Int → K) : K := CallF Tryz.prog 81 [(.int .u64 x0)].toArray (Ans1 (Value.int .i64) k)
def slices_BinarySearchFunc_s_btree_item_string_api_Record_btree_item_string_api_Record_string.call (x0 : Sl) (target1 : ByteArray) (cmp2 : Value) (k : Int → Bool → K) : K := CallF Tryz.prog 82 [(Sl.val x0), (.string target1), cmp2].toArray (Ans2 (fun r0 r1 => .tuple #[(Value.int .i64) r0, Value.bool r1]) k)
def btree_node_string_api_Record_search_1.call (x0 : (Array Value)) (k1 : ByteArray) (k : Int → K) : K := CallF Tryz.prog 83 [(.agg x0), (.string k1)].toArray (Ans1 (Value.int .i64) k)
def cmp_Compare_string.call (x0 : ByteArray) (y1 : ByteArray) (k : Int → K) : K := CallF Tryz.prog 84 [(.string x0), (.string y1)].toArray (Ans1 (Value.int .i64) k)
def slices_Delete_s_btree_item_string_api_Record_btree_item_string_api_Record.call (s0 : Sl) (i1 : Int) (j2 : Int) (k : Sl → K) : K := CallF Tryz.prog 85 [(Sl.val s0), (.int .i64 i1), (.int .i64 j2)].toArray (Ans1 Sl.val k)
def btree_node_string_api_Record_last.call (n0 : (Option Addr)) (k : (Array Value) → K) : K := CallF Tryz.prog 86 [(.pointer n0)].toArray (Ans1 Value.agg k)
def btree_node_string_api_Record_mend.call (n0 : (Option Addr)) (i1 : Int) (k : K) : K := CallF Tryz.prog 87 [(.pointer n0), (.int .i64 i1)].toArray (Ans0 (.tuple #[]) k)
def slices_Insert_s_btree_item_string_api_Record_btree_item_string_api_Record.call (s0 : Sl) (i1 : Int) (v2 : Sl) (k : Sl → K) : K := CallF Tryz.prog 88 [(Sl.val s0), (.int .i64 i1), (Sl.val v2)].toArray (Ans1 Sl.val k)
def slices_Insert_s_btree_node_string_api_Record_btree_node_string_api_Record.call (s0 : Sl) (i1 : Int) (v2 : Sl) (k : Sl → K) : K := CallF Tryz.prog 89 [(Sl.val s0), (.int .i64 i1), (Sl.val v2)].toArray (Ans1 Sl.val k)
def slices_Clone_s_btree_item_string_api_Record_btree_item_string_api_Record.call (s0 : Sl) (k : Sl → K) : K := CallF Tryz.prog 90 [(Sl.val s0)].toArray (Ans1 Sl.val k)
def slices_Clone_s_btree_node_string_api_Record_btree_node_string_api_Record.call (s0 : Sl) (k : Sl → K) : K := CallF Tryz.prog 91 [(Sl.val s0)].toArray (Ans1 Sl.val k)
def slices_siftDownOrdered_string.call (data0 : Sl) (lo1 : Int) (hi2 : Int) (first3 : Int) (k : K) : K := CallF Tryz.prog 92 [(Sl.val data0), (.int .i64 lo1), (.int .i64 hi2), (.int .i64 first3)].toArray (Ans0 (.tuple #[]) k)
def slices_nextPowerOfTwo.call (length0 : Int) (k : Int → K) : K := CallF Tryz.prog 93 [(.int .i64 length0)].toArray (Ans1 (Value.int .u64) k)
def slices_xorshift_Next.call (r0 : (Option Addr)) (k : Int → K) : K := CallF Tryz.prog 94 [(.pointer r0)].toArray (Ans1 (Value.int .u64) k)
def slices_medianAdjacentOrdered_string.call (data0 : Sl) (a1 : Int) (swaps2 : (Option Addr)) (k : Int → K) : K := CallF Tryz.prog 95 [(Sl.val data0), (.int .i64 a1), (.pointer swaps2)].toArray (Ans1 (Value.int .i64) k)
def slices_medianOrdered_string.call (data0 : Sl) (a1 : Int) (b2 : Int) (c3 : Int) (swaps4 : (Option Addr)) (k : Int → K) : K := CallF Tryz.prog 96 [(Sl.val data0), (.int .i64 a1), (.int .i64 b2), (.int .i64 c3), (.pointer swaps4)].toArray (Ans1 (Value.int .i64) k)
def cmp_isNaN_string.call (x0 : ByteArray) (k : Bool → K) : K := CallF Tryz.prog 97 [(.string x0)].toArray (Ans1 Value.bool k)
def slices_Delete_s_btree_node_string_api_Record_btree_node_string_api_Record.call (s0 : Sl) (i1 : Int) (j2 : Int) (k : Sl → K) : K := CallF Tryz.prog 98 [(Sl.val s0), (.int .i64 i1), (.int .i64 j2)].toArray (Ans1 Sl.val k)
def slices_rotateRight_btree_item_string_api_Record.call (s0 : Sl) (r1 : Int) (k : K) : K := CallF Tryz.prog 100 [(Sl.val s0), (.int .i64 r1)].toArray (Ans0 (.tuple #[]) k)
def slices_rotateRight_btree_node_string_api_Record.call (s0 : Sl) (r1 : Int) (k : K) : K := CallF Tryz.prog 102 [(Sl.val s0), (.int .i64 r1)].toArray (Ans0 (.tuple #[]) k)
def slices_order2Ordered_string.call (data0 : Sl) (a1 : Int) (b2 : Int) (swaps3 : (Option Addr)) (k : Int → Int → K) : K := CallF Tryz.prog 103 [(Sl.val data0), (.int .i64 a1), (.int .i64 b2), (.pointer swaps3)].toArray (Ans2 (fun r0 r1 => .tuple #[(Value.int .i64) r0, (Value.int .i64) r1]) k)
def slices_rotateLeft_btree_item_string_api_Record.call (s0 : Sl) (r1 : Int) (k : K) : K := CallF Tryz.prog 104 [(Sl.val s0), (.int .i64 r1)].toArray (Ans0 (.tuple #[]) k)
def slices_rotateLeft_btree_node_string_api_Record.call (s0 : Sl) (r1 : Int) (k : K) : K := CallF Tryz.prog 105 [(Sl.val s0), (.int .i64 r1)].toArray (Ans0 (.tuple #[]) k)
def slices_Reverse_s_btree_item_string_api_Record_btree_item_string_api_Record.call (s0 : Sl) (k : K) : K := CallF Tryz.prog 106 [(Sl.val s0)].toArray (Ans0 (.tuple #[]) k)
def slices_Reverse_s_btree_node_string_api_Record_btree_node_string_api_Record.call (s0 : Sl) (k : K) : K := CallF Tryz.prog 107 [(Sl.val s0)].toArray (Ans0 (.tuple #[]) k)
end Go.Proofs.YtinpgiafjjibnaaGreat
/- Plain forms of functions, and that their code comes to them (package btree). -/
namespace Go.Proofs.YtinpgiafjjibnaaGreat
open Go Go.Sep
set_option linter.unusedVariables false
set_option linter.unusedSimpArgs false
set_option maxRecDepth 100000
set_option maxHeartbeats 4000000
attribute [local irreducible] G Gp Cx Tx Ex Sx Dx Ox Ax Lx Rx Fx Bx Bj Al Do Ld LdN St StN New CallF Ar DoU Rd Rd2 Pu Cd Ite Fv CallV CallY Ans0 Ans1 Ans2 Ans3 Ans4 Ans5 Ext Dead Dr WithS Sv LdS LdNS RdS Rd2S Nn Idx IdxA IdxS Fld Bld Slc SlcS Cat All LoopK RangeF RangeJ TakeD
namespace F_IRBtree
instance at_131 : AT Tryz.prog 131 5 := ⟨by kernel_rfl⟩
instance at_57 : AT Tryz.prog 57 4 := ⟨by kernel_rfl⟩
instance cb_53 : CB Tryz.prog 53 := ⟨by kernel_rfl⟩
instance cb_68 : CB Tryz.prog 68 := ⟨by kernel_rfl⟩
instance cb_69 : CB Tryz.prog 69 := ⟨by kernel_rfl⟩
instance cb_70 : CB Tryz.prog 70 := ⟨by kernel_rfl⟩
instance cb_82 : CB Tryz.prog 82 := ⟨by kernel_rfl⟩
instance cb_84 : CB Tryz.prog 84 := ⟨by kernel_rfl⟩
instance cb_85 : CB Tryz.prog 85 := ⟨by kernel_rfl⟩
instance cb_86 : CB Tryz.prog 86 := ⟨by kernel_rfl⟩
instance cb_87 : CB Tryz.prog 87 := ⟨by kernel_rfl⟩
instance cb_88 : CB Tryz.prog 88 := ⟨by kernel_rfl⟩
instance cb_89 : CB Tryz.prog 89 := ⟨by kernel_rfl⟩
instance cb_90 : CB Tryz.prog 90 := ⟨by kernel_rfl⟩
instance cb_91 : CB Tryz.prog 91 := ⟨by kernel_rfl⟩
instance cb_98 : CB Tryz.prog 98 := ⟨by kernel_rfl⟩
instance ct_108 : CT Tryz.prog 108 := ⟨by kernel_rfl⟩
instance ct_118 : CT Tryz.prog 118 := ⟨by kernel_rfl⟩
instance ct_119 : CT Tryz.prog 119 := ⟨by kernel_rfl⟩
instance ct_3 : CT Tryz.prog 3 := ⟨by kernel_rfl⟩
instance ct_86 : CT Tryz.prog 86 := ⟨by kernel_rfl⟩
instance ct_9 : CT Tryz.prog 9 := ⟨by kernel_rfl⟩
instance ft_110_0 : FT Tryz.prog 110 0 0 1 := ⟨by kernel_rfl⟩
instance ft_110_1 : FT Tryz.prog 110 1 1 1 := ⟨by kernel_rfl⟩
instance ft_121_0 : FT Tryz.prog 121 0 0 1 := ⟨by kernel_rfl⟩
instance ft_121_1 : FT Tryz.prog 121 1 1 1 := ⟨by kernel_rfl⟩
instance ft_131_0 : FT Tryz.prog 131 0 0 1 := ⟨by kernel_rfl⟩
instance ft_131_1 : FT Tryz.prog 131 1 1 4 := ⟨by kernel_rfl⟩
instance mx : MX Tryz.prog := ⟨mixed⟩
instance pl_110 : PLT Tryz.prog 110 [(0, 1), (1, 1)] := ⟨_, Tryz.underlying110, by kernel_rfl⟩
instance pl_121 : PLT Tryz.prog 121 [(0, 1), (1, 1)] := ⟨_, Tryz.underlying121, by kernel_rfl⟩
instance pl_131 : PLT Tryz.prog 131 [(0, 1), (1, 4)] := ⟨_, Tryz.underlying131, by kernel_rfl⟩
instance sl_118 : SLT Tryz.prog 118 131 5 := ⟨by kernel_rfl⟩
instance sl_119 : SLT Tryz.prog 119 108 1 := ⟨by kernel_rfl⟩
instance sz_108 : SZ Tryz.prog 108 1 := ⟨by kernel_rfl⟩
instance sz_118 : SZ Tryz.prog 118 1 := ⟨by kernel_rfl⟩
instance sz_119 : SZ Tryz.prog 119 1 := ⟨by kernel_rfl⟩
instance sz_131 : SZ Tryz.prog 131 5 := ⟨by kernel_rfl⟩
instance sz_3 : SZ Tryz.prog 3 1 := ⟨by kernel_rfl⟩
instance sz_57 : SZ Tryz.prog 57 4 := ⟨by kernel_rfl⟩
instance un_127 : UN Tryz.prog 127 (.pointer 9) := ⟨Tryz.underlying127⟩
instance un_132 : UN Tryz.prog 132 (.pointer 131) := ⟨Tryz.underlying132⟩
instance zt_108 : ZT Tryz.prog 108 (.pointer none) := ⟨Tryz.t108, by kernel_rfl, by kernel_rfl⟩
instance zt_110 : ZT Tryz.prog 110 (.agg #[(.pointer none), (.int .i64 0)]) := ⟨Tryz.t110, by kernel_rfl, by kernel_rfl⟩
instance zt_121 : ZT Tryz.prog 121 (.agg #[(Sl.val ⟨none, 0, 0⟩), (Sl.val ⟨none, 0, 0⟩)]) := ⟨Tryz.t121, by kernel_rfl, by kernel_rfl⟩
instance zt_131 : ZT Tryz.prog 131 (.agg #[(.string ⟨#[]⟩), (.bool false), (Sl.val ⟨none, 0, 0⟩), (.int .i64 0), (.int .u64 0)]) := ⟨Tryz.t131, by kernel_rfl, by kernel_rfl⟩
instance zt_57 : ZT Tryz.prog 57 (.agg #[(.bool false), (Sl.val ⟨none, 0, 0⟩), (.int .i64 0), (.int .u64 0)]) := ⟨Tryz.t57, by kernel_rfl, by kernel_rfl⟩
end F_IRBtree
def btree_Tree_string_api_Record_All (t0 : (Option Addr)) (Q : Value → K) : K :=
  New 86 #[(.pointer t0)] fun t1 =>
  Q (.func (.func 52) #[] #[(.pointer (some t1))])
theorem btree_Tree_string_api_Record_All_ok (t0 : (Option Addr)) (Q : Value → K) (w : World) (h : btree_Tree_string_api_Record_All t0 Q w) : btree_Tree_string_api_Record_All.call t0 Q w := by
  exact g_walk 4 h Tryz.func30
def btree_New_string_api_Record  (Q : (Option Addr) → K) : K :=
  New 121 #[(Sl.val ⟨none, 0, 0⟩), (Sl.val ⟨none, 0, 0⟩)] fun t2 =>
  New 110 #[(.pointer (some t2)), (.int .i64 0)] fun t4 =>
  Q (some t4)
theorem btree_New_string_api_Record_ok  (Q : (Option Addr) → K) (w : World) (h : btree_New_string_api_Record  Q w) : btree_New_string_api_Record.call  Q w := by
  exact g_walk 5 h Tryz.func43
def btree_Tree_string_api_Record_All_1 (yield0 : Value) (t1 : Addr) (Q : K) : K :=
  Ld t1 Value.pointer fun t3 =>
  Nn t3 fun t4 =>
  Ld t4 Value.pointer fun t6 =>
  btree_node_string_api_Record_walk.call t6 none yield0 fun t8 =>
  Q
theorem btree_Tree_string_api_Record_All_1_ok (yield0 : Value) (t1 : Addr) (Q : K) (w : World) (h : btree_Tree_string_api_Record_All_1 yield0 t1 Q w) : btree_Tree_string_api_Record_All_1.call yield0 t1 Q w := by
  exact g_walk 9 h Tryz.func52
def btree_node_string_api_Record_walk.s4 (Q : Bool → K) (X2 : (Option Addr) → Int → K) (n0_4 : Addr) (yield2_4 : Value) (i7_4 : Int) (t74_4 : Bool) : K :=
  Ite t74_4
    (Q false)
    (Ar (IntKind.wrap .i64 (i7_4 + 1)) fun t26 =>
    X2 none t26)
def btree_node_string_api_Record_walk.s3 (Q : Bool → K) (X2 : (Option Addr) → Int → K) (n0_3 : Addr) (yield2_3 : Value) (i7_3 : Int) (t46_3 : Bool) : K :=
  Ite t46_3
    (Q false)
    (Dr <|
    Ld n0_3 Sl.val fun t51 =>
    Ite (decide (i7_3 < (t51.n : Int)))
      (Ld n0_3 Sl.val fun t59 =>
      Idx t59 i7_3 5 fun t61 =>
      Ld t61 Value.string fun t63 =>
      Ld n0_3 Sl.val fun t67 =>
      Idx t67 i7_3 5 fun t69 =>
      LdN (t69.add 1) 4 fun t71 =>
      CallY Tryz.prog yield2_3 [(.string t63), (.agg t71)] <| Ans1 (fun (t72 : Bool) => Value.bool t72) fun t72 =>
      btree_node_string_api_Record_walk.s4 Q X2 n0_3 yield2_3 i7_3 (!t72))
      (btree_node_string_api_Record_walk.s4 Q X2 n0_3 yield2_3 i7_3 false))
def btree_node_string_api_Record_walk.b2 (Q : Bool → K)  (X2 : (Option Addr) → Int → K) (n0_2 : (Option Addr)) (yield2_2 : Value) (from1_2 : (Option Addr)) (i7_2 : Int) : K :=
  Nn n0_2 fun t20 =>
  Ld t20 Sl.val fun t22 =>
  Ite (decide (i7_2 ≤ (t22.n : Int)))
    (Ld (t20.add 1) Sl.val fun t31 =>
    Ite (decide (i7_2 < (t31.n : Int)))
      (Ld (t20.add 1) Sl.val fun t38 =>
      Idx t38 i7_2 1 fun t40 =>
      Ld t40 Value.pointer fun t41 =>
      btree_node_string_api_Record_walk.call t41 from1_2 yield2_2 fun t44 =>
      btree_node_string_api_Record_walk.s3 Q X2 t20 yield2_2 i7_2 (!t44))
      (btree_node_string_api_Record_walk.s3 Q X2 t20 yield2_2 i7_2 false))
    (Q true)
def btree_node_string_api_Record_walk.s1 (Q : Bool → K)  (n0_1 : (Option Addr)) (from1_1 : (Option Addr)) (yield2_1 : Value) (i7_1 : Int) : K :=
  LoopK (α := (Option Addr) × Int) (fun X x => btree_node_string_api_Record_walk.b2 Q (fun from1_2 i7_2 => X (from1_2, i7_2)) n0_1 yield2_1 x.1 x.2) (from1_1, i7_1)
def btree_node_string_api_Record_walk (n0 : (Option Addr)) (from1 : (Option Addr)) (yield2 : Value) (Q : Bool → K) : K :=
  Ite (!(from1).isNone)
    (Nn from1 fun t13 =>
    Ld t13 Value.string fun t14 =>
    btree_node_string_api_Record_search.call n0 t14 fun t15x0 t15x1 =>
    btree_node_string_api_Record_walk.s1 Q n0 (some t13) yield2 t15x0)
    (btree_node_string_api_Record_walk.s1 Q n0 from1 yield2 0)
theorem btree_node_string_api_Record_walk_ok (n0 : (Option Addr)) (from1 : (Option Addr)) (yield2 : Value) (Q : Bool → K) (w : World) (h : btree_node_string_api_Record_walk n0 from1 yield2 Q w) : btree_node_string_api_Record_walk.call n0 from1 yield2 Q w := by
  have hJ10 : ∀ (X2 : ((Option Addr) × Int) → K), XH 4 X2 → JH 10 fun D => ∃ (n0_4 : Addr) (yield2_4 : Value) (i7_4 : Int), D [(0, (.pointer (some n0_4))), (2, yield2_4), (7, (.int .i64 i7_4))] (fun C => ∀ (t74_4 : Bool), C [(0, (.pointer (some n0_4))), (1, (.pointer none)), (2, yield2_4), (7, (.int .i64 i7_4)), (74, (.bool t74_4))] (btree_node_string_api_Record_walk.s4 Q (fun from1_2 i7_2 => X2 (from1_2, i7_2)) n0_4 yield2_4 i7_4 t74_4)) := by intros; exact ⟨fun _ ⟨_, _, _, h⟩ => ⟨_, _, h⟩⟩
  have hD9 : DH 9 1 [25] (.s [0, 1, 2, 3, 4, 5, 6, 7] (.i (.s [8, 9, 10, 11, 13, 17, 18, 19, 21, 12, 14, 15, 16, 20, 22, 23, 24] (.a [(25, 0, .s [26, 27] .e)])) (.s [8, 9, 10, 11, 12, 13, 14, 15, 16, 17, 18, 19, 20, 21, 22, 23, 24, 25, 26, 27] .e))) := by intros; exact ⟨⟩
  have hJ7 : ∀ (X2 : ((Option Addr) × Int) → K), XH 4 X2 → JH 7 fun D => ∃ (n0_3 : Addr) (yield2_3 : Value) (i7_3 : Int), D [(0, (.pointer (some n0_3))), (2, yield2_3), (7, (.int .i64 i7_3))] (fun C => ∀ (t46_3 : Bool), C [(0, (.pointer (some n0_3))), (2, yield2_3), (7, (.int .i64 i7_3)), (46, (.bool t46_3))] (btree_node_string_api_Record_walk.s3 Q (fun from1_2 i7_2 => X2 (from1_2, i7_2)) n0_3 yield2_3 i7_3 t46_3)) := by intros; exact ⟨fun _ ⟨_, _, _, h⟩ => ⟨_, _, h⟩⟩
  have hL4 : ∀ (n0_2 : (Option Addr)) (yield2_2 : Value), LH 4 (fun x : (Option Addr) × Int => [(0, (.pointer n0_2)), (1, (.pointer x.1)), (2, yield2_2), (7, (.int .i64 x.2))]) (fun X x => btree_node_string_api_Record_walk.b2 Q (fun from1_2 i7_2 => X (from1_2, i7_2)) n0_2 yield2_2 x.1 x.2) := by intros; exact ⟨⟩
  have hJ4 : JH 4 fun D => ∃ (n0_1 : (Option Addr)) (from1_1 : (Option Addr)) (yield2_1 : Value), D [(0, (.pointer n0_1)), (1, (.pointer from1_1)), (2, yield2_1)] (fun C => ∀ (i7_1 : Int), C [(0, (.pointer n0_1)), (1, (.pointer from1_1)), (2, yield2_1), (7, (.int .i64 i7_1))] (btree_node_string_api_Record_walk.s1 Q n0_1 from1_1 yield2_1 i7_1)) := by intros; exact ⟨fun _ ⟨_, _, _, h⟩ => ⟨_, _, h⟩⟩
  exact g_walk 75 h Tryz.func53
def btree_Tree_string_api_Record_Get.b1 (Q : (Array Value) → Bool → K)  (X1 : (Option Addr) → K) (key1_1 : ByteArray) (value4_1 : Addr) (n6_1 : (Option Addr)) : K :=
  btree_node_string_api_Record_search.call n6_1 key1_1 fun t16x0 t16x1 =>
  Ite t16x1
    (Nn n6_1 fun t21 =>
    Ld t21 Sl.val fun t23 =>
    Idx t23 t16x0 5 fun t25 =>
    LdN (t25.add 1) 4 fun t27 =>
    StN value4_1 4 t27 <|
    LdN value4_1 4 fun r0 =>
    Q r0 true)
    (Nn n6_1 fun t29 =>
    Ld (t29.add 1) Sl.val fun t31 =>
    Ite (decide ((t31.n : Int) = 0))
      (LdN value4_1 4 fun t34 =>
      StN value4_1 4 t34 <|
      LdN value4_1 4 fun r0 =>
      Q r0 false)
      (Ld (t29.add 1) Sl.val fun t38 =>
      Idx t38 t16x0 1 fun t40 =>
      Ld t40 Value.pointer fun t41 =>
      X1 t41))
def btree_Tree_string_api_Record_Get (t0 : (Option Addr)) (key1 : ByteArray) (Q : (Array Value) → Bool → K) : K :=
  New 57 #[(.bool false), (Sl.val ⟨none, 0, 0⟩), (.int .i64 0), (.int .u64 0)] fun value4 =>
  Nn t0 fun t10 =>
  Ld t10 Value.pointer fun t12 =>
  LoopK (α := (Option Addr)) (fun X x => btree_Tree_string_api_Record_Get.b1 Q X key1 value4 x) t12
theorem btree_Tree_string_api_Record_Get_ok (t0 : (Option Addr)) (key1 : ByteArray) (Q : (Array Value) → Bool → K) (w : World) (h : btree_Tree_string_api_Record_Get t0 key1 Q w) : btree_Tree_string_api_Record_Get.call t0 key1 Q w := by
  have hL2 : ∀ (key1_1 : ByteArray) (value4_1 : Addr), LH 2 (fun x : (Option Addr) => [(1, (.string key1_1)), (4, (.pointer (some value4_1))), (6, (.pointer x))]) (fun X x => btree_Tree_string_api_Record_Get.b1 Q X key1_1 value4_1 x) := by intros; exact ⟨⟩
  exact g_walk 42 h Tryz.func59
def btree_Tree_string_api_Record_Delete.s2 (Q : (Array Value) → Bool → K)  (value4_2 : Addr) (ok5_2 : Bool) : K :=
  LdN value4_2 4 fun t55 =>
  StN value4_2 4 t55 <|
  LdN value4_2 4 fun r0 =>
  Q r0 ok5_2
def btree_Tree_string_api_Record_Delete.s1 (Q : (Array Value) → Bool → K)  (t0_1 : Addr) (value4_1 : Addr) (ok5_1 : Bool) : K :=
  Ite ok5_1
    (Ld (t0_1.add 1) (Value.int .i64) fun t51 =>
    Ar (IntKind.wrap .i64 (t51 - 1)) fun t52 =>
    St (t0_1.add 1) (.int .i64 t52) <|
    btree_Tree_string_api_Record_Delete.s2 Q value4_1 ok5_1)
    (btree_Tree_string_api_Record_Delete.s2 Q value4_1 ok5_1)
def btree_Tree_string_api_Record_Delete.s3 (Q : (Array Value) → Bool → K)  (t0_3 : Addr) (value4_3 : Addr) (ok5_3 : Bool) (t34_3 : Bool) : K :=
  Ite t34_3
    (Ld t0_3 Value.pointer fun t39 =>
    Nn t39 fun t40 =>
    Ld (t40.add 1) Sl.val fun t42 =>
    Idx t42 0 1 fun t43 =>
    Ld t43 Value.pointer fun t44 =>
    St t0_3 (.pointer t44) <|
    btree_Tree_string_api_Record_Delete.s1 Q t0_3 value4_3 ok5_3)
    (btree_Tree_string_api_Record_Delete.s1 Q t0_3 value4_3 ok5_3)
def btree_Tree_string_api_Record_Delete (t0 : (Option Addr)) (key1 : ByteArray) (Q : (Array Value) → Bool → K) : K :=
  New 57 #[(.bool false), (Sl.val ⟨none, 0, 0⟩), (.int .i64 0), (.int .u64 0)] fun value4 =>
  Nn t0 fun t8 =>
  Ld t8 Value.pointer fun t10 =>
  btree_node_string_api_Record_take.call t10 key1 fun t12x0 t12x1 =>
  StN value4 4 t12x0 <|
  Ld t8 Value.pointer fun t18 =>
  Nn t18 fun t19 =>
  Ld t19 Sl.val fun t21 =>
  Ite (decide ((t21.n : Int) = 0))
    (Ld t8 Value.pointer fun t28 =>
    Nn t28 fun t29 =>
    Ld (t29.add 1) Sl.val fun t31 =>
    btree_Tree_string_api_Record_Delete.s3 Q t8 value4 t12x1 (decide ((t31.n : Int) = 1)))
    (btree_Tree_string_api_Record_Delete.s3 Q t8 value4 t12x1 false)
theorem btree_Tree_string_api_Record_Delete_ok (t0 : (Option Addr)) (key1 : ByteArray) (Q : (Array Value) → Bool → K) (w : World) (h : btree_Tree_string_api_Record_Delete t0 key1 Q w) : btree_Tree_string_api_Record_Delete.call t0 key1 Q w := by
  have hJ6 : JH 6 fun D => ∃ (value4_2 : Addr), D [(4, (.pointer (some value4_2)))] (fun C => ∀ (ok5_2 : Bool), C [(4, (.pointer (some value4_2))), (5, (.bool ok5_2))] (btree_Tree_string_api_Record_Delete.s2 Q value4_2 ok5_2)) := by intros; exact ⟨fun _ ⟨_, h⟩ => ⟨_, _, h⟩⟩
  have hJ4 : JH 4 fun D => ∃ (t0_1 : Addr) (value4_1 : Addr), D [(0, (.pointer (some t0_1))), (4, (.pointer (some value4_1)))] (fun C => ∀ (ok5_1 : Bool), C [(0, (.pointer (some t0_1))), (4, (.pointer (some value4_1))), (5, (.bool ok5_1))] (btree_Tree_string_api_Record_Delete.s1 Q t0_1 value4_1 ok5_1)) := by intros; exact ⟨fun _ ⟨_, _, h⟩ => ⟨_, _, h⟩⟩
  have hJ3 : JH 3 fun D => ∃ (t0_3 : Addr) (value4_3 : Addr), D [(0, (.pointer (some t0_3))), (4, (.pointer (some value4_3)))] (fun C => ∀ (ok5_3 : Bool) (t34_3 : Bool), C [(0, (.pointer (some t0_3))), (4, (.pointer (some value4_3))), (5, (.bool ok5_3)), (34, (.bool t34_3))] (btree_Tree_string_api_Record_Delete.s3 Q t0_3 value4_3 ok5_3 t34_3)) := by intros; exact ⟨fun _ ⟨_, _, h⟩ => ⟨_, _, h⟩⟩
  exact g_walk 57 h Tryz.func61
def btree_Tree_string_api_Record_Put.s3 (Q : (Array Value) → Bool → K)  (t6_3 : Addr) (old8_3 : Addr) (had9_3 : Bool) : K :=
  LdN old8_3 4 fun t51 =>
  StN t6_3 4 t51 <|
  LdN t6_3 4 fun r0 =>
  Q r0 had9_3
def btree_Tree_string_api_Record_Put.s2 (Q : (Array Value) → Bool → K)  (t0_2 : (Option Addr)) (t6_2 : Addr) (old8_2 : Addr) (had9_2 : Bool) : K :=
  Ite (!had9_2)
    (Nn t0_2 fun t45 =>
    Ld (t45.add 1) (Value.int .i64) fun t47 =>
    Ar (IntKind.wrap .i64 (t47 + 1)) fun t48 =>
    St (t45.add 1) (.int .i64 t48) <|
    btree_Tree_string_api_Record_Put.s3 Q t6_2 old8_2 had9_2)
    (btree_Tree_string_api_Record_Put.s3 Q t6_2 old8_2 had9_2)
def btree_Tree_string_api_Record_Put.s1 (Q : (Array Value) → Bool → K)  (t0_1 : (Option Addr)) (t6_1 : Addr) (old8_1 : Addr) (had9_1 : Bool) (mid10_1 : (Option Addr)) (right11_1 : (Option Addr)) : K :=
  Ite (!(mid10_1).isNone)
    (Dr <| WithS fun S =>
    Nn mid10_1 fun t29 =>
    Nn t0_1 fun t33 =>
    LdNS S t29 5 fun t30 =>
    LdS S t33 Value.pointer fun t35 =>
    All [
      (Bld #[(.string ⟨#[]⟩), (.bool false), (Sl.val ⟨none, 0, 0⟩), (.int .i64 0), (.int .u64 0)] (fun i => some (i * 5, 5)) [(0, (.agg t30))] fun ct31 =>
      New 131 ct31 fun t31 =>
      Sv S <|
      New 108 #[(.pointer t35), (.pointer right11_1)] fun t37 =>
      Sv S <|
      New 121 #[(Sl.val (Sl.mk (some t31) 1 1)), (Sl.val (Sl.mk (some t37) 2 2))] fun t39 =>
      St t33 (.pointer (some t39)) <|
      btree_Tree_string_api_Record_Put.s2 Q (some t33) t6_1 old8_1 had9_1),
      (New 108 #[(.pointer t35), (.pointer right11_1)] fun t37 =>
      Sv S <|
      Bld #[(.string ⟨#[]⟩), (.bool false), (Sl.val ⟨none, 0, 0⟩), (.int .i64 0), (.int .u64 0)] (fun i => some (i * 5, 5)) [(0, (.agg t30))] fun ct31 =>
      New 131 ct31 fun t31 =>
      Sv S <|
      New 121 #[(Sl.val (Sl.mk (some t31) 1 1)), (Sl.val (Sl.mk (some t37) 2 2))] fun t39 =>
      St t33 (.pointer (some t39)) <|
      btree_Tree_string_api_Record_Put.s2 Q (some t33) t6_1 old8_1 had9_1)
      ])
    (btree_Tree_string_api_Record_Put.s2 Q t0_1 t6_1 old8_1 had9_1)
def btree_Tree_string_api_Record_Put (t0 : (Option Addr)) (key1 : ByteArray) (value2 : (Array Value)) (Q : (Array Value) → Bool → K) : K :=
  New 57 value2 fun value5 =>
  New 57 #[(.bool false), (Sl.val ⟨none, 0, 0⟩), (.int .i64 0), (.int .u64 0)] fun t6 =>
  Dr <| WithS fun S =>
  Nn t0 fun t14 =>
  LdS S t14 Value.pointer fun t16 =>
  LdNS S value5 4 fun t18 =>
  Bld #[(.string ⟨#[]⟩), (.bool false), (Sl.val ⟨none, 0, 0⟩), (.int .i64 0), (.int .u64 0)] ([(0, 1), (1, 4)][·]?) [(0, (.string key1)), (1, (.agg t18))] fun t19 =>
  All [
    (btree_node_string_api_Record_put.call t16 t19 fun t20x0 t20x1 t20x2 t20x3 =>
    New 57 #[(.bool false), (Sl.val ⟨none, 0, 0⟩), (.int .i64 0), (.int .u64 0)] fun old8 =>
    StN old8 4 t20x0 <|
    btree_Tree_string_api_Record_Put.s1 Q (some t14) t6 old8 t20x1 t20x2 t20x3),
    (New 57 #[(.bool false), (Sl.val ⟨none, 0, 0⟩), (.int .i64 0), (.int .u64 0)] fun old8 =>
    Sv S <|
    btree_node_string_api_Record_put.call t16 t19 fun t20x0 t20x1 t20x2 t20x3 =>
    StN old8 4 t20x0 <|
    btree_Tree_string_api_Record_Put.s1 Q (some t14) t6 old8 t20x1 t20x2 t20x3)
    ]
theorem btree_Tree_string_api_Record_Put_ok (t0 : (Option Addr)) (key1 : ByteArray) (value2 : (Array Value)) (Q : (Array Value) → Bool → K) (w : World) (h : btree_Tree_string_api_Record_Put t0 key1 value2 Q w) : btree_Tree_string_api_Record_Put.call t0 key1 value2 Q w := by
  have hJ6 : JH 6 fun D => ∃ (t6_3 : Addr) (old8_3 : Addr), D [(6, (.pointer (some t6_3))), (8, (.pointer (some old8_3)))] (fun C => ∀ (had9_3 : Bool), C [(6, (.pointer (some t6_3))), (8, (.pointer (some old8_3))), (9, (.bool had9_3))] (btree_Tree_string_api_Record_Put.s3 Q t6_3 old8_3 had9_3)) := by intros; exact ⟨fun _ ⟨_, _, h⟩ => ⟨_, _, h⟩⟩
  have hJ4 : JH 4 fun D => ∃ (t0_2 : (Option Addr)) (t6_2 : Addr) (old8_2 : Addr), D [(0, (.pointer t0_2)), (6, (.pointer (some t6_2))), (8, (.pointer (some old8_2)))] (fun C => ∀ (had9_2 : Bool), C [(0, (.pointer t0_2)), (6, (.pointer (some t6_2))), (8, (.pointer (some old8_2))), (9, (.bool had9_2))] (btree_Tree_string_api_Record_Put.s2 Q t0_2 t6_2 old8_2 had9_2)) := by intros; exact ⟨fun _ ⟨_, _, _, h⟩ => ⟨_, _, h⟩⟩
  have hD3 : DH 3 2 [12, 15] (.s [0, 1, 2, 5, 6, 7, 9, 3, 8] (.a [(4, 1, .a [(10, 1, .s [11] (.a [(12, 0, .s [13, 14] (.a [(15, 0, .e)]))]))]), (10, 1, .a [(4, 1, .s [11] (.a [(12, 0, .s [13, 14] (.a [(15, 0, .e)]))]))])])) := by intros; exact ⟨⟩
  have hJ2 : JH 2 fun D => ∃ (t0_1 : (Option Addr)) (t6_1 : Addr), D [(0, (.pointer t0_1)), (6, (.pointer (some t6_1)))] (fun C => ∀ (old8_1 : Addr) (had9_1 : Bool) (mid10_1 : (Option Addr)) (right11_1 : (Option Addr)), C [(0, (.pointer t0_1)), (6, (.pointer (some t6_1))), (8, (.pointer (some old8_1))), (9, (.bool had9_1)), (10, (.pointer mid10_1)), (11, (.pointer right11_1))] (btree_Tree_string_api_Record_Put.s1 Q t0_1 t6_1 old8_1 had9_1 mid10_1 right11_1)) := by intros; exact ⟨fun _ ⟨_, _, h⟩ => ⟨_, _, h⟩⟩
  have hD1 : DH 1 2 [7, 14] (.s [0, 1, 2, 4, 3, 5, 6] (.a [(7, 0, .s [8, 9, 10, 11, 12] (.a [(13, 0, .a [(14, 0, .s [15, 16, 17] .e)])])), (13, 1, .a [(7, 0, .s [8, 9, 10, 11, 12] (.a [(14, 0, .s [15, 16, 17] .e)]))])])) := by intros; exact ⟨⟩
  exact g_walk 53 h Tryz.func62
def btree_node_string_api_Record_search (n0 : (Option Addr)) (key1 : ByteArray) (Q : Int → Bool → K) : K :=
  Nn n0 fun t7 =>
  Ld t7 Sl.val fun t9 =>
  slices_BinarySearchFunc_s_btree_item_string_api_Record_btree_item_string_api_Record_string.call t9 key1 (.func (.func 83) #[] #[]) fun t11x0 t11x1 =>
  Q t11x0 t11x1
theorem btree_node_string_api_Record_search_ok (n0 : (Option Addr)) (key1 : ByteArray) (Q : Int → Bool → K) (w : World) (h : btree_node_string_api_Record_search n0 key1 Q w) : btree_node_string_api_Record_search.call n0 key1 Q w := by
  exact g_walk 14 h Tryz.func68
def btree_node_string_api_Record_take.s1 (Q : (Array Value) → Bool → K)  (value4_1 : Addr) (ok5_1 : Bool) : K :=
  LdN value4_1 4 fun t94 =>
  StN value4_1 4 t94 <|
  LdN value4_1 4 fun r0 =>
  Q r0 ok5_1
def btree_node_string_api_Record_take.s2 (Q : (Array Value) → Bool → K)  (n0_2 : (Option Addr)) (key1_2 : ByteArray) (value4_2 : Addr) (i6_2 : Int) (found7_2 : Bool) (t14_2 : Bool) : K :=
  Ite t14_2
    (Nn n0_2 fun t25 =>
    Ld t25 Sl.val fun t27 =>
    Idx t27 i6_2 5 fun t29 =>
    LdN (t29.add 1) 4 fun t31 =>
    StN value4_2 4 t31 <|
    Ld t25 Sl.val fun t36 =>
    Ar (IntKind.wrap .i64 (i6_2 + 1)) fun t39 =>
    slices_Delete_s_btree_item_string_api_Record_btree_item_string_api_Record.call t36 i6_2 t39 fun t40 =>
    St t25 (Sl.val t40) <|
    LdN value4_2 4 fun t43 =>
    StN value4_2 4 t43 <|
    LdN value4_2 4 fun r0 =>
    Q r0 true)
    (Ite found7_2
      (Nn n0_2 fun t47 =>
      Ld t47 Sl.val fun t49 =>
      Idx t49 i6_2 5 fun t51 =>
      LdN (t51.add 1) 4 fun t53 =>
      StN value4_2 4 t53 <|
      Dr <| WithS fun S =>
      LdS S t47 Sl.val fun t57 =>
      LdS S (t47.add 1) Sl.val fun t62 =>
      Idx t62 i6_2 1 fun t64 =>
      LdS S t64 Value.pointer fun t65 =>
      btree_node_string_api_Record_last.call t65 fun t66 =>
      Sv S <|
      Idx t57 i6_2 5 fun t67 =>
      StN t67 5 t66 <|
      btree_node_string_api_Record_mend.call (some t47) i6_2 <|
      LdN value4_2 4 fun t71 =>
      StN value4_2 4 t71 <|
      LdN value4_2 4 fun r0 =>
      Q r0 true)
      (Nn n0_2 fun t74 =>
      Ld (t74.add 1) Sl.val fun t76 =>
      Ite (decide ((0 : Int) < (t76.n : Int)))
        (Ld (t74.add 1) Sl.val fun t83 =>
        Idx t83 i6_2 1 fun t85 =>
        Ld t85 Value.pointer fun t86 =>
        btree_node_string_api_Record_take.call t86 key1_2 fun t88x0 t88x1 =>
        StN value4_2 4 t88x0 <|
        btree_node_string_api_Record_mend.call (some t74) i6_2 <|
        btree_node_string_api_Record_take.s1 Q value4_2 t88x1)
        (btree_node_string_api_Record_take.s1 Q value4_2 false)))
def btree_node_string_api_Record_take (n0 : (Option Addr)) (key1 : ByteArray) (Q : (Array Value) → Bool → K) : K :=
  New 57 #[(.bool false), (Sl.val ⟨none, 0, 0⟩), (.int .i64 0), (.int .u64 0)] fun value4 =>
  btree_node_string_api_Record_search.call n0 key1 fun t11x0 t11x1 =>
  Ite t11x1
    (Nn n0 fun t18 =>
    Ld (t18.add 1) Sl.val fun t20 =>
    btree_node_string_api_Record_take.s2 Q (some t18) key1 value4 t11x0 true (decide ((t20.n : Int) = 0)))
    (btree_node_string_api_Record_take.s2 Q n0 key1 value4 t11x0 false false)
theorem btree_node_string_api_Record_take_ok (n0 : (Option Addr)) (key1 : ByteArray) (Q : (Array Value) → Bool → K) (w : World) (h : btree_node_string_api_Record_take n0 key1 Q w) : btree_node_string_api_Record_take.call n0 key1 Q w := by
  have hJ14 : JH 14 fun D => ∃ (value4_1 : Addr), D [(4, (.pointer (some value4_1)))] (fun C => ∀ (ok5_1 : Bool), C [(4, (.pointer (some value4_1))), (5, (.bool ok5_1))] (btree_node_string_api_Record_take.s1 Q value4_1 ok5_1)) := by intros; exact ⟨fun _ ⟨_, h⟩ => ⟨_, _, h⟩⟩
  have hD8 : DH 8 2 [14] (.s [0, 1, 2, 4, 5, 6, 7, 9, 3, 8, 10, 11] (.a [(12, 1, .s [13] (.a [(14, 0, .e)]))])) := by intros; exact ⟨⟩
  have hJ3 : JH 3 fun D => ∃ (n0_2 : (Option Addr)) (key1_2 : ByteArray) (value4_2 : Addr) (i6_2 : Int), D [(0, (.pointer n0_2)), (1, (.string key1_2)), (4, (.pointer (some value4_2))), (6, (.int .i64 i6_2))] (fun C => ∀ (found7_2 : Bool) (t14_2 : Bool), C [(0, (.pointer n0_2)), (1, (.string key1_2)), (4, (.pointer (some value4_2))), (5, (.bool false)), (6, (.int .i64 i6_2)), (7, (.bool found7_2)), (14, (.bool t14_2))] (btree_node_string_api_Record_take.s2 Q n0_2 key1_2 value4_2 i6_2 found7_2 t14_2)) := by intros; exact ⟨fun _ ⟨_, _, _, _, h⟩ => ⟨_, _, h⟩⟩
  exact g_walk 96 h Tryz.func69
def btree_node_string_api_Record_put.s2 (Q : (Array Value) → Bool → (Option Addr) → (Option Addr) → K)  (old4_2 : Addr) (had5_2 : Bool) (right7_2 : Addr) (m12_2 : Addr) : K :=
  LdN old4_2 4 fun t153 =>
  StN old4_2 4 t153 <|
  LdN old4_2 4 fun r0 =>
  Q r0 had5_2 (some m12_2) (some right7_2)
def btree_node_string_api_Record_put.s1 (Q : (Array Value) → Bool → (Option Addr) → (Option Addr) → K)  (n0_1 : (Option Addr)) (old4_1 : Addr) (had5_1 : Bool) : K :=
  Nn n0_1 fun t101 =>
  Ld t101 Sl.val fun t103 =>
  Ite (decide ((t103.n : Int) ≤ 5))
    (LdN old4_1 4 fun t106 =>
    StN old4_1 4 t106 <|
    LdN old4_1 4 fun r0 =>
    Q r0 had5_1 none none)
    (Ld t101 Sl.val fun t111 =>
    Idx t111 2 5 fun t112 =>
    LdN t112 5 fun t113 =>
    New 131 #[(.string ⟨#[]⟩), (.bool false), (Sl.val ⟨none, 0, 0⟩), (.int .i64 0), (.int .u64 0)] fun m12 =>
    StN m12 5 t113 <|
    Ld t101 Sl.val fun t117 =>
    Slc t117 3 (t117.n : Int) (t117.c : Int) 5 fun t118 =>
    slices_Clone_s_btree_item_string_api_Record_btree_item_string_api_Record.call t118 fun t119 =>
    New 121 #[(Sl.val t119), (Sl.val ⟨none, 0, 0⟩)] fun t121 =>
    Ld t101 Sl.val fun t126 =>
    Slc t126 0 2 2 5 fun t127 =>
    St t101 (Sl.val t127) <|
    Ld (t101.add 1) Sl.val fun t133 =>
    Ite (decide ((0 : Int) < (t133.n : Int)))
      (Ld (t101.add 1) Sl.val fun t140 =>
      Slc t140 3 (t140.n : Int) (t140.c : Int) 1 fun t141 =>
      slices_Clone_s_btree_node_string_api_Record_btree_node_string_api_Record.call t141 fun t142 =>
      St (t121.add 1) (Sl.val t142) <|
      Ld (t101.add 1) Sl.val fun t149 =>
      Slc t149 0 3 3 1 fun t150 =>
      St (t101.add 1) (Sl.val t150) <|
      btree_node_string_api_Record_put.s2 Q old4_1 had5_1 t121 m12)
      (btree_node_string_api_Record_put.s2 Q old4_1 had5_1 t121 m12))
def btree_node_string_api_Record_put (n0 : (Option Addr)) (x1 : (Array Value)) (Q : (Array Value) → Bool → (Option Addr) → (Option Addr) → K) : K :=
  New 131 x1 fun x3 =>
  New 57 #[(.bool false), (Sl.val ⟨none, 0, 0⟩), (.int .i64 0), (.int .u64 0)] fun old4 =>
  Ld x3 Value.string fun t16 =>
  btree_node_string_api_Record_search.call n0 t16 fun t17x0 t17x1 =>
  Ite t17x1
    (Nn n0 fun t64 =>
    Ld t64 Sl.val fun t66 =>
    Idx t66 t17x0 5 fun t68 =>
    LdN (t68.add 1) 4 fun t70 =>
    StN old4 4 t70 <|
    Dr <|
    Ld t64 Sl.val fun t74 =>
    LdN (x3.add 1) 4 fun t77 =>
    Idx t74 t17x0 5 fun t78 =>
    StN (t78.add 1) 4 t77 <|
    LdN old4 4 fun t80 =>
    StN old4 4 t80 <|
    LdN old4 4 fun r0 =>
    Q r0 true none none)
    (Nn n0 fun t84 =>
    Ld (t84.add 1) Sl.val fun t86 =>
    Ite (decide ((t86.n : Int) = 0))
      (Dr <| WithS fun S =>
      LdS S t84 Sl.val fun t93 =>
      LdNS S x3 5 fun t95 =>
      Bld #[(.string ⟨#[]⟩), (.bool false), (Sl.val ⟨none, 0, 0⟩), (.int .i64 0), (.int .u64 0)] (fun i => some (i * 5, 5)) [(0, (.agg t95))] fun ct96 =>
      New 131 ct96 fun t96 =>
      Sv S <|
      slices_Insert_s_btree_item_string_api_Record_btree_item_string_api_Record.call t93 t17x0 (Sl.mk (some t96) 1 1) fun t97 =>
      St t84 (Sl.val t97) <|
      btree_node_string_api_Record_put.s1 Q (some t84) old4 false)
      (Dr <|
      Ld (t84.add 1) Sl.val fun t24 =>
      Idx t24 t17x0 1 fun t26 =>
      Ld t26 Value.pointer fun t27 =>
      LdN x3 5 fun t28 =>
      btree_node_string_api_Record_put.call t27 t28 fun t29x0 t29x1 t29x2 t29x3 =>
      StN old4 4 t29x0 <|
      Ite (!(t29x2).isNone)
        (Dr <| WithS fun S =>
        Nn t29x2 fun t43 =>
        LdS S t84 Sl.val fun t40 =>
        LdNS S t43 5 fun t44 =>
        Bld #[(.string ⟨#[]⟩), (.bool false), (Sl.val ⟨none, 0, 0⟩), (.int .i64 0), (.int .u64 0)] (fun i => some (i * 5, 5)) [(0, (.agg t44))] fun ct45 =>
        New 131 ct45 fun t45 =>
        Sv S <|
        slices_Insert_s_btree_item_string_api_Record_btree_item_string_api_Record.call t40 t17x0 (Sl.mk (some t45) 1 1) fun t46 =>
        St t84 (Sl.val t46) <|
        Ld (t84.add 1) Sl.val fun t53 =>
        Ar (IntKind.wrap .i64 (t17x0 + 1)) fun t55 =>
        New 108 #[(.pointer t29x3)] fun t57 =>
        slices_Insert_s_btree_node_string_api_Record_btree_node_string_api_Record.call t53 t55 (Sl.mk (some t57) 1 1) fun t58 =>
        St (t84.add 1) (Sl.val t58) <|
        btree_node_string_api_Record_put.s1 Q (some t84) old4 t29x1)
        (btree_node_string_api_Record_put.s1 Q (some t84) old4 t29x1)))
theorem btree_node_string_api_Record_put_ok (n0 : (Option Addr)) (x1 : (Array Value)) (Q : (Array Value) → Bool → (Option Addr) → (Option Addr) → K) (w : World) (h : btree_node_string_api_Record_put n0 x1 Q w) : btree_node_string_api_Record_put.call n0 x1 Q w := by
  have hJ22 : JH 22 fun D => ∃ (old4_2 : Addr) (right7_2 : Addr) (m12_2 : Addr), D [(4, (.pointer (some old4_2))), (7, (.pointer (some right7_2))), (12, (.pointer (some m12_2)))] (fun C => ∀ (had5_2 : Bool), C [(4, (.pointer (some old4_2))), (5, (.bool had5_2)), (7, (.pointer (some right7_2))), (12, (.pointer (some m12_2)))] (btree_node_string_api_Record_put.s2 Q old4_2 had5_2 right7_2 m12_2)) := by intros; exact ⟨fun _ ⟨_, _, _, h⟩ => ⟨_, _, h⟩⟩
  have hJ14 : JH 14 fun D => ∃ (n0_1 : (Option Addr)) (old4_1 : Addr), D [(0, (.pointer n0_1)), (4, (.pointer (some old4_1)))] (fun C => ∀ (had5_1 : Bool), C [(0, (.pointer n0_1)), (4, (.pointer (some old4_1))), (5, (.bool had5_1))] (btree_node_string_api_Record_put.s1 Q n0_1 old4_1 had5_1)) := by intros; exact ⟨fun _ ⟨_, _, h⟩ => ⟨_, _, h⟩⟩
  have hD10 : DH 10 1 [9] (.s [0, 1, 2, 4, 5, 3, 6, 7, 8] (.a [(9, 0, .e)])) := by intros; exact ⟨⟩
  have hD13 : DH 13 2 [8, 11] (.s [0, 1, 2, 3, 5, 4, 6] (.a [(7, 1, .a [(8, 0, .s [9, 10] (.a [(11, 0, .e)]))])])) := by intros; exact ⟨⟩
  have hD6 : DH 6 2 [10, 13] (.s [0, 1, 2, 3, 5, 6, 7, 4, 8] (.a [(9, 1, .a [(10, 0, .s [11, 12] (.a [(13, 0, .e)]))])])) := by intros; exact ⟨⟩
  have hD4 : DH 4 1 [8, 14] (.s [0, 1, 2, 4, 3, 5, 6, 7] (.a [(8, 0, .s [9, 10, 11, 12, 13] (.a [(14, 0, .s [15, 16, 17] .e)]))])) := by intros; exact ⟨⟩
  exact g_walk 156 h Tryz.func70
def btree_node_string_api_Record_search_1 (x0 : (Array Value)) (k1 : ByteArray) (Q : Int → K) : K :=
  New 131 x0 fun x2 =>
  Ld x2 Value.string fun t6 =>
  cmp_Compare_string.call t6 k1 fun t8 =>
  Q t8
theorem btree_node_string_api_Record_search_1_ok (x0 : (Array Value)) (k1 : ByteArray) (Q : Int → K) (w : World) (h : btree_node_string_api_Record_search_1 x0 k1 Q w) : btree_node_string_api_Record_search_1.call x0 k1 Q w := by
  exact g_walk 9 h Tryz.func83
def btree_node_string_api_Record_last (n0 : (Option Addr)) (Q : (Array Value) → K) : K :=
  New 131 #[(.string ⟨#[]⟩), (.bool false), (Sl.val ⟨none, 0, 0⟩), (.int .i64 0), (.int .u64 0)] fun t2 =>
  Nn n0 fun t7 =>
  Ld (t7.add 1) Sl.val fun t9 =>
  Ar (IntKind.wrap .i64 ((t9.n : Int) - 1)) fun t11 =>
  Ite (decide ((0 : Int) ≤ t11))
    (Ld (t7.add 1) Sl.val fun t17 =>
    Idx t17 t11 1 fun t19 =>
    Ld t19 Value.pointer fun t20 =>
    btree_node_string_api_Record_last.call t20 fun t21 =>
    New 131 #[(.string ⟨#[]⟩), (.bool false), (Sl.val ⟨none, 0, 0⟩), (.int .i64 0), (.int .u64 0)] fun x4 =>
    StN x4 5 t21 <|
    btree_node_string_api_Record_mend.call (some t7) t11 <|
    LdN x4 5 fun t25 =>
    StN t2 5 t25 <|
    LdN t2 5 fun r0 =>
    Q r0)
    (Dr <| WithS fun S =>
    LdS S t7 Sl.val fun t29 =>
    LdS S t7 Sl.val fun t33 =>
    Ar (IntKind.wrap .i64 ((t33.n : Int) - 1)) fun t35 =>
    Idx t29 t35 5 fun t36 =>
    LdNS S t36 5 fun t37 =>
    New 131 #[(.string ⟨#[]⟩), (.bool false), (Sl.val ⟨none, 0, 0⟩), (.int .i64 0), (.int .u64 0)] fun x5 =>
    Sv S <|
    StN x5 5 t37 <|
    Dr <|
    Ld t7 Sl.val fun t42 =>
    Ld t7 Sl.val fun t46 =>
    Ar (IntKind.wrap .i64 ((t46.n : Int) - 1)) fun t48 =>
    Slc t42 0 t48 (t42.c : Int) 5 fun t49 =>
    St t7 (Sl.val t49) <|
    LdN x5 5 fun t52 =>
    StN t2 5 t52 <|
    LdN t2 5 fun r0 =>
    Q r0)
theorem btree_node_string_api_Record_last_ok (n0 : (Option Addr)) (Q : (Array Value) → K) (w : World) (h : btree_node_string_api_Record_last n0 Q w) : btree_node_string_api_Record_last.call n0 Q w := by
  have hD7 : DH 7 1 [14] (.s [0, 1, 2, 3, 5, 6, 7, 4, 8, 9, 10, 11, 12, 13] (.a [(14, 0, .e)])) := by intros; exact ⟨⟩
  have hD6 : DH 6 2 [13] (.s [0, 1, 2, 4, 5, 6, 3, 7, 8, 9, 10, 11] (.a [(12, 1, .a [(13, 0, .e)])])) := by intros; exact ⟨⟩
  exact g_walk 53 h Tryz.func86
def btree_node_string_api_Record_mend.s2 (Q : K)  (n0_2 : Addr) (i1_2 : Int) (kid4_2 : Addr) (t202_2 : Bool) : K :=
  Ite t202_2
    (Ld (n0_2.add 1) Sl.val fun t229 =>
    Ar (IntKind.wrap .i64 (i1_2 + 1)) fun t231 =>
    Idx t229 t231 1 fun t232 =>
    Ld t232 Value.pointer fun t233 =>
    Dr <| WithS fun S =>
    LdS S kid4_2 Sl.val fun t238 =>
    LdS S n0_2 Sl.val fun t242 =>
    Idx t242 i1_2 5 fun t244 =>
    LdNS S t244 5 fun t245 =>
    Bld #[(.string ⟨#[]⟩), (.bool false), (Sl.val ⟨none, 0, 0⟩), (.int .i64 0), (.int .u64 0)] (fun i => some (i * 5, 5)) [(0, (.agg t245))] fun ct246 =>
    New 131 ct246 fun t246 =>
    Sv S <|
    Do Tryz.prog (Builtin.append_ #[118, 118] 118 #[(Sl.val t238), (Sl.val (Sl.mk (some t246) 1 1))]) Sl.val fun t247 =>
    St kid4_2 (Sl.val t247) <|
    Dr <|
    Nn t233 fun t256 =>
    Ld n0_2 Sl.val fun t253 =>
    Ld t256 Sl.val fun t258 =>
    Idx t258 0 5 fun t259 =>
    LdN t259 5 fun t260 =>
    Idx t253 i1_2 5 fun t261 =>
    StN t261 5 t260 <|
    Ld t256 Sl.val fun t266 =>
    slices_Delete_s_btree_item_string_api_Record_btree_item_string_api_Record.call t266 0 1 fun t267 =>
    St t256 (Sl.val t267) <|
    Ld (t256.add 1) Sl.val fun t273 =>
    Ite (decide ((0 : Int) < (t273.n : Int)))
      (Dr <| WithS fun S =>
      LdS S (kid4_2.add 1) Sl.val fun t280 =>
      LdS S (t256.add 1) Sl.val fun t284 =>
      Idx t284 0 1 fun t285 =>
      LdS S t285 Value.pointer fun t286 =>
      New 108 #[(.pointer t286)] fun t287 =>
      Sv S <|
      Do Tryz.prog (Builtin.append_ #[119, 119] 119 #[(Sl.val t280), (Sl.val (Sl.mk (some t287) 1 1))]) Sl.val fun t288 =>
      St (kid4_2.add 1) (Sl.val t288) <|
      Ld (t256.add 1) Sl.val fun t295 =>
      slices_Delete_s_btree_node_string_api_Record_btree_node_string_api_Record.call t295 0 1 fun t296 =>
      St (t256.add 1) (Sl.val t296) <|
      Q)
      (Q))
    (Ar (if (1 : Int) > i1_2 then 1 else i1_2) fun t18 =>
    Dr <|
    Ld (n0_2.add 1) Sl.val fun t22 =>
    Ar (IntKind.wrap .i64 (t18 - 1)) fun t24 =>
    Idx t22 t24 1 fun t25 =>
    Ld t25 Value.pointer fun t26 =>
    Ld (n0_2.add 1) Sl.val fun t30 =>
    Idx t30 t18 1 fun t32 =>
    Ld t32 Value.pointer fun t33 =>
    Dr <| WithS fun S =>
    Nn t26 fun t36 =>
    Ar (IntKind.wrap .i64 (t18 - 1)) fun t44 =>
    Nn t33 fun t50 =>
    LdS S t36 Sl.val fun t38 =>
    LdS S n0_2 Sl.val fun t42 =>
    Idx t42 t44 5 fun t45 =>
    LdNS S t45 5 fun t46 =>
    LdS S t50 Sl.val fun t52 =>
    Bld #[(.string ⟨#[]⟩), (.bool false), (Sl.val ⟨none, 0, 0⟩), (.int .i64 0), (.int .u64 0)] (fun i => some (i * 5, 5)) [(0, (.agg t46))] fun ct47 =>
    New 131 ct47 fun t47 =>
    Sv S <|
    Do Tryz.prog (Builtin.append_ #[118, 118] 118 #[(Sl.val t38), (Sl.val (Sl.mk (some t47) 1 1))]) Sl.val fun t48 =>
    Sv S <|
    Do Tryz.prog (Builtin.append_ #[118, 118] 118 #[(Sl.val t48), (Sl.val t52)]) Sl.val fun t53 =>
    St t36 (Sl.val t53) <|
    Dr <|
    Ld (t36.add 1) Sl.val fun t60 =>
    Ld (t50.add 1) Sl.val fun t64 =>
    Do Tryz.prog (Builtin.append_ #[119, 119] 119 #[(Sl.val t60), (Sl.val t64)]) Sl.val fun t65 =>
    St (t36.add 1) (Sl.val t65) <|
    Ld n0_2 Sl.val fun t72 =>
    Ar (IntKind.wrap .i64 (t18 - 1)) fun t74 =>
    slices_Delete_s_btree_item_string_api_Record_btree_item_string_api_Record.call t72 t74 t18 fun t76 =>
    St n0_2 (Sl.val t76) <|
    Ld (n0_2.add 1) Sl.val fun t83 =>
    Ar (IntKind.wrap .i64 (t18 + 1)) fun t86 =>
    slices_Delete_s_btree_node_string_api_Record_btree_node_string_api_Record.call t83 t18 t86 fun t87 =>
    St (n0_2.add 1) (Sl.val t87) <|
    Q)
def btree_node_string_api_Record_mend.s1 (Q : K)  (n0_1 : Addr) (i1_1 : Int) (kid4_1 : Addr) (t97_1 : Bool) : K :=
  Ite t97_1
    (Ld (n0_1.add 1) Sl.val fun t118 =>
    Ar (IntKind.wrap .i64 (i1_1 - 1)) fun t120 =>
    Idx t118 t120 1 fun t121 =>
    Ld t121 Value.pointer fun t122 =>
    Nn t122 fun t124 =>
    Ld t124 Sl.val fun t126 =>
    Ar (IntKind.wrap .i64 ((t126.n : Int) - 1)) fun t128 =>
    Dr <| WithS fun S =>
    Ar (IntKind.wrap .i64 (i1_1 - 1)) fun t139 =>
    LdS S kid4_1 Sl.val fun t133 =>
    LdS S n0_1 Sl.val fun t137 =>
    Idx t137 t139 5 fun t140 =>
    LdNS S t140 5 fun t141 =>
    Bld #[(.string ⟨#[]⟩), (.bool false), (Sl.val ⟨none, 0, 0⟩), (.int .i64 0), (.int .u64 0)] (fun i => some (i * 5, 5)) [(0, (.agg t141))] fun ct142 =>
    New 131 ct142 fun t142 =>
    Sv S <|
    slices_Insert_s_btree_item_string_api_Record_btree_item_string_api_Record.call t133 0 (Sl.mk (some t142) 1 1) fun t143 =>
    St kid4_1 (Sl.val t143) <|
    Dr <|
    Ar (IntKind.wrap .i64 (i1_1 - 1)) fun t151 =>
    Ld n0_1 Sl.val fun t149 =>
    Ld t124 Sl.val fun t155 =>
    Idx t155 t128 5 fun t157 =>
    LdN t157 5 fun t158 =>
    Idx t149 t151 5 fun t159 =>
    StN t159 5 t158 <|
    Ld t124 Sl.val fun t164 =>
    Slc t164 0 t128 (t164.c : Int) 5 fun t166 =>
    St t124 (Sl.val t166) <|
    Ld (t124.add 1) Sl.val fun t172 =>
    Ite (decide ((0 : Int) < (t172.n : Int)))
      (Dr <| WithS fun S =>
      Ar (IntKind.wrap .i64 (t128 + 1)) fun t185 =>
      LdS S (kid4_1.add 1) Sl.val fun t179 =>
      LdS S (t124.add 1) Sl.val fun t183 =>
      Idx t183 t185 1 fun t186 =>
      LdS S t186 Value.pointer fun t187 =>
      New 108 #[(.pointer t187)] fun t188 =>
      Sv S <|
      slices_Insert_s_btree_node_string_api_Record_btree_node_string_api_Record.call t179 0 (Sl.mk (some t188) 1 1) fun t189 =>
      St (kid4_1.add 1) (Sl.val t189) <|
      Ld (t124.add 1) Sl.val fun t196 =>
      Ar (IntKind.wrap .i64 (t128 + 1)) fun t198 =>
      Slc t196 0 t198 (t196.c : Int) 1 fun t199 =>
      St (t124.add 1) (Sl.val t199) <|
      Q)
      (Q))
    (Ar (IntKind.wrap .i64 (i1_1 + 1)) fun t204 =>
    Ld (n0_1.add 1) Sl.val fun t208 =>
    Ite (decide (t204 < (t208.n : Int)))
      (Ld (n0_1.add 1) Sl.val fun t215 =>
      Ar (IntKind.wrap .i64 (i1_1 + 1)) fun t217 =>
      Idx t215 t217 1 fun t218 =>
      Ld t218 Value.pointer fun t219 =>
      Nn t219 fun t220 =>
      Ld t220 Sl.val fun t222 =>
      btree_node_string_api_Record_mend.s2 Q n0_1 i1_1 kid4_1 (decide ((2 : Int) < (t222.n : Int))))
      (btree_node_string_api_Record_mend.s2 Q n0_1 i1_1 kid4_1 false))
def btree_node_string_api_Record_mend (n0 : (Option Addr)) (i1 : Int) (Q : K) : K :=
  Nn n0 fun t11 =>
  Ld (t11.add 1) Sl.val fun t13 =>
  Idx t13 i1 1 fun t15 =>
  Ld t15 Value.pointer fun t16 =>
  Nn t16 fun t92 =>
  Ld t92 Sl.val fun t94 =>
  Ite (decide ((2 : Int) ≤ (t94.n : Int)))
    (Q)
    (Ite (decide ((0 : Int) < i1))
      (Ld (t11.add 1) Sl.val fun t104 =>
      Ar (IntKind.wrap .i64 (i1 - 1)) fun t106 =>
      Idx t104 t106 1 fun t107 =>
      Ld t107 Value.pointer fun t108 =>
      Nn t108 fun t109 =>
      Ld t109 Sl.val fun t111 =>
      btree_node_string_api_Record_mend.s1 Q t11 i1 t92 (decide ((2 : Int) < (t111.n : Int))))
      (btree_node_string_api_Record_mend.s1 Q t11 i1 t92 false))
theorem btree_node_string_api_Record_mend_ok (n0 : (Option Addr)) (i1 : Int) (Q : K) (w : World) (h : btree_node_string_api_Record_mend n0 i1 Q w) : btree_node_string_api_Record_mend.call n0 i1 Q w := by
  have hD15 : DH 15 2 [14, 17] (.s [0, 1, 2, 3, 5, 6, 7, 9, 10, 4, 8, 11, 12] (.a [(13, 1, .a [(14, 0, .s [15, 16] (.a [(17, 0, .e)]))])])) := by intros; exact ⟨⟩
  have hD12 : DH 12 1 [14] (.s [0, 1, 2, 4, 5, 6, 7, 8, 10, 3, 9, 11, 12, 13] (.a [(14, 0, .e)])) := by intros; exact ⟨⟩
  have hD11 : DH 11 2 [14, 17] (.s [0, 1, 2, 3, 5, 6, 7, 9, 10, 4, 8, 11, 12] (.a [(13, 1, .a [(14, 0, .s [15, 16] (.a [(17, 0, .e)]))])])) := by intros; exact ⟨⟩
  have hD23 : DH 23 2 [12, 15] (.s [0, 1, 2, 3, 5, 6, 7, 4, 8, 9, 10] (.a [(11, 1, .a [(12, 0, .s [13, 14] (.a [(15, 0, .e)]))])])) := by intros; exact ⟨⟩
  have hD20 : DH 20 1 [12] (.s [0, 1, 2, 4, 5, 6, 7, 3, 8, 9, 10, 11] (.a [(12, 0, .e)])) := by intros; exact ⟨⟩
  have hD19 : DH 19 2 [13, 16] (.s [0, 1, 2, 3, 5, 6, 7, 9, 4, 8, 10, 11] (.a [(12, 1, .a [(13, 0, .s [14, 15] (.a [(16, 0, .e)]))])])) := by intros; exact ⟨⟩
  have hD4 : DH 4 1 [9, 12] (.s [0, 1, 2, 3, 5, 6, 7, 4, 8] (.a [(9, 0, .s [10, 11] (.a [(12, 0, .e)]))])) := by intros; exact ⟨⟩
  have hD3 : DH 3 2 [19, 22] (.s [0, 1, 2, 3, 5, 6, 7, 9, 10, 15, 16, 17, 4, 8, 11, 12, 18] (.a [(13, 1, .a [(14, 1, .a [(19, 0, .s [20, 21] (.a [(22, 0, .e)]))])])])) := by intros; exact ⟨⟩
  have hJ18 : JH 18 fun D => ∃ (n0_2 : Addr) (i1_2 : Int) (kid4_2 : Addr), D [(0, (.pointer (some n0_2))), (1, (.int .i64 i1_2)), (4, (.pointer (some kid4_2)))] (fun C => ∀ (t202_2 : Bool), C [(0, (.pointer (some n0_2))), (1, (.int .i64 i1_2)), (4, (.pointer (some kid4_2))), (202, (.bool t202_2))] (btree_node_string_api_Record_mend.s2 Q n0_2 i1_2 kid4_2 t202_2)) := by intros; exact ⟨fun _ ⟨_, _, _, h⟩ => ⟨_, _, h⟩⟩
  have hJ9 : JH 9 fun D => ∃ (n0_1 : Addr) (i1_1 : Int) (kid4_1 : Addr), D [(0, (.pointer (some n0_1))), (1, (.int .i64 i1_1)), (4, (.pointer (some kid4_1)))] (fun C => ∀ (t97_1 : Bool), C [(0, (.pointer (some n0_1))), (1, (.int .i64 i1_1)), (4, (.pointer (some kid4_1))), (97, (.bool t97_1))] (btree_node_string_api_Record_mend.s1 Q n0_1 i1_1 kid4_1 t97_1)) := by intros; exact ⟨fun _ ⟨_, _, _, h⟩ => ⟨_, _, h⟩⟩
  exact g_walk 299 h Tryz.func87
end Go.Proofs.YtinpgiafjjibnaaGreat
