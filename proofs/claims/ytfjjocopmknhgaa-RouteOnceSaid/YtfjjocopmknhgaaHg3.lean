/- The library's Insert, Delete and Clone on slices of one's own. Holds for every program. -/
import Derived.Test.YtfjjocopmknhgaaHg2
import Derived.Test.YtfjjocopmknhgaaStr
namespace Go.Sep
open Go Go.RowKit
set_option linter.unusedSimpArgs false
set_option linter.unusedVariables false

/-- slices.Insert, as it is printed. -/
def insK (P : Program) (T J R esz : Nat) (rot : Sl → Int → K → K) (s0 : Sl) (i1 : Int) (v2 : Sl) (Q : Sl → K) : K :=
  Slc s0 i1 (s0.n : Int) (s0.c : Int) esz fun _ =>
  Ite (decide ((v2.n : Int) = 0))
    (Q s0)
    (Ite (decide (i1 = (s0.n : Int)))
      (Do P (Builtin.append_ #[T, T] T #[(Sl.val s0), (Sl.val v2)]) Sl.val fun t25 =>
      Q t25)
      (Ar (IntKind.wrap .i64 ((s0.n : Int) + (v2.n : Int))) fun t28 =>
      Do P (Builtin.cap_ #[T] J #[(Sl.val s0)]) (Value.int .i64) fun t30 =>
      Ite (decide (t30 < t28))
        (Slc s0 0 i1 (s0.c : Int) esz fun t34 =>
        Ar (IntKind.wrap .i64 ((s0.n : Int) + (v2.n : Int))) fun t37 =>
        Ar (IntKind.wrap .i64 (t37 - i1)) fun t39 =>
        Do P (Builtin.append_ #[T, J] T #[(Sl.val t34), (.int .i64 t39)]) Sl.val fun t40 =>
        Slc t40 i1 (t40.n : Int) (t40.c : Int) esz fun t43 =>
        Do P (Builtin.copy_ #[T, T] J #[(Sl.val t43), (Sl.val v2)]) (Value.int .i64) fun t45 =>
        Dr <|
        Ar (IntKind.wrap .i64 (i1 + (v2.n : Int))) fun t49 =>
        Slc t40 t49 (t40.n : Int) (t40.c : Int) esz fun t50 =>
        Slc s0 i1 (s0.n : Int) (s0.c : Int) esz fun t53 =>
        Do P (Builtin.copy_ #[T, T] J #[(Sl.val t50), (Sl.val t53)]) (Value.int .i64) fun t54 =>
        Q t40)
        (Ar (IntKind.wrap .i64 ((s0.n : Int) + (v2.n : Int))) fun t59 =>
        Slc s0 0 t59 (s0.c : Int) esz fun t60 =>
        Ar (IntKind.wrap .i64 (i1 + (v2.n : Int))) fun t65 =>
        Slc t60 t65 (t60.n : Int) (t60.c : Int) esz fun t66 =>
        Rd P (Extern.SlicesOverlaps.overlaps #[T, T] #[R] [(Sl.val v2), (Sl.val t66)].toArray) Value.bool fun t67 =>
        Ite (!t67)
          (Dr <|
          Ar (IntKind.wrap .i64 (i1 + (v2.n : Int))) fun t72 =>
          Slc t60 t72 (t60.n : Int) (t60.c : Int) esz fun t73 =>
          Slc t60 i1 (t60.n : Int) (t60.c : Int) esz fun t76 =>
          Do P (Builtin.copy_ #[T, T] J #[(Sl.val t73), (Sl.val t76)]) (Value.int .i64) fun t77 =>
          Slc t60 i1 (t60.n : Int) (t60.c : Int) esz fun t80 =>
          Do P (Builtin.copy_ #[T, T] J #[(Sl.val t80), (Sl.val v2)]) (Value.int .i64) fun t82 =>
          Q t60)
          (Slc t60 (s0.n : Int) (t60.n : Int) (t60.c : Int) esz fun t86 =>
          Do P (Builtin.copy_ #[T, T] J #[(Sl.val t86), (Sl.val v2)]) (Value.int .i64) fun t88 =>
          Slc t60 i1 (t60.n : Int) (t60.c : Int) esz fun t91 =>
          rot t91 (v2.n : Int) <|
          Q t60))))
/-- slices.Delete, as it is printed. -/
def delK (P : Program) (T Z esz : Nat) (s0 : Sl) (i1 j2 : Int) (Q : Sl → K) : K :=
  Slc s0 i1 j2 (s0.n : Int) esz fun _ =>
  Ite (decide (i1 = j2))
    (Q s0)
    (Dr <|
    Slc s0 0 i1 (s0.c : Int) esz fun t22 =>
    Slc s0 j2 (s0.n : Int) (s0.c : Int) esz fun t25 =>
    Do P (Builtin.append_ #[T, T] T #[(Sl.val t22), (Sl.val t25)]) Sl.val fun t26 =>
    Slc t26 (t26.n : Int) (s0.n : Int) (t26.c : Int) esz fun t31 =>
    Do P (Builtin.clear_ #[T] Z #[(Sl.val t31)]) id fun _ =>
    Q t26)
/-- slices.Clone, as it is printed. -/
def cloneK (P : Program) (E T : Nat) (s0 : Sl) (Q : Sl → K) : K :=
  Ite ((s0).a.isNone)
    (Q (Sl.mk none 0 0))
    (New E #[] fun t5 =>
    Do P (Builtin.append_ #[T, T] T #[(Sl.val (Sl.mk (some t5) 0 0)), (Sl.val s0)]) Sl.val fun t7 =>
    Q t7)

theorem layAt_mid {A X C us : List Value} {p : Nat} (hp : p = A.length) (h : X.length = us.length) : layAt (A ++ (X ++ C)) p us = A ++ (us ++ C) := by
  subst hp
  simp only [layAt, List.take_left, List.append_assoc, List.append_cancel_left_eq]
  rw [← h, List.drop_append, List.drop_eq_nil_of_le (by omega), List.nil_append, show A.length + X.length - A.length = X.length by omega, List.drop_left]

section
variable {P : Program} {B w : World} {Γ Δ Δ2 : List HProp} {E esz : Nat} {s x : Sl} {vs us : List Value}

theorem s_ovl {T R t l : Nat} {d : Sl} {cs : List Value} {k : Bool → K} (hd : d = ⟨cutA s.a l s.c esz, s.n - l, s.c - l⟩) (h : HG B Γ (k false)) [p : OwnS s Γ (SlC E esz s vs) Δ] [q : Own t Δ (blk t (.cells cs.toArray E (0, 0))) Δ2] (hc : 0 < s.c) (he : 0 < esz) (hT : appT P T T E esz = true) :
    HG B Γ (Rd P (Extern.SlicesOverlaps.overlaps #[T, T] #[R] [(Sl.val ⟨some ⟨t, 0, none⟩, 1, 1⟩), (Sl.val d)].toArray) Value.bool k) := fun w hw => by
  obtain ⟨hs1, _⟩ := appT_spec hT
  obtain ⟨hsl, hsz⟩ := sliceT_spec hs1
  obtain ⟨_, _, hsp, hnil⟩ := own_cap hw p
  have h1 := hw.perm (p.perm.trans (q.perm.cons _))
  cases ha : s.a with
  | none => have := hnil ha; omega
  | some a =>
    obtain ⟨cs2, fz, h2, _, _, hsz2, _, _, _⟩ := slOpen h1 ha
    have hb2 := h2.block
    have hb1 := h2.swap.block
    have hne := h2.swap.apart
    obtain ⟨b, off, sp⟩ := a
    have hsp' := hsp _ ha
    simp only at hsp'; subst hsp'
    simp only at hb2 hne hsz2
    have hmul : 0 < s.c * esz := Nat.mul_pos hc he
    refine ⟨false, ?_, h w hw⟩
    have hcut : ∃ o, cutA s.a l s.c esz = some ⟨b, o, none⟩ := by
      rw [ha]; unfold cutA
      split
      · exact ⟨_, rfl⟩
      · exact ⟨_, by simp only [Option.map_some, add_mk]; rfl⟩
    obtain ⟨o, ho⟩ := hcut
    subst hd
    simp only [Sl.val, ho]
    exact Go.Lib.run_overlaps_apart w T R E hsl esz (fun w => sizeT_spec hsz) ⟨t, 0, none⟩ ⟨b, o, none⟩ 1 1 _ _ hne E E cs.toArray.size cs2.size (by simp [World.shape?, hb1]) (by simp [World.shape?, hb2]) (by omega) (by simp [World.frozen?, hb1]) (by simp [World.frozen?, hb1])

theorem blk_rd {t : Nat} {cs : List Value} {T : TypeId} {k : Nat} (he : cs.length = esz) [q : Own t Γ (blk t (.cells cs.toArray T (0, 0))) Δ] : ∀ w, Holds B Γ w → RdC w ⟨some ⟨t, 0, none⟩, 1, k⟩ esz cs := fun w hw =>
  RdC.of_blk (E := T) (hw.perm q.perm) List.mem_cons_self (by simp) (by simpa using he) k
theorem flat_take {n : Nat} (h : ∀ v ∈ vs, flatV v = true) : ∀ v ∈ vs.take n, flatV v = true := fun v hv => h v (List.mem_of_mem_take hv)
theorem flat_drop {n : Nat} (h : ∀ v ∈ vs, flatV v = true) : ∀ v ∈ vs.drop n, flatV v = true := fun v hv => h v (List.mem_of_mem_drop hv)
theorem cutA_spot {a : Option Addr} {l m : Nat} (h : ∀ b, a = some b → b.spot = none) : ∀ b, cutA a l m esz = some b → b.spot = none := fun b hb => by
  unfold cutA at hb
  split at hb
  · exact h b hb
  · cases ha : a with
    | none => rw [ha] at hb; cases hb
    | some c =>
      rw [ha] at hb
      obtain ⟨cb, co, cs⟩ := c
      have := h _ ha
      simp only at this; subst this
      simp only [Option.map_some, add_mk, Option.some.injEq] at hb
      rw [← hb]
/-- One more among a slice's elements. -/
theorem s_ins {T J R i t : Nat} {rot : Sl → Int → K → K} {Q : Sl → K} (hi : i ≤ s.n) (hn : s.n < 50000000) (he : us.length = esz) (he0 : 0 < esz) (hvf : ∀ v ∈ vs, flatV v = true) (huf : ∀ v ∈ us, flatV v = true)
    (h : ∀ s', s'.n = s.n + 1 → HG B (SlC E esz s' (vs.take (i * esz) ++ us ++ vs.drop (i * esz)) :: Δ2) (Q s')) [p : OwnS s Γ (SlC E esz s vs) Δ] [q : Own t Δ (blk t (.cells us.toArray E (0, 0))) Δ2] (hT : appT P T T E esz = true) (hJ : apZT P T J E esz = true) :
    HG B Γ (insK P T J R esz rot s i ⟨some ⟨t, 0, none⟩, 1, 1⟩ Q) := by
  refine fun w hw => ?_
  refine hg (hw.perm (p.perm.trans (q.perm.cons _))) ?_
  clear hw w p q
  refine s_cap s fun h1 h2 h3 h4 => ?_
  unfold insK
  dsimp only
  refine s_slc (lo := i) (hi := s.n) (mx := s.c) ?_
  refine s_f ?_
  refine s_ite (fun hb => ?_) fun hb => ?_
  · have hin : i = s.n := by simp only [decide_eq_true_eq] at hb; omega
    refine s_append (us := us) (blk_rd he) huf (by simp only; omega) (hT := hT) fun s' hs' => ?_
    have e1 : vs.take (i * esz) = vs := List.take_of_length_le (by rw [h1, hin]; exact Nat.le_refl _)
    have e2 : vs.drop (i * esz) = [] := List.drop_eq_nil_of_le (by rw [h1, hin]; exact Nat.le_refl _)
    have h5 := h s' (by simpa using hs')
    rw [e1, e2, List.append_nil] at h5
    exact s_end (Δ := SlC E esz s' (vs ++ us) :: Δ2) h5
  have hin : i < s.n := by simp only [decide_eq_false_iff_not] at hb; omega
  have hsa : ∃ a, s.a = some a := by
    cases ha : s.a with
    | none => have := h4 ha; omega
    | some a => exact ⟨a, rfl⟩
  have hle : i * esz ≤ s.n * esz := Nat.mul_le_mul_right _ hi
  have hle1 : (i + 1) * esz ≤ s.n * esz := Nat.mul_le_mul_right _ hin
  have hx1 : (s.n + 1) * esz = s.n * esz + esz := by rw [Nat.add_mul, Nat.one_mul]
  have hx2 : (i + 1) * esz = i * esz + esz := by rw [Nat.add_mul, Nat.one_mul]
  have hx3 : (s.n + 1 - i) * esz = s.n * esz + esz - i * esz := by rw [Nat.sub_mul, hx1]
  have hx4 : (s.n + 1 - (i + 1)) * esz = s.n * esz - i * esz := by rw [show s.n + 1 - (i + 1) = s.n - i by omega, Nat.sub_mul]
  have hvs : vs = vs.take (i * esz) ++ vs.drop (i * esz) := (List.take_append_drop _ _).symm
  have hA : (vs.take (i * esz)).length = i * esz := take_mul h1 hi
  have hC : (vs.drop (i * esz)).length = s.n * esz - i * esz := by rw [List.length_drop, h1]
  have hvfa := flat_take (n := i * esz) hvf
  have hvfc := flat_drop (n := i * esz) hvf
  refine s_ai ?_
  refine cap_run hT ?_
  refine s_ite (fun hb => ?_) fun hb => ?_
  · have hgrow : s.c < s.n + 1 := by simp only [decide_eq_true_eq] at hb; omega
    refine s_slc (lo := 0) (hi := i) (mx := s.c) ?_
    refine s_ai ?_
    refine s_ai ?_
    rw [cut0 h3]
    have hm : ∀ z : Nat, z = 1 → ((s.n : Int) + (z : Int) - i).toNat = s.n + 1 - i := by omega
    refine s_appZ (s := ⟨s.a, i - 0, s.c - 0⟩) (vs := vs.take (i * esz)) (by omega) (by simp only; omega) (by simp only; omega) (fun s' zs hs' hz hzf => ?_) (fun w hw => (own_rd hw (p := ownS_sl)).1.take (by omega)) (by simp only; omega) (hT := hJ)
    simp only [Nat.sub_zero] at hs'
    have hs'n : s'.n = s.n + 1 := by have := hm _ rfl; omega
    refine s_cap s' fun h5 h6 h7 h8 => ?_
    refine s_slc (lo := i) (hi := s'.n) (mx := s'.c) ?_
    rw [hm _ rfl] at hz hs'
    refine s_copy (s := s') (l := i) (us := us) (blk_rd he) (flat_take huf) rfl (by omega) (hT := hT) ?_
    refine s_dr ?_
    refine s_ai ?_
    refine s_slc (lo := i + 1) (hi := s'.n) (mx := s'.c) ?_
    refine s_slc (lo := i) (hi := s.n) (mx := s.c) ?_
    refine s_copy (s := s') (l := i + 1) (us := vs.drop (i * esz)) (fun w hw => (own_rd (s := s) hw).1.drop hi h2 h3) (flat_take hvfc) rfl (by omega) (hT := hT) ?_
    have e : layAt (layAt (vs.take (i * esz) ++ zs) (i * esz) (us.take ((s'.n - i) * esz))) ((i + 1) * esz) ((vs.drop (i * esz)).take ((s'.n - (i + 1)) * esz)) = vs.take (i * esz) ++ us ++ vs.drop (i * esz) := by
      rw [hs'n, hx3, hx4, List.take_of_length_le (l := us) (by omega), List.take_of_length_le (l := vs.drop (i * esz)) (by omega)]
      have hz2 : zs = zs.take esz ++ (zs.drop esz ++ []) := by simp
      rw [hz2, layAt_mid hA.symm (by rw [List.length_take, hz]; omega), ← List.append_assoc, layAt_mid (by rw [List.length_append, hA]; omega) (by rw [List.length_drop, hz, hC, hx3]; omega)]
      simp
    rw [e]
    exact s_end (h s' hs'n)
  · have hroom : s.n + 1 ≤ s.c := by simp only [decide_eq_false_iff_not] at hb; omega
    refine s_ai ?_
    refine s_slc (lo := 0) (hi := s.n + 1) (mx := s.c) ?_
    rw [cut0 h3]
    refine s_ext (s := s) (m := 1) hroom fun js hj => ?_
    simp only [Nat.sub_zero]
    generalize hs' : (⟨s.a, s.n + 1, s.c⟩ : Sl) = s'
    have hs'n : s'.n = s.n + 1 := by rw [← hs']
    have hs'c : s'.c = s.c := by rw [← hs']
    have hsp' : ∀ a, s'.a = some a → a.spot = none := by rw [← hs']; exact h3
    refine s_ai ?_
    refine s_slc (lo := i + 1) (hi := s'.n) (mx := s'.c) ?_
    refine s_ovl (s := s') rfl ?_ (by omega) he0 hT
    refine s_t ?_
    refine s_dr ?_
    refine s_ai ?_
    refine s_slc (lo := i + 1) (hi := s'.n) (mx := s'.c) ?_
    refine s_slc (lo := i) (hi := s'.n) (mx := s'.c) ?_
    have hjf : ∀ v ∈ ((vs ++ js).drop (i * esz)).take ((s'.n - (i + 1)) * esz), flatV v = true := fun v hv => by
      rw [List.drop_append_of_le_length (by omega), hs'n, hx4, ← hC, List.take_left] at hv
      exact hvfc v hv
    refine s_cap s' fun h5 h6 h7 h8 => ?_
    refine s_copy (s := s') (l := i + 1) (us := (vs ++ js).drop (i * esz)) (fun w hw => (own_rd (s := s') hw).1.drop (by omega) h6 h7) hjf rfl (by omega) (hT := hT) ?_
    refine s_slc (lo := i) (hi := s'.n) (mx := s'.c) ?_
    refine s_copy (s := s') (l := i) (us := us) (blk_rd he) (flat_take huf) rfl (by omega) (hT := hT) ?_
    have e : layAt (layAt (vs ++ js) ((i + 1) * esz) (((vs ++ js).drop (i * esz)).take ((s'.n - (i + 1)) * esz))) (i * esz) (us.take ((s'.n - i) * esz)) = vs.take (i * esz) ++ us ++ vs.drop (i * esz) := by
      rw [List.drop_append_of_le_length (by omega), hs'n, hx4, ← hC, List.take_left, hx3, List.take_of_length_le (l := us) (by omega)]
      generalize hAA : vs.take (i * esz) = A at *
      generalize hCC : vs.drop (i * esz) = C at *
      have e1 : vs ++ js = (A ++ (C ++ js).take esz) ++ ((C ++ js).drop esz ++ []) := by rw [hvs]; simp
      rw [e1, layAt_mid (by rw [List.length_append, hA, List.length_take, List.length_append]; omega) (by rw [List.length_drop, List.length_append]; omega), List.append_assoc, layAt_mid hA.symm (by rw [List.length_take, List.length_append]; omega)]
      simp
    rw [e]
    exact s_end (h s' hs'n)

/-- Some elements of a slice go. -/
theorem s_del {T Z i j : Nat} {Q : Sl → K} (hij : i < j) (hj : j ≤ s.n) (hn : s.n < 50000000) (hvf : ∀ v ∈ vs, flatV v = true)
    (h : ∀ s', s'.n = s.n - (j - i) → HG B (SlC E esz s' (vs.take (i * esz) ++ vs.drop (j * esz)) :: Δ) (Q s')) [p : OwnS s Γ (SlC E esz s vs) Δ] (hT : appT P T T E esz = true) :
    HG B Γ (delK P T Z esz s i j Q) := by
  refine fun w hw => ?_
  refine hg (hw.perm p.perm) ?_
  clear hw w p
  refine s_cap s fun h1 h2 h3 h4 => ?_
  unfold delK
  refine s_slc (lo := i) (hi := j) (mx := s.n) ?_
  refine s_f ?_
  refine s_dr ?_
  refine s_slc (lo := 0) (hi := i) (mx := s.c) ?_
  refine s_slc (lo := j) (hi := s.n) (mx := s.c) ?_
  rw [cut0 h3]
  intro w hw
  have hx : RdC w ⟨cutA s.a j s.c esz, s.n - j, s.c - j⟩ esz (vs.drop (j * esz)) := (own_rd (s := s) hw).1.drop hj h2 h3
  obtain ⟨g1, g2, by', zv, g3, g4, g5, g6, g7, _⟩ := appT_spec hT
  refine hg (k := fun w => RdC w ⟨cutA s.a j s.c esz, s.n - j, s.c - j⟩ esz (vs.drop (j * esz)) → Do P _ _ _ w) hw (s_shrink (s := s) (m := i) (c' := s.c) (by omega) (by omega) (Nat.le_refl _) fun w hw hx => ?_) hx
  have hroom : (2 * (i + (s.n - j)) + 800) * by' ≤ 2 ^ 48 := by
    have h8 : (2 * (i + (s.n - j)) + 800) * by' ≤ 200000800 * 1000 := Nat.mul_le_mul (by omega) g4
    omega
  obtain ⟨s', w', hr, hh, hn', hsome, hin⟩ := run_append (Tr := T) hw g1 g2 g3 g6 g7 hx (flat_drop hvf) hroom g5
  simp only at hn'
  refine ⟨s', w', by simpa using hr, hg hh ?_⟩
  have hs' := hin (by simp only; omega)
  have hc' : s'.c = s.c := by rw [hs']
  simp only [Nat.sub_zero] at hn' hs' ⊢
  refine s_slc (lo := s'.n) (hi := s.n) (mx := s'.c) ?_
  refine s_clear (s := s') (l := s'.n) (q := s.n - s'.n) (m := s'.c) rfl (Nat.le_refl _) (by omega) (.inr (by omega)) ?_ (hT := hT)
  exact h s' (by omega)
theorem s_clone0 {T : Nat} {Q : Sl → K} (hx : ∀ w, Holds B Γ w → RdC w s esz us) (hfl : ∀ u ∈ us, flatV u = true) (hroom : s.n ≤ 100000000) (h : ∀ s', s'.n = s.n → HG B (SlC E esz s' us :: Γ) (Q s')) (hT : appT P T T E esz = true) :
    HG B Γ (cloneK P E T s Q) := by
  unfold cloneK
  refine fun w hw => ?_
  refine hg hw ?_
  have hr := hx w hw
  refine s_ite (fun hb => ?_) fun hb => ?_
  · have hn := hr.nil (by simpa using hb)
    have hl := hr.len
    rw [hn, Nat.zero_mul] at hl
    have : us = [] := List.length_eq_zero_iff.1 hl
    subst this
    intro w hw
    exact h ⟨none, 0, 0⟩ hn.symm w (hw.nilSl E esz)
  · exact s_clone hx hfl hroom h (hT := hT)
end

/-! ### loops and calls -/
section
variable {P : Program} {B w : World} {Γ Δ : List HProp} {k : K}
theorem least {p : Nat → Prop} (h : ∃ n, p n) : ∃ n, p n ∧ ∀ m, p m → n ≤ m := by
  obtain ⟨n, hn⟩ := h
  induction n using Nat.strongRecOn with
  | ind n ih =>
    by_cases h : ∃ m, m < n ∧ p m
    · obtain ⟨m, h1, h2⟩ := h; exact ih m h1 h2
    · exact ⟨n, hn, fun m hm => Nat.le_of_not_lt fun h2 => h ⟨m, h2, hm⟩⟩
/-- A loop: what is owned, and how much is left to do, may hang on what no value tells. -/
theorem s_loop {α ι : Type} {body : (α → K) → α → K} {x : α} (J : α → ι → Prop) (Γf : α → ι → List HProp) (m : α → ι → Nat) (i : ι) (h0 : J x i)
    (h : ∀ (k' : α → K) x i, J x i → (∀ x' i', J x' i' → m x' i' < m x i → HG B (Γf x' i') (k' x')) → HG B (Γf x i) (body k' x)) (hΓ : Γf x i = Γ := by rfl) : HG B Γ (LoopK body x) := fun w hw => by
  subst hΓ
  let I : α → World → Prop := fun x w => ∃ i, J x i ∧ Holds B (Γf x i) w
  let p : α → World → Nat → Prop := fun x w n => ∃ i, J x i ∧ Holds B (Γf x i) w ∧ m x i = n
  have hp : ∀ x w, I x w → ∃ n, p x w n := fun x w ⟨i, h1, h2⟩ => ⟨_, i, h1, h2, rfl⟩
  let μ : α → World → Nat := fun x w => @dite _ (I x w) (Classical.propDecidable _) (fun h => Classical.choose (least (hp x w h))) fun _ => 0
  have hμ : ∀ x w (h : I x w), p x w (μ x w) ∧ ∀ n, p x w n → μ x w ≤ n := fun x w h => by
    have := Classical.choose_spec (least (hp x w h))
    simpa [μ, h] using this
  refine LoopK.of I μ ⟨i, h0, hw⟩ fun x w hI => ?_
  obtain ⟨i, hj, hw, hm⟩ := (hμ x w hI).1
  refine h _ x i hj (fun x' i' hj' hlt w' hw' => ⟨⟨i', hj', hw'⟩, ?_⟩) w hw
  have := (hμ x' w' ⟨i', hj', hw'⟩).2 _ ⟨i', hj', hw', rfl⟩
  omega
/-- A loop that leaves what is owned. -/
theorem s_loopC {α : Type} {body : (α → K) → α → K} {x : α} (J : α → Prop) (m : α → Nat) (h0 : J x)
    (h : ∀ (k' : α → K) x, J x → (∀ x', J x' → m x' < m x → HG B Γ (k' x')) → HG B Γ (body k' x)) : HG B Γ (LoopK body x) :=
  s_loop (ι := Unit) (fun x _ => J x) (fun _ _ => Γ) (fun x _ => m x) () h0 fun k' x _ hj hk => h k' x hj fun x' hj' hm => hk x' () hj' hm
theorem s_all1 {x : K} (h : HG B Γ x) : HG B Γ (All [x]) := fun w hw => all_cons (h w hw) all_nil
theorem s_all2 {x y : K} (h1 : HG B Γ x) (h2 : HG B Γ y) : HG B Γ (All [x, y]) := fun w hw => all_cons (h1 w hw) (all_cons (h2 w hw) all_nil)
theorem s_callv {g : Nat} {args : List Value} {k : Value → K} (h : HG B Γ (CallF P g args.toArray k)) (hc : callable P g = true := by kernel_rfl) : HG B Γ (CallV P (.func (.func g) #[] #[]) args k) := fun w hw =>
  ⟨g, #[], #[], rfl, hc, by have := h w hw; simpa [CallF] using this⟩
theorem s_callvC {g : Nat} {args cs : List Value} {k : Value → K} (h : HG B Γ (CallF P g (args ++ cs).toArray k)) (hc : callable P g = true := by kernel_rfl) : HG B Γ (CallV P (.func (.func g) #[] cs.toArray) args k) := fun w hw =>
  ⟨g, #[], cs.toArray, rfl, hc, by have := h w hw; simpa [CallF] using this⟩
end

abbrev bs (l : List UInt8) : ByteArray := ⟨l.toArray⟩
abbrev strV (l : List UInt8) : Value := .string (bs l)
theorem bs_of (b : ByteArray) : ∃ l, b = bs l := ⟨b.data.toList, by simp [bs]⟩
theorem bs_list (l : List UInt8) : (bs l).toList = l := by simp
theorem bytesLess_dec : ∀ (x y : List UInt8), Op.bytesLess x y = decide (x < y)
  | [], [] => by simp [Op.bytesLess]
  | _ :: _, [] => by simp [Op.bytesLess]
  | [], _ :: _ => by simp [Op.bytesLess]
  | a :: x, b :: y => by
    rw [Op.bytesLess, bytesLess_dec x y]
    simp only [List.cons_lt_cons_iff]
    by_cases h1 : a < b <;> by_cases h2 : a = b <;> by_cases h3 : x < y <;> simp [h1, h2, h3]
theorem gt_dec (x y : List UInt8) : (!(Op.bytesLess x y || x == y)) = decide (y < x) := by
  rw [bytesLess_dec]
  by_cases h1 : x < y
  · have : ¬ y < x := fun h => List.lt_irrefl x (List.lt_trans h1 h)
    simp [h1, this]
  · by_cases h2 : x = y
    · subst h2; simp [h1]
    · have h3 : y < x := by
        have h4 : y ≤ x := by rw [← List.not_lt]; exact h1
        rcases List.le_iff_lt_or_eq.1 h4 with h5 | h5
        · exact h5
        · exact absurd h5.symm h2
      simp [h1, h2, h3]

section
variable {B w : World} {Γ Δ : List HProp} {k : K} {α : Type} {F : α → HProp} {A C : List α} {x : α}
theorem mid_perm : (((A ++ x :: C).map F) ++ Γ).Perm (((A ++ C).map F) ++ F x :: Γ) := by
  have h2 : ((A ++ x :: C).map F).Perm (F x :: (A ++ C).map F) := (List.perm_middle (a := x) (l₁ := A) (l₂ := C)).map _
  refine (h2.append_right Γ).trans ?_
  exact (List.perm_middle (a := F x) (l₁ := (A ++ C).map F) (l₂ := Γ)).symm
/-- One among several. -/
theorem s_mid (h : HG B (F x :: Sep.stars ((A ++ C).map F) :: Γ) k) : HG B (Sep.stars ((A ++ x :: C).map F) :: Γ) k := fun w hw =>
  h w (Holds.flat.2 ((Holds.flat.1 hw).perm mid_perm)).swap
theorem s_unmid (h : HG B (Sep.stars ((A ++ x :: C).map F) :: Γ) k) : HG B (F x :: Sep.stars ((A ++ C).map F) :: Γ) k := fun w hw =>
  h w (Holds.flat.2 ((Holds.flat.1 hw.swap).perm mid_perm.symm))
end

/-! ### a place is searched -/
/-- slices.BinarySearchFunc, as it is printed. -/
def bsK (P : Program) (esz : Nat) (x0 : Sl) (tv : Value) (cmp2 : Value) (Q : Int → Bool → K) : K :=
  LoopK (α := Int × Int) (fun X x =>
    Ite (decide (x.1 < x.2))
      (Ar (IntKind.wrap .i64 (x.1 + x.2)) fun t20 =>
      Ar (IntKind.wrap .u64 t20) fun t21 =>
      Cd (0 ≤ (1 : Int)) <|
      Ar (shrOf .u64 t21 1) fun t22 =>
      Ar (IntKind.wrap .i64 t22) fun t23 =>
      Idx x0 t23 esz fun t27 =>
      LdN t27 esz fun t28 =>
      CallV P cmp2 [(.agg t28), tv] <| Ans1 (fun (t30 : Int) => (Value.int .i64) t30) fun t30 =>
      Ite (decide (t30 < 0))
        (Ar (IntKind.wrap .i64 (t23 + 1)) fun t33 =>
        X (t33, x.2))
        (X (x.1, t23)))
      (Ite (decide (x.1 < (x0.n : Int)))
        (Idx x0 x.1 esz fun t43 =>
        LdN t43 esz fun t44 =>
        CallV P cmp2 [(.agg t44), tv] <| Ans1 (fun (t46 : Int) => (Value.int .i64) t46) fun t46 =>
        Q x.1 (decide (t46 = 0)))
        (Q x.1 false))) (0, (x0.n : Int))

section
variable {P : Program} {B w : World} {Γ Δ : List HProp}
theorem flatMap_el {α : Type} {f : α → List Value} {esz : Nat} (hf : ∀ x, (f x).length = esz) : ∀ {L : List α} {i : Nat} {x : α}, L[i]? = some x → ((L.flatMap f).drop (i * esz)).take esz = f x
  | [], i, x, h => by simp at h
  | a :: L, 0, x, h => by
    simp only [List.getElem?_cons_zero, Option.some.injEq] at h
    subst h
    simp only [Nat.zero_mul, List.drop_zero, List.flatMap_cons]
    rw [← hf a, List.take_left]
  | a :: L, i + 1, x, h => by
    simp only [List.getElem?_cons_succ] at h
    rw [List.flatMap_cons, Nat.add_mul, Nat.one_mul, Nat.add_comm, ← List.drop_drop, ← hf a, List.drop_left]
    rw [hf a]
    exact flatMap_el hf h
theorem flatMap_off {α : Type} {f : α → List Value} {esz : Nat} (hf : ∀ x, (f x).length = esz) {L : List α} {i off : Nat} {x : α} (h : L[i]? = some x) (ho : off < esz) : (L.flatMap f)[i * esz + off]? = (f x)[off]? := by
  rw [← flatMap_el hf h, List.getElem?_take, if_pos ho, List.getElem?_drop]
/-- An element of a slice that is read: not one's own, or one's own. -/
theorem s_idxN {α : Type} (f : α → List Value) {esz : Nat} {L : List α} {s : Sl} {j : Nat} {jj : Int} {x : α} {k : Array Value → K} (hf : ∀ x, (f x).length = esz) (hr : ∀ w, Holds B Γ w → RdC w s esz (L.flatMap f)) (hx : L[j]? = some x) (h : HG B Γ (k (f x).toArray)) (hj : jj = (j : Int) := by first | rfl | omega) (he : 0 < esz := by omega) :
    HG B Γ (Idx s jj esz fun t => LdN t esz k) := fun w hw => by subst hj; exact r_idxN f hf he (hr w hw) hx rfl fun t => h w hw
theorem rd_len {α : Type} {f : α → List Value} {esz : Nat} {L : List α} {s : Sl} (hf : ∀ x, (f x).length = esz) (he : 0 < esz) (hr : RdC w s esz (L.flatMap f)) : s.n = L.length := by
  have := hr.len
  rw [flatMap_len f esz hf] at this
  exact (Nat.eq_of_mul_eq_mul_right he this).symm
/-- The place of a key among a slice's elements. -/
theorem s_bs {α : Type} {f : α → List Value} {esz E : Nat} {s : Sl} {L : List α} {c : α → Int} {tv cv : Value} {Q : Int → Bool → K} {p : Nat} (hf : ∀ x, (f x).length = esz) (hL : L.length < 1000000000)
    (hlo : ∀ i x, L[i]? = some x → i < p → c x < 0) (hhi : ∀ i x, L[i]? = some x → p ≤ i → 0 ≤ c x) (hp : p ≤ L.length)
    (hc : ∀ x ∈ L, ∀ q : Int → K, HG B Γ (q (c x)) → HG B Γ (CallV P cv [(.agg (f x).toArray), tv] (Ans1 (fun (t : Int) => (Value.int .i64) t) q)))
    (h : HG B Γ (Q p (decide (∃ x, L[p]? = some x ∧ c x = 0)))) [o : OwnS s Γ (SlC E esz s (L.flatMap f)) Δ] (he : 0 < esz) : HG B Γ (bsK P esz s tv cv Q) := by
  refine s_cap s fun h1 h2 h3 h4 => ?_
  rw [flatMap_len f esz hf] at h1
  have hn : s.n = L.length := (Nat.eq_of_mul_eq_mul_right he h1).symm
  have ldel : ∀ (i : Nat) (x : α) (k : Array Value → K), L[i]? = some x → HG B Γ (k (f x).toArray) → HG B Γ (LdN (elA s i esz) esz k) := fun i x k hx hk => by
    rw [← add0 (elA s i esz)]
    exact s_ldEN (s := s) (by simpa using flatMap_el hf hx) (hf x) hk
  unfold bsK
  refine s_loopC (fun x : Int × Int => ∃ a b : Nat, x = ((a : Int), (b : Int)) ∧ a ≤ p ∧ p ≤ b ∧ b ≤ L.length) (fun x => (x.2 - x.1).toNat) ⟨0, L.length, by rw [hn]; rfl, by omega, hp, Nat.le_refl _⟩ fun k' x hx hk => ?_
  obtain ⟨a, b, rfl, ha, hb, hbl⟩ := hx
  dsimp only
  refine s_ite (fun hlt => ?_) fun hlt => ?_
  · have hab : a < b := by simp only [decide_eq_true_eq] at hlt; omega
    refine s_ai ?_
    rw [show IntKind.wrap .u64 ((a : Int) + b) = ((a + b : Nat) : Int) by rw [wrapU64 (by omega) (by omega)]; omega]
    refine s_ar rfl ?_
    refine s_cd (by omega) ?_
    refine s_ar (e' := (((a + b) / 2 : Nat) : Int)) ?_ ?_
    · show ((a + b : Nat) : Int).fdiv 2 = _
      rw [Int.fdiv_eq_ediv_of_nonneg _ (by omega)]; omega
    refine s_ai ?_
    refine s_idx (s := s) (i := (a + b) / 2) ?_ rfl (by omega)
    obtain ⟨x, hx⟩ : ∃ x, L[(a + b) / 2]? = some x := ⟨_, List.getElem?_eq_getElem (by omega)⟩
    refine ldel _ x _ hx (hc x (List.mem_of_getElem? hx) _ ?_)
    refine s_ite (fun h5 => ?_) fun h5 => ?_
    · have h6 : c x < 0 := by simpa using h5
      refine s_ai ?_
      refine hk _ ⟨(a + b) / 2 + 1, b, by simp, ?_, hb, hbl⟩ (by simp only; omega)
      · refine Nat.lt_of_not_le fun h7 => ?_
        have := hhi _ x hx h7; omega
    · have h6 : 0 ≤ c x := by simpa using h5
      refine hk _ ⟨a, (a + b) / 2, by simp, ha, ?_, by omega⟩ (by simp only; omega)
      · refine Nat.le_of_not_lt fun h7 => ?_
        have := hlo _ x hx h7; omega
  · have hab : a = p ∧ b = p := by simp only [decide_eq_false_iff_not] at hlt; omega
    obtain ⟨rfl, rfl⟩ := hab
    refine s_ite (fun h5 => ?_) fun h5 => ?_
    · have h6 : b < L.length := by simp only [decide_eq_true_eq] at h5; omega
      refine s_idx (s := s) (i := b) ?_ rfl (by omega)
      obtain ⟨x, hx⟩ : ∃ x, L[b]? = some x := ⟨_, List.getElem?_eq_getElem h6⟩
      refine ldel _ x _ hx (hc x (List.mem_of_getElem? hx) _ ?_)
      have e : decide (∃ x, L[b]? = some x ∧ c x = 0) = decide (c x = 0) := by simp [hx]
      rw [e] at h
      exact h
    · have h6 : ¬ b < L.length := by simp only [decide_eq_false_iff_not] at h5; omega
      have e : decide (∃ x, L[b]? = some x ∧ c x = 0) = false := by
        simp only [decide_eq_false_iff_not]
        rintro ⟨x, hx, _⟩
        rw [List.getElem?_eq_none (by omega)] at hx; cases hx
      rw [e] at h
      exact h
end
end Go.Sep
