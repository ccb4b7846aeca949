/- Texts of the claim RouteMakes, one behind the other. -/
import Derived.Test.YtfjjocopmknhgaaRouteMakesM2
/- The library's IndexFunc, DeleteFunc and their kin, whatever the elements. Holds for every program. -/
namespace Go.Sep
open Go Go.RowKit
set_option linter.unusedSimpArgs false
set_option linter.unusedVariables false

/-- An element is read. -/
abbrev accN (esz : Nat) (s : Sl) (i : Int) (k : Value → K) : K := Idx s i esz fun t => LdN t esz fun a => k (.agg a)
abbrev acc1 {α : Type} (c : α → Value) (s : Sl) (i : Int) (k : Value → K) : K := Idx s i 1 fun t => Ld t c fun a => k (c a)
/-- slices.IndexFunc, as it is printed. -/
def idxFK (P : Program) (acc : Sl → Int → (Value → K) → K) (s : Sl) (fv : Value) (Q : Int → K) : K :=
  LoopK (α := Int) (fun X x =>
    Ite (decide (x < (s.n : Int)))
      (acc s x fun v =>
      CallV P fv [v] <| Ans1 (fun (t : Bool) => Value.bool t) fun b =>
      Ite b
        (Q x)
        (Ar (IntKind.wrap .i64 (x + 1)) fun t =>
        X t))
      (Q (-1))) 0
def findG {γ α : Type} (p : γ → α → Bool) (st : γ → α → γ) : γ → List α → γ × Option Nat
  | g, [] => (g, none)
  | g, x :: L => if p g x then (st g x, some 0) else ((findG p st (st g x) L).1, (findG p st (st g x) L).2.map (· + 1))
def idxI : Option Nat → Int
  | none => -1
  | some i => i
def delG {γ α : Type} (p : γ → α → Bool) (st : γ → α → γ) : γ → List α → γ × List α
  | g, [] => (g, [])
  | g, x :: L => ((delG p st (st g x) L).1, if p g x then (delG p st (st g x) L).2 else x :: (delG p st (st g x) L).2)
section
variable {P : Program} {B : World} {Γ Δ : List HProp} {α γ : Type}
theorem delG_cons {p : γ → α → Bool} {st : γ → α → γ} {g : γ} {x : α} {L : List α} : delG p st g (x :: L) = ((delG p st (st g x) L).1, if p g x then (delG p st (st g x) L).2 else x :: (delG p st (st g x) L).2) := rfl
theorem findG_cons {p : γ → α → Bool} {st : γ → α → γ} {g : γ} {x : α} {L : List α} : findG p st g (x :: L) = if p g x then (st g x, some 0) else ((findG p st (st g x) L).1, (findG p st (st g x) L).2.map (· + 1)) := rfl
/-- A whole block is read. -/
theorem s_ldW {b n : Nat} {l : List Value} {T : TypeId} {fz : Nat × Nat} {k : Array Value → K} (h : HG B Γ (k l.toArray)) (hl : l.length = n) [p : Own b Γ (blk b (.cells l.toArray T fz)) Δ] : HG B Γ (LdN ⟨b, 0, none⟩ n k) :=
  s_ldN (b := b) (off := 0) (l' := l) h (by rw [List.drop_zero, List.take_of_length_le (Nat.le_of_eq hl)]) hl
theorem s_idxF {R : γ → List HProp} {acc : Sl → Int → (Value → K) → K} {s : Sl} {fv : Value} {vV : α → Value} {Q : Int → K} {L : List α} (p : γ → α → Bool) (st : γ → α → γ) (g0 : γ) (I : γ → List α → Prop) (hI : I g0 L) (hIs : ∀ g x C, I g (x :: C) → I (st g x) C) (hn : s.n = L.length) (hL : L.length < 1000000000)
    (hacc : ∀ g (i : Nat) x k, L[i]? = some x → HG B (R g) (k (vV x)) → HG B (R g) (acc s (i : Int) k))
    (hf : ∀ g x C (q : Bool → K), x ∈ L → I g (x :: C) → HG B (R (st g x)) (q (p g x)) → HG B (R g) (CallV P fv [vV x] (Ans1 (fun (t : Bool) => Value.bool t) q)))
    (h : HG B (R (findG p st g0 L).1) (Q (idxI (findG p st g0 L).2))) : HG B (R g0) (idxFK P acc s fv Q) := by
  unfold idxFK
  refine s_loop (α := Int) (ι := Nat × γ) (fun x i => x = (i.1 : Int) ∧ i.1 ≤ L.length ∧ I i.2 (L.drop i.1) ∧ findG p st g0 L = ((findG p st i.2 (L.drop i.1)).1, (findG p st i.2 (L.drop i.1)).2.map (· + i.1)))
    (fun x i => R i.2) (fun x i => L.length - i.1) (0, g0) ⟨rfl, Nat.zero_le _, hI, by simp⟩ ?_
  rintro k' _ ⟨i, g⟩ ⟨rfl, hi, hIg, he⟩ hk'
  simp only at hi hIg he hk' ⊢
  refine s_ite (fun hb => ?_) fun hb => ?_
  · have hil : i < L.length := by simp only [decide_eq_true_eq] at hb; omega
    have hge : L[i]? = some L[i] := List.getElem?_eq_getElem hil
    rw [List.drop_eq_getElem_cons hil] at he hIg
    have hm : L[i] ∈ L := List.getElem_mem hil
    generalize L[i] = x at hge he hm hIg
    refine hacc g i x _ hge ?_
    refine hf g x _ _ hm hIg ?_
    rw [findG_cons] at he
    refine s_ite (fun hp => ?_) fun hp => ?_
    · rw [if_pos hp] at he
      rw [he] at h
      simpa [idxI] using h
    · rw [if_neg (by simp [hp])] at he
      refine s_ai ?_
      refine hk' _ (i + 1, st g x) ⟨by simp, hil, hIs _ _ _ hIg, ?_⟩ (by simp only; omega)
      simp only
      rw [he, Option.map_map]
      congr 2
      funext y
      simp only [Function.comp]; omega
  · have hil : i = L.length := by simp only [decide_eq_false_iff_not] at hb; omega
    rw [hil, List.drop_length] at he
    rw [he] at h
    simpa [findG, idxI] using h
theorem findG_pure (p : α → Bool) : ∀ L : List α, (findG (fun (_ : Unit) x => p x) (fun _ _ => ()) () L).2 = L.findIdx? p
  | [] => rfl
  | x :: L => by
    rw [findG_cons, List.findIdx?_cons]
    split
    · rfl
    · rw [findG_pure p L]
theorem delG_pure (p : α → Bool) : ∀ L : List α, (delG (fun (_ : Unit) x => p x) (fun _ _ => ()) () L).2 = L.filter fun x => !p x
  | [] => rfl
  | x :: L => by
    rw [delG_cons, delG_pure p L, List.filter_cons]
    cases p x <;> simp
/-- With a predicate that leaves the world. -/
theorem s_idxFp {acc : Sl → Int → (Value → K) → K} {s : Sl} {fv : Value} {vV : α → Value} {Q : Int → K} {L : List α} (p : α → Bool) (hn : s.n = L.length) (hL : L.length < 1000000000)
    (hacc : ∀ (i : Nat) x k, L[i]? = some x → HG B Γ (k (vV x)) → HG B Γ (acc s (i : Int) k))
    (hf : ∀ x (q : Bool → K), x ∈ L → HG B Γ (q (p x)) → HG B Γ (CallV P fv [vV x] (Ans1 (fun (t : Bool) => Value.bool t) q)))
    (h : HG B Γ (Q (idxI (L.findIdx? p)))) : HG B Γ (idxFK P acc s fv Q) :=
  s_idxF (R := fun _ => Γ) (fun (_ : Unit) x => p x) (fun _ _ => ()) () (fun _ _ => True) trivial (fun _ _ _ _ => trivial) hn hL (fun _ => hacc) (fun _ x _ q hx _ => hf x q hx) (by rw [findG_pure]; exact h)
theorem idxI_nonneg (o : Option Nat) : decide ((0 : Int) ≤ idxI o) = o.isSome := by
  cases o <;> simp [idxI]
theorem any_idx (p : α → Bool) (L : List α) : (L.findIdx? p).isSome = L.any p := by simp [List.findIdx?_isSome]
/-- Elements of one's own, and of others. -/
theorem acc_own {f : α → List Value} {esz E : Nat} {s : Sl} {L : List α} {i : Nat} {x : α} {k : Value → K} (hf : ∀ x, (f x).length = esz) (he : 0 < esz) (hx : L[i]? = some x) (h : HG B Γ (k (.agg (f x).toArray))) [o : OwnS s Γ (SlC E esz s (L.flatMap f)) Δ] : HG B Γ (accN esz s (i : Int) k) :=
  s_idxN f hf (fun w hw => (own_rd hw (p := o)).1) hx h rfl he
theorem acc_rd {f : α → List Value} {esz : Nat} {s : Sl} {L : List α} {i : Nat} {x : α} {k : Value → K} (hf : ∀ x, (f x).length = esz) (he : 0 < esz) (hr : ∀ w, Holds B Γ w → RdC w s esz (L.flatMap f)) (hx : L[i]? = some x) (h : HG B Γ (k (.agg (f x).toArray))) : HG B Γ (accN esz s (i : Int) k) :=
  s_idxN f hf hr hx h rfl he
theorem acc1_own {β : Type} {c : β → Value} {E : Nat} {s : Sl} {L : List β} {i : Nat} {x : β} {k : Value → K} (hx : L[i]? = some x) (h : HG B Γ (k (c x))) [o : OwnS s Γ (SlC E 1 s (L.map c)) Δ] : HG B Γ (acc1 c s (i : Int) k) :=
  s_idx1 (fun w hw => (own_rd hw (p := o)).1) hx h
theorem acc1_rd {β : Type} {c : β → Value} {s : Sl} {L : List β} {i : Nat} {x : β} {k : Value → K} (hr : ∀ w, Holds B Γ w → RdC w s 1 (L.map c)) (hx : L[i]? = some x) (h : HG B Γ (k (c x))) : HG B Γ (acc1 c s (i : Int) k) :=
  s_idx1 hr hx h

/-! ### DeleteFunc -/
/-- slices.DeleteFunc over elements of some cells, as it is printed; idx is its IndexFunc. -/
def delFN (P : Program) (idx : Sl → Value → (Int → K) → K) (E T t esz : Nat) (zs : List Value) (s : Sl) (fv : Value) (Q : Sl → K) : K :=
  idx s fv fun t10 =>
  Ite (decide (t10 = (-1)))
    (Q s)
    (Ar (IntKind.wrap .i64 (t10 + 1)) fun t15 =>
    LoopK (α := Int × Int) (fun X x =>
      Ite (decide (x.2 < (s.n : Int)))
        (Idx s x.2 esz fun t24 =>
        LdN t24 esz fun t25 =>
        New E zs.toArray fun v7 =>
        StN v7 esz t25 <|
        LdN v7 esz fun t27 =>
        CallV P fv [(.agg t27)] <| Ans1 (fun (t28 : Bool) => Value.bool t28) fun t28 =>
        Ite (!t28)
          (LdN v7 esz fun t32 =>
          Idx s x.1 esz fun t33 =>
          StN t33 esz t32 <|
          Ar (IntKind.wrap .i64 (x.1 + 1)) fun t35 =>
          Ar (IntKind.wrap .i64 (x.2 + 1)) fun t21 =>
          X (t35, t21))
          (Ar (IntKind.wrap .i64 (x.2 + 1)) fun t21 =>
          X (x.1, t21)))
        (Slc s x.1 (s.n : Int) (s.c : Int) esz fun t38 =>
        Do P (Builtin.clear_ #[T] t #[(Sl.val t38)]) id fun _ =>
        Slc s 0 x.1 (s.c : Int) esz fun t41 =>
        Q t41)) (t10, t15))
def delF1 {β : Type} (P : Program) (idx : Sl → Value → (Int → K) → K) (T t : Nat) (c : β → Value) (s : Sl) (fv : Value) (Q : Sl → K) : K :=
  idx s fv fun t10 =>
  Ite (decide (t10 = (-1)))
    (Q s)
    (Ar (IntKind.wrap .i64 (t10 + 1)) fun t15 =>
    LoopK (α := Int × Int) (fun X x =>
      Ite (decide (x.2 < (s.n : Int)))
        (Idx s x.2 1 fun t24 =>
        Ld t24 c fun t25 =>
        CallV P fv [c t25] <| Ans1 (fun (t28 : Bool) => Value.bool t28) fun t28 =>
        Ite (!t28)
          (Idx s x.1 1 fun t33 =>
          St t33 (c t25) <|
          Ar (IntKind.wrap .i64 (x.1 + 1)) fun t35 =>
          Ar (IntKind.wrap .i64 (x.2 + 1)) fun t21 =>
          X (t35, t21))
          (Ar (IntKind.wrap .i64 (x.2 + 1)) fun t21 =>
          X (x.1, t21)))
        (Slc s x.1 (s.n : Int) (s.c : Int) 1 fun t38 =>
        Do P (Builtin.clear_ #[T] t #[(Sl.val t38)]) id fun _ =>
        Slc s 0 x.1 (s.c : Int) 1 fun t41 =>
        Q t41)) (t10, t15))
/-- Where the first one goes. -/
theorem findG_del (p : γ → α → Bool) (st : γ → α → γ) {I : γ → List α → Prop} (hIs : ∀ g x C, I g (x :: C) → I (st g x) C) : ∀ (g : γ) (L : List α), I g L → ((findG p st g L).2 = none ∧ delG p st g L = ((findG p st g L).1, L)) ∨
    ∃ A x C, L = A ++ x :: C ∧ (findG p st g L).2 = some A.length ∧ I (findG p st g L).1 C ∧ delG p st g L = ((delG p st (findG p st g L).1 C).1, A ++ (delG p st (findG p st g L).1 C).2)
  | g, [], _ => .inl ⟨rfl, rfl⟩
  | g, x :: L, hI => by
    rw [findG_cons, delG_cons]
    by_cases hp : p g x = true
    · right
      exact ⟨[], x, L, rfl, by simp [hp], by simpa [hp] using hIs _ _ _ hI, by simp [hp]⟩
    · rcases findG_del p st hIs (st g x) L (hIs _ _ _ hI) with ⟨h1, h2⟩ | ⟨A, y, C, rfl, h2, h4, h3⟩
      · left
        simp only [hp, Bool.false_eq_true, if_false, h1, h2, Option.map_none, and_self]
      · right
        refine ⟨x :: A, y, C, rfl, ?_, ?_, ?_⟩
        · simp only [hp, Bool.false_eq_true, if_false, h2, Option.map_some, List.length_cons]
        · simpa only [hp, Bool.false_eq_true, if_false] using h4
        · simp only [hp, Bool.false_eq_true, if_false, h3, List.cons_append]
theorem set_take {M : List α} {i : Nat} {x : α} (hi : i < M.length) : (M.set i x).take (i + 1) = M.take i ++ [x] := by
  rw [List.take_succ_eq_append_getElem (by simpa using hi), List.take_set_of_le (Nat.le_refl _), List.getElem_set_self]
theorem set_drop {M : List α} {i j : Nat} {x : α} (hij : i < j) : (M.set i x).drop j = M.drop j := by rw [List.drop_set_of_lt hij]
theorem flatMap_set {f : α → List Value} {esz E : Nat} {s : Sl} {M : List α} {i : Nat} {x : α} {k : K} (hf : ∀ x, (f x).length = esz) (hfl : (f x).all flatV = true) (hi : i < M.length) (h : HG B (SlC E esz s ((M.set i x).flatMap f) :: Δ) k) [o : OwnS s Γ (SlC E esz s (M.flatMap f)) Δ] : HG B Γ (StN (elA s i esz) esz (f x).toArray k) := by
  have e1 : M = M.take i ++ M[i] :: M.drop (i + 1) := by rw [← List.drop_eq_getElem_cons hi, List.take_append_drop]
  have e2 : M.set i x = M.take i ++ x :: M.drop (i + 1) := by rw [List.set_eq_take_append_cons_drop, if_pos hi]
  have hl : (M.take i).length = i := by rw [List.length_take]; omega
  rw [e2] at h
  refine fun w hw => ?_
  have hw2 := hw.perm o.perm
  rw [e1] at hw2
  rw [show elA s i esz = elA s (M.take i).length esz by rw [hl]]
  refine hg hw2 ?_
  rw [← add0 (elA s (M.take i).length esz)]
  refine s_stEN (s := s) (us := f x) ?_ (hf x) ?_ hfl
  · have e : layAt ((M.take i ++ M[i] :: M.drop (i + 1)).flatMap f) ((M.take i).length * esz + 0) (f x) = (M.take i ++ x :: M.drop (i + 1)).flatMap f := by
      have e1 : (M.take i ++ M[i] :: M.drop (i + 1)).flatMap f = (M.take i).flatMap f ++ (f M[i] ++ (M.drop (i + 1)).flatMap f) := by simp only [List.flatMap_append, List.flatMap_cons]
      have e2 : (M.take i ++ x :: M.drop (i + 1)).flatMap f = (M.take i).flatMap f ++ (f x ++ (M.drop (i + 1)).flatMap f) := by simp only [List.flatMap_append, List.flatMap_cons]
      rw [e1, e2, layAt_mid (by simp [flatMap_len f esz hf]) (by rw [hf, hf])]
    rw [e]; exact h
  · have e3 : ((M.take i ++ M[i] :: M.drop (i + 1)).flatMap f).length = ((M.take i).length + ((M.drop (i + 1)).length + 1)) * esz := by rw [flatMap_len f esz hf]; simp only [List.length_append, List.length_cons]
    rw [e3, Nat.add_mul, Nat.add_mul]; omega
theorem flatMap_tk {f : α → List Value} {esz : Nat} (hf : ∀ x, (f x).length = esz) : ∀ (L : List α) (i : Nat), (L.flatMap f).take (i * esz) = (L.take i).flatMap f
  | L, 0 => by simp
  | [], i + 1 => by simp
  | x :: L, i + 1 => by
    rw [List.flatMap_cons, List.take_succ_cons, List.flatMap_cons, ← flatMap_tk hf L i, Nat.add_mul, Nat.one_mul, Nat.add_comm, ← hf x, List.take_length_add_append]
/-- DeleteFunc. -/
theorem s_delFN {R : γ → List HProp} {idx : Sl → Value → (Int → K) → K} {E T t esz : Nat} {zs : List Value} {s : Sl} {fv : Value} {Q : Sl → K} {f : α → List Value} {L : List α} (p : γ → α → Bool) (st : γ → α → γ) (g0 : γ) (I : γ → List α → Prop) (hI : I g0 L) (hIs : ∀ g x C, I g (x :: C) → I (st g x) C)
    (hidx : ∀ s fv Q w, idxFK P (accN esz) s fv Q w → idx s fv Q w) (hf : ∀ x, (f x).length = esz) (he : 0 < esz) (hfl : ∀ x, (f x).all flatV = true) (hz : zs.length = esz) (hL : L.length < 1000000000)
    (hc : ∀ Ξ g x C (q : Bool → K), x ∈ L → I g (x :: C) → HG B (Ξ :: R (st g x)) (q (p g x)) → HG B (Ξ :: R g) (CallV P fv [(.agg (f x).toArray)] (Ans1 (fun (t : Bool) => Value.bool t) q)))
    (h : ∀ s', s'.n = (delG p st g0 L).2.length → HG B (SlC E esz s' ((delG p st g0 L).2.flatMap f) :: R (delG p st g0 L).1) (Q s')) (hT : appT P T T E esz = true := by kernel_rfl) :
    HG B (SlC E esz s (L.flatMap f) :: R g0) (delFN P idx E T t esz zs s fv Q) := by
  unfold delFN
  refine s_cap s fun a1 a2 a3 a4 => ?_
  rw [flatMap_len f esz hf] at a1
  have hn : s.n = L.length := (Nat.eq_of_mul_eq_mul_right he a1).symm
  refine fun w hw => hidx _ _ _ _ ?_
  refine hg hw ?_
  clear hw w
  refine s_idxF (R := fun g => SlC E esz s (L.flatMap f) :: R g) (vV := fun x => .agg (f x).toArray) p st g0 I hI hIs hn hL (fun g i x k hx hk => acc_own hf he hx hk) (fun g x C q hx hI hq => hc _ g x C q hx hI hq) ?_
  rcases findG_del p st hIs g0 L hI with ⟨h1, h2⟩ | ⟨A, x, C, rfl, h1, hI1, h2⟩
  · rw [h1]
    rw [h2] at h
    refine s_t ?_ (by simp [idxI])
    exact h s hn
  rw [h1]
  have hlen : (A ++ x :: C).length = A.length + (C.length + 1) := List.length_append
  generalize (findG p st g0 (A ++ x :: C)).1 = g1 at *
  refine s_f ?_ (by simp [idxI])
  simp only [idxI]
  refine s_ai ?_
  refine s_loop (α := Int × Int) (ι := Nat × Nat × List α × γ) (fun y i => y.1 = (i.1 : Int) ∧ y.2 = (i.2.1 : Int) ∧ i.1 < i.2.1 ∧ i.2.1 ≤ (A ++ x :: C).length ∧ i.2.2.1.length = (A ++ x :: C).length ∧ i.2.2.1.drop i.2.1 = (A ++ x :: C).drop i.2.1 ∧ I i.2.2.2 ((A ++ x :: C).drop i.2.1) ∧ delG p st g0 (A ++ x :: C) = ((delG p st i.2.2.2 ((A ++ x :: C).drop i.2.1)).1, i.2.2.1.take i.1 ++ (delG p st i.2.2.2 ((A ++ x :: C).drop i.2.1)).2))
    (fun y i => SlC E esz s (i.2.2.1.flatMap f) :: R i.2.2.2) (fun y i => (A ++ x :: C).length - i.2.1) (A.length, A.length + 1, A ++ x :: C, g1) ⟨rfl, by simp, by simp, by simp, rfl, rfl, ?_, ?_⟩ ?_
  · simp only
    have e : (A ++ x :: C).drop (A.length + 1) = C := by rw [show A ++ x :: C = (A ++ [x]) ++ C by simp]; exact List.drop_left' (by simp)
    rw [e]; exact hI1
  · simp only
    have e : (A ++ x :: C).drop (A.length + 1) = C := by rw [show A ++ x :: C = (A ++ [x]) ++ C by simp]; exact List.drop_left' (by simp)
    rw [e, List.take_left, h2]
  rintro k' ⟨_, _⟩ ⟨i, j, M, g⟩ ⟨rfl, rfl, hij, hj, hM, hd, hIg, hdel⟩ hk'
  simp only at hij hj hM hd hIg hdel hk' ⊢
  refine s_ite (fun hb => ?_) fun hb => ?_
  · have hjl : j < (A ++ x :: C).length := by simp only [decide_eq_true_eq] at hb; omega
    have hMj : M[j]? = some (A ++ x :: C)[j] := by
      have := congrArg (·[0]?) hd
      simp only [List.getElem?_drop, Nat.add_zero] at this
      rw [this, List.getElem?_eq_getElem hjl]
    have hmem : (A ++ x :: C)[j] ∈ A ++ x :: C := List.getElem_mem hjl
    have hdrop := List.drop_eq_getElem_cons hjl
    rw [hdrop] at hdel hIg
    generalize (A ++ x :: C)[j] = y at hMj hmem hdel hdrop hIg
    rw [delG_cons] at hdel
    refine s_idxN f hf (fun w hw => (own_rd (s := s) hw).1) hMj ?_
    refine s_new fun v7 => ?_
    refine s_stN (b := v7) ?_ hz (hf y) (hfl y)
    refine s_ldW (b := v7) ?_ (hf y)
    refine s_unflat (Δ := [blk v7 (.cells (f y).toArray E (0, 0)), SlC E esz s (M.flatMap f)]) ?_
    refine hc _ g y _ _ hmem hIg ?_
    refine s_flat ?_
    show HG B (blk v7 (.cells (f y).toArray E (0, 0)) :: SlC E esz s (M.flatMap f) :: R (st g y)) _
    refine s_ite (fun hp => ?_) fun hp => ?_
    · have hp' : p g y = false := by simpa using hp
      rw [hp'] at hdel
      simp only [Bool.false_eq_true, if_false] at hdel
      refine s_ldW (b := v7) ?_ (hf y)
      refine s_idx (s := s) (i := i) ?_
      refine flatMap_set (s := s) hf (hfl y) (by omega) ?_
      refine s_ai ?_
      refine s_ai ?_
      refine s_end (hk' _ (i + 1, j + 1, M.set i y, st g y) ⟨by simp, by simp, by simp only; omega, hjl, by simpa using hM, ?_, hIs _ _ _ hIg, ?_⟩ (by simp only; omega))
      · simp only
        rw [set_drop (by omega), ← List.drop_drop, ← List.drop_drop, hd]
      · simp only
        rw [set_take (by omega), hdel]
        simp
    · have hp' : p g y = true := by simpa using hp
      rw [hp'] at hdel
      simp only [if_true] at hdel
      refine s_ai ?_
      refine s_end (hk' _ (i, j + 1, M, st g y) ⟨rfl, by simp, by simp only; omega, hjl, hM, ?_, hIs _ _ _ hIg, hdel⟩ (by simp only; omega))
      simp only
      rw [← List.drop_drop, ← List.drop_drop, hd]
  · have hjl : j = (A ++ x :: C).length := by simp only [decide_eq_false_iff_not] at hb; omega
    rw [hjl, List.drop_length] at hdel
    simp only [delG, List.append_nil] at hdel
    rw [hdel] at h
    refine s_slc (lo := i) (hi := s.n) (mx := s.c) ?_
    refine s_shrink (s := s) (m := i) (c' := s.c) (by omega) (by omega) (Nat.le_refl _) ?_
    rw [flatMap_tk hf]
    refine s_clear (s := ⟨s.a, i, s.c⟩) (l := i) (q := s.n - i) (m := s.c) rfl (Nat.le_refl _) (by simp only; omega) (by omega) ?_ (hT := hT)
    refine s_slc (lo := 0) (hi := i) (mx := s.c) ?_
    rw [cut0 a3]
    exact h ⟨s.a, i, s.c⟩ (by simp; omega)
theorem s_delF1 {β : Type} {R : γ → List HProp} {idx : Sl → Value → (Int → K) → K} {E T t : Nat} {c : β → Value} {s : Sl} {fv : Value} {Q : Sl → K} {L : List β} (p : γ → β → Bool) (st : γ → β → γ) (g0 : γ) (I : γ → List β → Prop) (hI : I g0 L) (hIs : ∀ g x C, I g (x :: C) → I (st g x) C)
    (hidx : ∀ s fv Q w, idxFK P (acc1 c) s fv Q w → idx s fv Q w) (hfl : ∀ x, flatV (c x) = true) (hL : L.length < 1000000000)
    (hc : ∀ Ξ g x C (q : Bool → K), x ∈ L → I g (x :: C) → HG B (Ξ :: R (st g x)) (q (p g x)) → HG B (Ξ :: R g) (CallV P fv [c x] (Ans1 (fun (t : Bool) => Value.bool t) q)))
    (h : ∀ s', s'.n = (delG p st g0 L).2.length → HG B (SlC E 1 s' ((delG p st g0 L).2.map c) :: R (delG p st g0 L).1) (Q s')) (hT : appT P T T E 1 = true := by kernel_rfl) :
    HG B (SlC E 1 s (L.map c) :: R g0) (delF1 P idx T t c s fv Q) := by
  unfold delF1
  refine s_cap s fun a1 a2 a3 a4 => ?_
  rw [List.length_map, Nat.mul_one] at a1
  have hn : s.n = L.length := a1.symm
  refine fun w hw => hidx _ _ _ _ ?_
  refine hg hw ?_
  clear hw w
  refine s_idxF (R := fun g => SlC E 1 s (L.map c) :: R g) (vV := c) p st g0 I hI hIs hn hL (fun g i x k hx hk => acc1_own hx hk) (fun g x C q hx hI hq => hc _ g x C q hx hI hq) ?_
  rcases findG_del p st hIs g0 L hI with ⟨h1, h2⟩ | ⟨A, x, C, rfl, h1, hI1, h2⟩
  · rw [h1]
    rw [h2] at h
    refine s_t ?_ (by simp [idxI])
    exact h s hn
  rw [h1]
  have hlen : (A ++ x :: C).length = A.length + (C.length + 1) := List.length_append
  generalize (findG p st g0 (A ++ x :: C)).1 = g1 at *
  refine s_f ?_ (by simp [idxI])
  simp only [idxI]
  refine s_ai ?_
  refine s_loop (α := Int × Int) (ι := Nat × Nat × List β × γ) (fun y i => y.1 = (i.1 : Int) ∧ y.2 = (i.2.1 : Int) ∧ i.1 < i.2.1 ∧ i.2.1 ≤ (A ++ x :: C).length ∧ i.2.2.1.length = (A ++ x :: C).length ∧ i.2.2.1.drop i.2.1 = (A ++ x :: C).drop i.2.1 ∧ I i.2.2.2 ((A ++ x :: C).drop i.2.1) ∧ delG p st g0 (A ++ x :: C) = ((delG p st i.2.2.2 ((A ++ x :: C).drop i.2.1)).1, i.2.2.1.take i.1 ++ (delG p st i.2.2.2 ((A ++ x :: C).drop i.2.1)).2))
    (fun y i => SlC E 1 s (i.2.2.1.map c) :: R i.2.2.2) (fun y i => (A ++ x :: C).length - i.2.1) (A.length, A.length + 1, A ++ x :: C, g1) ⟨rfl, by simp, by simp, by simp, rfl, rfl, ?_, ?_⟩ ?_
  · simp only
    have e : (A ++ x :: C).drop (A.length + 1) = C := by rw [show A ++ x :: C = (A ++ [x]) ++ C by simp]; exact List.drop_left' (by simp)
    rw [e]; exact hI1
  · simp only
    have e : (A ++ x :: C).drop (A.length + 1) = C := by rw [show A ++ x :: C = (A ++ [x]) ++ C by simp]; exact List.drop_left' (by simp)
    rw [e, List.take_left, h2]
  rintro k' ⟨_, _⟩ ⟨i, j, M, g⟩ ⟨rfl, rfl, hij, hj, hM, hd, hIg, hdel⟩ hk'
  simp only at hij hj hM hd hIg hdel hk' ⊢
  refine s_ite (fun hb => ?_) fun hb => ?_
  · have hjl : j < (A ++ x :: C).length := by simp only [decide_eq_true_eq] at hb; omega
    have hMj : M[j]? = some (A ++ x :: C)[j] := by
      have := congrArg (·[0]?) hd
      simp only [List.getElem?_drop, Nat.add_zero] at this
      rw [this, List.getElem?_eq_getElem hjl]
    have hmem : (A ++ x :: C)[j] ∈ A ++ x :: C := List.getElem_mem hjl
    have hdrop := List.drop_eq_getElem_cons hjl
    rw [hdrop] at hdel hIg
    generalize (A ++ x :: C)[j] = y at hMj hmem hdel hdrop hIg
    rw [delG_cons] at hdel
    refine s_idx1 (fun w hw => (own_rd (s := s) hw).1) hMj ?_
    refine hc _ g y _ _ hmem hIg ?_
    refine s_ite (fun hp => ?_) fun hp => ?_
    · have hp' : p g y = false := by simpa using hp
      rw [hp'] at hdel
      simp only [Bool.false_eq_true, if_false] at hdel
      refine s_idx (s := s) (i := i) ?_
      rw [← add0 (elA s i 1)]
      refine s_stE (s := s) ?_ (by simp; omega) (hfl y)
      rw [show i * 1 + 0 = i by omega, ← List.map_set]
      refine s_ai ?_
      refine s_ai ?_
      refine s_end (hk' _ (i + 1, j + 1, M.set i y, st g y) ⟨by simp, by simp, by simp only; omega, hjl, by simpa using hM, ?_, hIs _ _ _ hIg, ?_⟩ (by simp only; omega))
      · simp only
        rw [set_drop (by omega), ← List.drop_drop, ← List.drop_drop, hd]
      · simp only
        rw [set_take (by omega), hdel]
        simp
    · have hp' : p g y = true := by simpa using hp
      rw [hp'] at hdel
      simp only [if_true] at hdel
      refine s_ai ?_
      refine s_end (hk' _ (i, j + 1, M, st g y) ⟨rfl, by simp, by simp only; omega, hjl, hM, ?_, hIs _ _ _ hIg, hdel⟩ (by simp only; omega))
      simp only
      rw [← List.drop_drop, ← List.drop_drop, hd]
  · have hjl : j = (A ++ x :: C).length := by simp only [decide_eq_false_iff_not] at hb; omega
    rw [hjl, List.drop_length] at hdel
    simp only [delG, List.append_nil] at hdel
    rw [hdel] at h
    refine s_slc (lo := i) (hi := s.n) (mx := s.c) ?_
    refine s_shrink (s := s) (m := i) (c' := s.c) (by omega) (by omega) (Nat.le_refl _) ?_
    rw [show (M.map c).take (i * 1) = (M.take i).map c by simp]
    refine s_clear (s := ⟨s.a, i, s.c⟩) (l := i) (q := s.n - i) (m := s.c) rfl (Nat.le_refl _) (by simp only; omega) (by omega) ?_ (hT := hT)
    refine s_slc (lo := 0) (hi := i) (mx := s.c) ?_
    rw [cut0 a3]
    exact h ⟨s.a, i, s.c⟩ (by simp; omega)
end
end Go.Sep
/- Lists of texts: slices.Concat of two, slices.Compact; lists that rise. -/
namespace Go.Proofs.Ytfjjocopmknhgaa
open Go Go.Sep
set_option linter.unusedSimpArgs false
set_option linter.unusedVariables false
set_option maxRecDepth 100000

abbrev TX := List UInt8
def cmpct : List TX → List TX
  | [] => []
  | [x] => [x]
  | x :: y :: L => if y = x then cmpct (y :: L) else x :: cmpct (y :: L)
theorem cmpct_snoc : ∀ (A : List TX) (a b : TX), cmpct (A ++ [a, b]) = if b = a then cmpct (A ++ [a]) else cmpct (A ++ [a]) ++ [b]
  | [], a, b => by
    by_cases h : b = a <;> simp [cmpct, h]
  | [x], a, b => by
    have h1 := cmpct_snoc [] a b
    simp only [List.nil_append, List.singleton_append] at h1 ⊢
    rw [cmpct, h1]
    by_cases h : b = a
    · rw [if_pos h, if_pos h]; simp [cmpct]
    · rw [if_neg h, if_neg h]
      by_cases h2 : a = x
      · simp [cmpct, h2]
      · simp [cmpct, h2]
  | x :: y :: A, a, b => by
    have h1 := cmpct_snoc (y :: A) a b
    simp only [List.cons_append] at h1 ⊢
    rw [cmpct, h1]
    by_cases h : b = a
    · rw [if_pos h, if_pos h, cmpct]
    · rw [if_neg h, if_neg h]
      by_cases h2 : y = x
      · simp [cmpct, h2]
      · simp [cmpct, h2]
theorem cmpct_len : ∀ L : List TX, (cmpct L).length ≤ L.length
  | [] => Nat.le_refl _
  | [x] => Nat.le_refl _
  | x :: y :: L => by
    have := cmpct_len (y :: L)
    rw [cmpct]
    split
    · exact Nat.le_succ_of_le this
    · simp only [List.length_cons] at this ⊢; omega
theorem cmpct_mem : ∀ {L : List TX} {x : TX}, x ∈ cmpct L ↔ x ∈ L
  | [], x => Iff.rfl
  | [y], x => Iff.rfl
  | y :: z :: L, x => by
    have ih := cmpct_mem (L := z :: L) (x := x)
    rw [cmpct]
    split
    · rename_i h
      rw [ih, h]; simp
    · rw [List.mem_cons, ih, List.mem_cons (a := x) (b := y)]
theorem cmpct_head : ∀ (x : TX) (L : List TX), (∀ y ∈ L, x ≤ y) → ∀ z, z ∈ (cmpct (x :: L)).tail → (x :: L).Pairwise (· ≤ ·) → x < z
  | x, [], _, z, hz, _ => by simp [cmpct] at hz
  | x, y :: L, h, z, hz, hp => by
    rw [cmpct] at hz
    have hp2 := List.pairwise_cons.1 hp
    split at hz
    · rename_i e
      subst e
      exact cmpct_head y L (fun w hw => h w (List.mem_cons_of_mem _ hw)) z hz hp2.2
    · rename_i e
      rw [List.tail_cons, cmpct_mem] at hz
      have h1 : x ≤ z := h z hz
      rcases List.le_iff_lt_or_eq.1 h1 with h2 | h2
      · exact h2
      · exfalso
        have h3 : y ≤ z := by
          rcases List.mem_cons.1 hz with rfl | hz
          · exact List.le_refl _
          · exact (List.pairwise_cons.1 hp2.2).1 z hz
        have h4 : x ≤ y := h y List.mem_cons_self
        exact e (List.le_antisymm (by rw [h2]; exact h3) h4)
/-- Of a sorted list a list that rises. -/
theorem cmpct_rises : ∀ (L : List TX), L.Pairwise (· ≤ ·) → (cmpct L).Pairwise (· < ·)
  | [], _ => List.Pairwise.nil
  | [x], _ => List.pairwise_singleton _ _
  | x :: y :: L, h => by
    have ih := cmpct_rises (y :: L) (List.pairwise_cons.1 h).2
    rw [cmpct]
    split
    · exact ih
    · rename_i e
      refine List.pairwise_cons.2 ⟨fun z hz => ?_, ih⟩
      refine cmpct_head x (y :: L) (List.pairwise_cons.1 h).1 z ?_ h
      rw [cmpct, if_neg e]; exact hz
theorem rises_eq : ∀ {L M : List TX}, L.Pairwise (· < ·) → M.Pairwise (· < ·) → (∀ x, x ∈ L ↔ x ∈ M) → L = M
  | [], [], _, _, _ => rfl
  | [], y :: M, _, _, h => by have := (h y).2 List.mem_cons_self; simp at this
  | x :: L, [], _, _, h => by have := (h x).1 List.mem_cons_self; simp at this
  | x :: L, y :: M, hL, hM, h => by
    have h1 := List.pairwise_cons.1 hL
    have h2 := List.pairwise_cons.1 hM
    have hxy : x = y := by
      rcases List.mem_cons.1 ((h x).1 List.mem_cons_self) with e | e
      · exact e
      · rcases List.mem_cons.1 ((h y).2 List.mem_cons_self) with e2 | e2
        · exact e2.symm
        · exact absurd (List.lt_trans (h1.1 y e2) (h2.1 x e)) (List.lt_irrefl _)
    subst hxy
    congr 1
    refine rises_eq h1.2 h2.2 fun z => ?_
    constructor
    · intro hz
      rcases List.mem_cons.1 ((h z).1 (List.mem_cons_of_mem _ hz)) with e | e
      · subst e; exact absurd (h1.1 z hz) (List.lt_irrefl _)
      · exact e
    · intro hz
      rcases List.mem_cons.1 ((h z).2 (List.mem_cons_of_mem _ hz)) with e | e
      · subst e; exact absurd (h2.1 z hz) (List.lt_irrefl _)
      · exact e
theorem sortL_le (L : List TX) : (sortL L).Pairwise (· ≤ ·) := by
  have := List.pairwise_mergeSort (le := fun a b : TX => decide (a ≤ b)) (fun a b c h1 h2 => by simp only [decide_eq_true_eq] at *; exact List.le_trans h1 h2) (fun a b => by simp only [Bool.or_eq_true, decide_eq_true_eq]; exact List.le_total a b) L
  refine List.Pairwise.imp ?_ this
  intro a b h; simpa using h
section
variable {B : World} {Γ Δ : List HProp} {k : K}
theorem compact_hg {s : Sl} {L : List TX} {Q : Sl → K} (hL : L.length < 100000000) (h : ∀ s', HG B (SlS s' (cmpct L) :: Γ) (Q s')) : HG B (SlS s L :: Γ) (slices_Compact_s_string_string.call s Q) := by
  refine fun w hw => slices_Compact_s_string_string_ok _ _ _ ?_
  refine hg hw ?_
  clear hw w
  unfold slices_Compact_s_string_string
  refine s_cap s fun a1 a2 a3 a4 => ?_
  rw [List.length_map, Nat.mul_one] at a1
  refine s_ite (fun hb => ?_) fun hb => ?_
  · have e : cmpct L = L := by
      match L, a1 with
      | [], _ => rfl
      | [x], _ => rfl
      | x :: y :: L, a1 => simp only [List.length_cons] at a1; simp only [decide_eq_true_eq] at hb; omega
    rw [e] at h
    exact h s
  have hn2 : 2 ≤ L.length := by simp only [decide_eq_false_iff_not] at hb; omega
  refine s_loopC (α := Int) (fun x => ∃ i : Nat, x = (i : Int) ∧ 1 ≤ i ∧ i ≤ L.length ∧ cmpct (L.take i) = L.take i) (fun x => L.length - x.toNat) ⟨1, rfl, Nat.le_refl _, by omega, ?_⟩ fun k' x hx hk' => ?_
  · match L, hn2 with
    | x :: L, _ => simp [cmpct]
  obtain ⟨i, rfl, hi1, hi, hc⟩ := hx
  unfold slices_Compact_s_string_string.b1
  refine s_ite (fun hb2 => ?_) fun hb2 => ?_
  rotate_left
  · have hil : i = L.length := by simp only [decide_eq_false_iff_not] at hb2; omega
    rw [hil, List.take_length] at hc
    rw [hc] at h
    exact h s
  have hil : i < L.length := by simp only [decide_eq_true_eq] at hb2; omega
  obtain ⟨j, rfl⟩ : ∃ j, i = j + 1 := ⟨i - 1, by omega⟩
  -- what one more makes
  have step : ∀ m, m + 1 < L.length → cmpct (L.take (m + 2)) = if L[m + 1]? = L[m]? then cmpct (L.take (m + 1)) else cmpct (L.take (m + 1)) ++ L[m + 1]?.toList := fun m hm => by
    have t1 : L.take (m + 2) = L.take m ++ [L[m], L[m + 1]] := by rw [List.take_succ_eq_append_getElem hm, List.take_succ_eq_append_getElem (by omega), List.append_assoc]; rfl
    have t2 : L.take (m + 1) = L.take m ++ [L[m]] := List.take_succ_eq_append_getElem (by omega)
    rw [t1, t2, cmpct_snoc, List.getElem?_eq_getElem hm, List.getElem?_eq_getElem (show m < L.length by omega)]
    simp
  obtain ⟨a, ha⟩ : ∃ a, L[j + 1]? = some a := ⟨_, List.getElem?_eq_getElem hil⟩
  obtain ⟨b, hb'⟩ : ∃ b, L[j]? = some b := ⟨_, List.getElem?_eq_getElem (by omega)⟩
  refine s_dr ?_
  refine s_idxS (L := L) (j := j + 1) (fun w hw => (own_rd (s := s) hw).1) ha ?_ rfl
  refine s_ai ?_
  refine s_idxS (L := L) (j := j) (fun w hw => (own_rd (s := s) hw).1) hb' ?_ (by omega)
  rw [bs_list, bs_list]
  have hst := step j hil
  rw [ha, hb'] at hst
  refine s_ite (fun he => ?_) fun he => ?_
  rotate_left
  · have hne : ¬ some a = some b := by simpa using he
    rw [if_neg hne] at hst
    refine s_ai ?_
    refine hk' _ ⟨j + 2, by simp; omega, by omega, hil, ?_⟩ (by omega)
    rw [hst, hc, List.take_succ_eq_append_getElem hil]
    rw [List.getElem?_eq_getElem hil] at ha
    rw [Option.some.inj ha]; rfl
  -- two that are one
  have hab : some a = some b := by simpa using he
  rw [if_pos hab, hc] at hst
  refine s_slc (lo := j + 1) (hi := s.n) (mx := s.c) ?_
  refine s_loop (α := Int × Int) (ι := Nat × Nat × List TX) (fun y i => y.1 = (i.1 : Int) ∧ y.2 = (i.2.1 : Int) ∧ 1 ≤ i.2.1 ∧ j + 1 + i.2.1 ≤ L.length ∧ i.1 < j + 1 + i.2.1 ∧ i.2.2.length = L.length ∧ i.2.2.drop (j + i.2.1) = L.drop (j + i.2.1) ∧ i.2.2.take i.1 = cmpct (L.take (j + 1 + i.2.1)))
    (fun y i => SlS s i.2.2 :: Γ) (fun y i => L.length - i.2.1) (j + 1, 1, L) ⟨rfl, rfl, Nat.le_refl _, by simp only; omega, by simp only; omega, rfl, rfl, hst.symm⟩ ?_
  rintro k2 ⟨_, _⟩ ⟨p, q, M⟩ ⟨rfl, rfl, hq1, hq, hpq, hM, hd, ht⟩ hk2
  simp only at hq1 hq hpq hM hd ht hk2 ⊢
  unfold slices_Compact_s_string_string.b2
  simp only
  refine s_cap s fun d1 d2 d3 d4 => ?_
  rw [List.length_map, Nat.mul_one] at d1
  refine s_ite (fun hb3 => ?_) fun hb3 => ?_
  · have hql : j + 1 + q < L.length := by simp only [decide_eq_true_eq] at hb3; omega
    obtain ⟨x, hx⟩ : ∃ x, L[j + 1 + q]? = some x := ⟨_, List.getElem?_eq_getElem hql⟩
    obtain ⟨y, hy⟩ : ∃ y, L[j + q]? = some y := ⟨_, List.getElem?_eq_getElem (by omega)⟩
    have hMx : M[j + 1 + q]? = some x := by
      have := congrArg (·[1]?) hd
      simp only [List.getElem?_drop] at this
      rw [show j + q + 1 = j + 1 + q by omega] at this
      rw [this, hx]
    have hMy : M[j + q]? = some y := by
      have := congrArg (·[0]?) hd
      simp only [List.getElem?_drop, Nat.add_zero] at this
      rw [this, hy]
    have hrd : ∀ w, Holds B (SlS s M :: Γ) w → RdC w ⟨cutA s.a (j + 1) s.c 1, s.n - (j + 1), s.c - (j + 1)⟩ 1 ((M.drop (j + 1)).map strV) := fun w hw => by
      have := (own_rd (s := s) hw).1.drop (l := j + 1) (c := s.c) (by omega) d2 d3
      rwa [Nat.mul_one, ← List.map_drop] at this
    have hst2 := step (j + q) (by omega)
    rw [show j + q + 1 = j + 1 + q by omega, hx, hy, show j + q + 2 = j + 1 + (q + 1) by omega] at hst2
    refine s_dr ?_
    refine s_idxS (L := M.drop (j + 1)) (j := q) hrd (by rw [List.getElem?_drop]; exact hMx) ?_ rfl
    refine s_ai ?_
    refine s_idxS (L := M.drop (j + 1)) (j := q - 1) hrd (by rw [List.getElem?_drop, show j + 1 + (q - 1) = j + q by omega]; exact hMy) ?_ (by omega)
    rw [bs_list, bs_list]
    unfold slices_Compact_s_string_string.s3
    refine s_ite (fun he2 => ?_) fun he2 => ?_
    · have hne : ¬ some x = some y := by simpa using he2
      rw [if_neg hne] at hst2
      refine s_idxS (L := M.drop (j + 1)) (j := q) hrd (by rw [List.getElem?_drop]; exact hMx) ?_ rfl
      refine s_idx (s := s) (i := p) ?_
      rw [← add0 (elA s p 1)]
      refine s_stE (s := s) ?_ (by simp; omega)
      rw [show p * 1 + 0 = p by omega, show Value.string (bs x) = strV x from rfl, ← List.map_set]
      refine s_ai ?_
      refine s_ai ?_
      refine hk2 _ (p + 1, q + 1, M.set p x) ⟨by simp, by simp, by simp only; omega, by simp only; omega, by simp only; omega, by simpa using hM, ?_, ?_⟩ (by simp only; omega)
      · simp only
        rw [List.drop_set_of_lt (by omega), show j + (q + 1) = (j + q) + 1 by omega, ← List.drop_drop, hd, List.drop_drop]
      · simp only
        rw [set_take (by omega), ht, hst2]; rfl
    · have heq : some x = some y := by simpa using he2
      rw [if_pos heq] at hst2
      refine s_ai ?_
      refine hk2 _ (p, q + 1, M) ⟨rfl, by simp, by simp only; omega, by simp only; omega, by simp only; omega, hM, ?_, ?_⟩ (by simp only; omega)
      · simp only
        rw [show j + (q + 1) = (j + q) + 1 by omega, ← List.drop_drop, hd, List.drop_drop]
      · simp only
        rw [ht, hst2]
  · have hql : j + 1 + q = L.length := by simp only [decide_eq_false_iff_not] at hb3; omega
    rw [hql, List.take_length] at ht
    refine s_slc (lo := p) (hi := s.n) (mx := s.c) ?_
    refine s_shrink (s := s) (m := p) (c' := s.c) (by omega) (by omega) (Nat.le_refl _) ?_
    rw [show (M.map strV).take (p * 1) = (cmpct L).map strV by rw [Nat.mul_one, ← List.map_take, ht]]
    refine s_clear (s := ⟨s.a, p, s.c⟩) (l := p) (q := s.n - p) (m := s.c) rfl (Nat.le_refl _) (by simp only; omega) (by omega) ?_
    refine s_slc (lo := 0) (hi := p) (mx := s.c) ?_
    rw [cut0 d3]
    exact h ⟨s.a, p, s.c⟩
theorem grow0_hg {n : Nat} {Q : Sl → K} (hn : n < 50000000) (h : ∀ s, s.n = 0 → HG B (SlS s [] :: Γ) (Q s)) : HG B Γ (slices_Grow_s_string_string.call ⟨none, 0, 0⟩ (n : Int) Q) := by
  refine fun w hw => slices_Grow_s_string_string_ok _ _ _ _ ?_
  refine hg hw ?_
  clear hw w
  unfold slices_Grow_s_string_string
  refine s_f ?_ (by simp)
  unfold slices_Grow_s_string_string.s1
  refine cap_run (s := ⟨none, 0, 0⟩) (E := ty_string) (esz := 1) (by kernel_rfl) ?_
  refine s_ar (e' := 0) (by rw [wrap64 (by simp) (by simp)]; simp) ?_
  refine s_ar (e' := (n : Int)) (by rw [wrap64 (by omega) (by omega)]; omega) ?_
  unfold slices_Grow_s_string_string.s2
  refine s_ite (fun hb => ?_) fun hb => ?_
  · refine cap_run (s := ⟨none, 0, 0⟩) (E := ty_string) (esz := 1) (by kernel_rfl) ?_
    refine s_slc (lo := 0) (hi := 0) (mx := 0) ?_
    refine s_appZ (s := ⟨none, 0, 0⟩) (vs := []) (E := ty_string) (esz := 1) (by omega) (by simp only [decide_eq_true_eq] at hb; simp; omega) (by simp; omega) (fun s' zs hs' hz hf => ?_) (fun w hw => RdC.none') (Nat.le_refl _)
    simp only [Nat.zero_add, List.nil_append] at hs' ⊢
    refine s_cap s' fun a1 a2 a3 a4 => ?_
    refine s_slc (lo := 0) (hi := 0) (mx := s'.c) ?_ rfl (by simp) rfl
    rw [cut0 a3]
    refine s_shrink (s := s') (m := 0) (c' := s'.c) (Nat.zero_le _) (Nat.zero_le _) (Nat.le_refl _) ?_
    simp only [Nat.zero_mul, List.take_zero, Nat.sub_zero]
    exact h ⟨s'.a, 0, s'.c⟩ rfl
  · refine fun w hw => ?_
    exact h ⟨none, 0, 0⟩ rfl w (hw.nilSl _ _)
/-- Two lists of texts, one behind the other. -/
theorem concat2_hg {t : Nat} {a b : Sl} {La Lb : List TX} {Q : Sl → K} (hla : La.length ≤ 10000000) (hlb : Lb.length ≤ 10000000) (ha : ∀ w, Holds B Γ w → RdC w a 1 (La.map strV)) (hb : ∀ w, Holds B Γ w → RdC w b 1 (Lb.map strV)) (h : ∀ s, HG B (SlS s (La ++ Lb) :: Γ) (Q s)) :
    HG B (blk t (.cells [a.val, b.val].toArray ty_s_string (0, 0)) :: Γ) (slices_Concat_s_string_string.call (Sl.mk (some ⟨t, 0, none⟩) 2 2) Q) := fun w hw => by
  refine slices_Concat_s_string_string_ok _ _ _ ?_
  have han : a.n = La.length := by have := (ha w hw.tail).len; simpa using this.symm
  have hbn : b.n = Lb.length := by have := (hb w hw.tail).len; simpa using this.symm
  refine Sep.hg hw ?_
  clear hw w
  unfold slices_Concat_s_string_string
  have rd : ∀ {X : List HProp} [Drops X (blk t (.cells [a.val, b.val].toArray ty_s_string (0, 0)) :: Γ)], ∀ w, Holds B X w → RdC w (Sl.mk (some ⟨t, 0, none⟩) 2 2) 1 ([a, b].map Sl.val) := fun w hw => by
    have := RdC.of_blk (esz := 1) (E := ty_s_string) (b := t) (n := 2) (vs := [a.val, b.val]) (cs := [a.val, b.val].toArray) (Γ := blk t (.cells [a.val, b.val].toArray ty_s_string (0, 0)) :: Γ) hw.drops List.mem_cons_self (by simp) rfl 2
    simpa using this
  refine s_loop (α := Int × Int) (ι := Nat) (fun x j => j ≤ 2 ∧ x.2 = (j : Int) ∧ x.1 = (if j = 0 then 0 else if j = 1 then La.length else La.length + Lb.length : Nat)) (fun x j => blk t (.cells [a.val, b.val].toArray ty_s_string (0, 0)) :: Γ) (fun x j => 2 - j) 0 ⟨by omega, rfl, rfl⟩ ?_
  rintro k' ⟨_, _⟩ j ⟨hj, rfl, rfl⟩ hk'
  simp only at hk' ⊢
  unfold slices_Concat_s_string_string.b1 slices_Concat_s_string_string.s2
  match j, hj with
  | 0, _ =>
    refine s_t ?_
    refine s_idx1 (L := [a, b]) (j := 0) (x := a) rd rfl ?_ rfl
    refine s_ar (e' := (La.length : Int)) (by rw [wrap64 (by simp <;> omega) (by simp <;> omega)]; simp <;> omega) ?_
    refine s_f ?_
    refine s_ai ?_
    exact hk' _ 1 ⟨by omega, rfl, rfl⟩ (by omega)
  | 1, _ =>
    refine s_t ?_
    refine s_idx1 (L := [a, b]) (j := 1) (x := b) rd rfl ?_ rfl
    refine s_ar (e' := ((La.length + Lb.length : Nat) : Int)) (by rw [wrap64 (by simp <;> omega) (by simp <;> omega)]; simp <;> omega) ?_
    refine s_f ?_
    refine s_ai ?_
    exact hk' _ 2 ⟨by omega, rfl, rfl⟩ (by omega)
  | 2, _ =>
    refine s_f ?_
    refine grow0_hg (n := La.length + Lb.length) (by omega) fun s0 hs0 => ?_
    refine s_loop (α := Sl × Int) (ι := Nat) (fun x j => j ≤ 2 ∧ x.2 = (j : Int) ∧ x.1.n = (if j = 0 then 0 else if j = 1 then La.length else La.length + Lb.length)) (fun x j => SlS x.1 (if j = 0 then [] else if j = 1 then La else La ++ Lb) :: blk t (.cells [a.val, b.val].toArray ty_s_string (0, 0)) :: Γ) (fun x j => 2 - j) 0 ⟨by omega, rfl, hs0⟩ ?_
    rintro k2 ⟨s1, _⟩ j ⟨hj, rfl, hs1⟩ hk2
    simp only at hs1 hk2 ⊢
    unfold slices_Concat_s_string_string.b3
    match j, hj with
    | 0, _ =>
      refine s_t ?_
      refine s_idx1 (L := [a, b]) (j := 0) (x := a) rd rfl ?_ rfl
      simp only [if_true] at hs1
      refine s_append (s := s1) (us := La.map strV) (fun w hw => ha w hw.drops) (fun v hv => by obtain ⟨y, _, rfl⟩ := List.mem_map.1 hv; rfl) (by omega) fun s2 hs2 => ?_
      refine s_ai ?_
      exact hk2 (s2, 1) 1 ⟨by omega, rfl, by show s2.n = La.length; omega⟩ (by omega)
    | 1, _ =>
      refine s_t ?_
      refine s_idx1 (L := [a, b]) (j := 1) (x := b) rd rfl ?_ rfl
      have hs1' : s1.n = La.length := hs1
      refine s_append (s := s1) (vs := La.map strV) (us := Lb.map strV) (fun w hw => hb w hw.drops) (fun v hv => by obtain ⟨y, _, rfl⟩ := List.mem_map.1 hv; rfl) (by omega) fun s2 hs2 => ?_
      refine s_ai ?_
      rw [← List.map_append]
      exact hk2 (s2, 2) 2 ⟨by omega, rfl, by show s2.n = La.length + Lb.length; omega⟩ (by omega)
    | 2, _ =>
      refine s_f ?_
      show HG B (SlS s1 (La ++ Lb) :: blk t (.cells [a.val, b.val].toArray ty_s_string (0, 0)) :: Γ) _
      exact s_end (h s1)
end
end Go.Proofs.Ytfjjocopmknhgaa
/- Plain forms of functions, and that their code comes to them (package ref05). -/
namespace Go.Proofs.Ytfjjocopmknhgaa
open Go Go.Sep
set_option linter.unusedVariables false
set_option linter.unusedSimpArgs false
set_option maxRecDepth 100000
set_option maxHeartbeats 4000000
attribute [local irreducible] G Gp Cx Tx Ex Sx Dx Ox Ax Lx Rx Fx Bx Bj Al Do Ld LdN St StN New CallF Ar DoU Rd Rd2 Pu Cd Ite Fv CallV CallY Ans0 Ans1 Ans2 Ans3 Ans4 Ans5 Ext Dead Dr WithS Sv LdS LdNS RdS Rd2S Nn Idx IdxA IdxS Fld Bld Slc SlcS Cat All LoopK RangeF RangeJ TakeD
namespace F_IRRef05
instance at_50 : AT Try.prog 50 5 := ⟨by kernel_rfl⟩
instance at_84 : AT Try.prog 84 4 := ⟨by kernel_rfl⟩
instance cb_36 : CB Try.prog 36 := ⟨by kernel_rfl⟩
instance cb_61 : CB Try.prog 61 := ⟨by kernel_rfl⟩
instance cb_65 : CB Try.prog 65 := ⟨by kernel_rfl⟩
instance cb_66 : CB Try.prog 66 := ⟨by kernel_rfl⟩
instance ct_2 : CT Try.prog 2 := ⟨by kernel_rfl⟩
instance ct_3 : CT Try.prog 3 := ⟨by kernel_rfl⟩
instance ct_33 : CT Try.prog 33 := ⟨by kernel_rfl⟩
instance ct_47 : CT Try.prog 47 := ⟨by kernel_rfl⟩
instance ct_48 : CT Try.prog 48 := ⟨by kernel_rfl⟩
instance ct_9 : CT Try.prog 9 := ⟨by kernel_rfl⟩
instance ft_50_0 : FT Try.prog 50 0 0 1 := ⟨by kernel_rfl⟩
instance ft_50_1 : FT Try.prog 50 1 1 1 := ⟨by kernel_rfl⟩
instance ft_50_2 : FT Try.prog 50 2 2 1 := ⟨by kernel_rfl⟩
instance ft_50_3 : FT Try.prog 50 3 3 1 := ⟨by kernel_rfl⟩
instance ft_50_4 : FT Try.prog 50 4 4 1 := ⟨by kernel_rfl⟩
instance ft_84_0 : FT Try.prog 84 0 0 1 := ⟨by kernel_rfl⟩
instance ft_84_1 : FT Try.prog 84 1 1 1 := ⟨by kernel_rfl⟩
instance ft_84_2 : FT Try.prog 84 2 2 1 := ⟨by kernel_rfl⟩
instance ft_84_3 : FT Try.prog 84 3 3 1 := ⟨by kernel_rfl⟩
instance mx : MX Try.prog := ⟨mixed⟩
instance sl_33 : SLT Try.prog 33 5 1 := ⟨by kernel_rfl⟩
instance sl_47 : SLT Try.prog 47 9 1 := ⟨by kernel_rfl⟩
instance sl_48 : SLT Try.prog 48 84 4 := ⟨by kernel_rfl⟩
instance st_9 : STT Try.prog 9 := ⟨by kernel_rfl⟩
instance sz_84 : SZ Try.prog 84 4 := ⟨by kernel_rfl⟩
instance sz_9 : SZ Try.prog 9 1 := ⟨by kernel_rfl⟩
instance zt_84 : ZT Try.prog 84 (.agg #[(.int .i64 0), (.string ⟨#[]⟩), (Sl.val ⟨none, 0, 0⟩), (.int .i64 0)]) := ⟨Try.t84, by kernel_rfl, by kernel_rfl⟩
instance zt_9 : ZT Try.prog 9 (.string ⟨#[]⟩) := ⟨Try.t9, by kernel_rfl, by kernel_rfl⟩
end F_IRRef05
def ref05_Great.s5 (Q : Bool → K) (X2 : Int → K) (X3 : Int → K) (X4 : Int → K) (t1_5 : Addr) (i5_5 : Int) (t74_5 : Bool) : K :=
  Ite t74_5
    (Q true)
    (Ar (IntKind.wrap .i64 (i5_5 + 1)) fun t56 =>
    X4 t56)
def ref05_Great.b4 (Q : Bool → K) (X2 : Int → K) (X3 : Int → K) (X4 : Int → K) (t1_4 : Addr) (i5_4 : Int) : K :=
  Ld (t1_4.add 3) Sl.val fun t52 =>
  Ite (decide (i5_4 < (t52.n : Int)))
    (Ld (t1_4.add 3) Sl.val fun t58 =>
    Idx t58 i5_4 4 fun t60 =>
    Ld (t60.add 1) Value.string fun t62 =>
    Ite (decide ((200 : Int) < (t62.size : Int)))
      (ref05_Great.s5 Q X2 X3 X4 t1_4 i5_4 true)
      (Ld (t1_4.add 3) Sl.val fun t67 =>
      Idx t67 i5_4 4 fun t69 =>
      Ld (t69.add 2) Sl.val fun t71 =>
      ref05_Great.s5 Q X2 X3 X4 t1_4 i5_4 (decide ((200 : Int) < (t71.n : Int)))))
    (Q false)
def ref05_Great.b3 (Q : Bool → K) (X2 : Int → K) (X3 : Int → K) (t1_3 : Addr) (i4_3 : Int) : K :=
  Ld (t1_3.add 2) Sl.val fun t38 =>
  Ite (decide (i4_3 < (t38.n : Int)))
    (Ld (t1_3.add 2) Sl.val fun t44 =>
    Idx t44 i4_3 1 fun t46 =>
    Ld t46 Value.string fun t47 =>
    Ite (decide ((200 : Int) < (t47.size : Int)))
      (Q true)
      (Ar (IntKind.wrap .i64 (i4_3 + 1)) fun t42 =>
      X3 t42))
    (LoopK (α := Int) (fun X x => ref05_Great.b4 Q X2 X3 X t1_3 x) 0)
def ref05_Great.b2 (Q : Bool → K)  (X2 : Int → K) (t1_2 : Addr) (i3_2 : Int) : K :=
  Ld (t1_2.add 1) Sl.val fun t24 =>
  Ite (decide (i3_2 < (t24.n : Int)))
    (Ld (t1_2.add 1) Sl.val fun t30 =>
    Idx t30 i3_2 1 fun t32 =>
    Ld t32 Value.string fun t33 =>
    Ite (decide ((200 : Int) < (t33.size : Int)))
      (Q true)
      (Ar (IntKind.wrap .i64 (i3_2 + 1)) fun t28 =>
      X2 t28))
    (LoopK (α := Int) (fun X x => ref05_Great.b3 Q X2 X t1_2 x) 0)
def ref05_Great.s1 (Q : Bool → K)  (t1_1 : Addr) (t21_1 : Bool) : K :=
  Ite t21_1
    (Q true)
    (LoopK (α := Int) (fun X x => ref05_Great.b2 Q X t1_1 x) 0)
def ref05_Great (t0 : (Array Value)) (Q : Bool → K) : K :=
  New 50 t0 fun t1 =>
  Ld (t1.add 1) Sl.val fun t7 =>
  Ite (decide ((40 : Int) < (t7.n : Int)))
    (ref05_Great.s1 Q t1 true)
    (Ld (t1.add 2) Sl.val fun t12 =>
    Ite (decide ((40 : Int) < (t12.n : Int)))
      (ref05_Great.s1 Q t1 true)
      (Ld (t1.add 3) Sl.val fun t18 =>
      ref05_Great.s1 Q t1 (decide ((60 : Int) < (t18.n : Int)))))
theorem ref05_Great_ok (t0 : (Array Value)) (Q : Bool → K) (w : World) (h : ref05_Great t0 Q w) : ref05_Great.call t0 Q w := by
  have hJ17 : ∀ (X2 : Int → K), XH 4 X2 → ∀ (X3 : Int → K), XH 9 X3 → ∀ (X4 : Int → K), XH 14 X4 → JH 17 fun D => ∃ (t1_5 : Addr) (i5_5 : Int), D [(1, (.pointer (some t1_5))), (5, (.int .i64 i5_5))] (fun C => ∀ (t74_5 : Bool), C [(1, (.pointer (some t1_5))), (5, (.int .i64 i5_5)), (74, (.bool t74_5))] (ref05_Great.s5 Q X2 X3 X4 t1_5 i5_5 t74_5)) := by intros; exact ⟨fun _ ⟨_, _, h⟩ => ⟨_, _, h⟩⟩
  have hL14 : ∀ (X2 : Int → K), XH 4 X2 → ∀ (X3 : Int → K), XH 9 X3 → ∀ (t1_4 : Addr), LH 14 (fun x : Int => [(1, (.pointer (some t1_4))), (5, (.int .i64 x))]) (fun X x => ref05_Great.b4 Q X2 X3 X t1_4 x) := by intros; exact ⟨⟩
  have hL9 : ∀ (X2 : Int → K), XH 4 X2 → ∀ (t1_3 : Addr), LH 9 (fun x : Int => [(1, (.pointer (some t1_3))), (4, (.int .i64 x))]) (fun X x => ref05_Great.b3 Q X2 X t1_3 x) := by intros; exact ⟨⟩
  have hL4 : ∀ (t1_2 : Addr), LH 4 (fun x : Int => [(1, (.pointer (some t1_2))), (3, (.int .i64 x))]) (fun X x => ref05_Great.b2 Q X t1_2 x) := by intros; exact ⟨⟩
  have hJ2 : JH 2 fun D => ∃ (t1_1 : Addr), D [(1, (.pointer (some t1_1)))] (fun C => ∀ (t21_1 : Bool), C [(1, (.pointer (some t1_1))), (21, (.bool t21_1))] (ref05_Great.s1 Q t1_1 t21_1)) := by intros; exact ⟨fun _ ⟨_, h⟩ => ⟨_, _, h⟩⟩
  exact g_walk 75 h Try.func22
def ref05_Same.s4 (Q : Bool → K) (X2 : Int → K) (a2_4 : Addr) (b3_4 : Addr) (i5_4 : Int) (t89_4 : Bool) : K :=
  Ite t89_4
    (Q false)
    (Ar (IntKind.wrap .i64 (i5_4 + 1)) fun t51 =>
    X2 t51)
def ref05_Same.s3 (Q : Bool → K) (X2 : Int → K) (a2_3 : Addr) (b3_3 : Addr) (i5_3 : Int) (x6_3 : Addr) (y7_3 : Addr) : K :=
  Ld x6_3 (Value.int .i64) fun t63 =>
  Ld y7_3 (Value.int .i64) fun t65 =>
  Ite (decide (t63 ≠ t65))
    (ref05_Same.s4 Q X2 a2_3 b3_3 i5_3 true)
    (Ld (x6_3.add 1) Value.string fun t69 =>
    Ld (y7_3.add 1) Value.string fun t71 =>
    Ite (!(t69.toList == t71.toList))
      (ref05_Same.s4 Q X2 a2_3 b3_3 i5_3 true)
      (Ld (x6_3.add 3) (Value.int .i64) fun t76 =>
      Ld (y7_3.add 3) (Value.int .i64) fun t78 =>
      Ite (decide (t76 ≠ t78))
        (ref05_Same.s4 Q X2 a2_3 b3_3 i5_3 true)
        (Ld (x6_3.add 2) Sl.val fun t83 =>
        Rd Try.prog (convert 33 9 (Sl.val t83)) Value.string fun t84 =>
        Ld (y7_3.add 2) Sl.val fun t86 =>
        Rd Try.prog (convert 33 9 (Sl.val t86)) Value.string fun t87 =>
        ref05_Same.s4 Q X2 a2_3 b3_3 i5_3 (!(t84.toList == t87.toList)))))
def ref05_Same.b2 (Q : Bool → K)  (X2 : Int → K) (a2_2 : Addr) (b3_2 : Addr) (i5_2 : Int) : K :=
  Ld (a2_2.add 3) Sl.val fun t47 =>
  Ite (decide (i5_2 < (t47.n : Int)))
    (Dr <| WithS fun S =>
    LdS S (a2_2.add 3) Sl.val fun t53 =>
    Idx t53 i5_2 4 fun t55 =>
    LdNS S t55 4 fun t56 =>
    LdS S (b3_2.add 3) Sl.val fun t58 =>
    Idx t58 i5_2 4 fun t60 =>
    LdNS S t60 4 fun t61 =>
    All [
      (New 84 #[(.int .i64 0), (.string ⟨#[]⟩), (Sl.val ⟨none, 0, 0⟩), (.int .i64 0)] fun x6 =>
      Sv S <|
      New 84 #[(.int .i64 0), (.string ⟨#[]⟩), (Sl.val ⟨none, 0, 0⟩), (.int .i64 0)] fun y7 =>
      Sv S <|
      StN x6 4 t56 <|
      Sv S <|
      StN y7 4 t61 <|
      ref05_Same.s3 Q X2 a2_2 b3_2 i5_2 x6 y7),
      (New 84 #[(.int .i64 0), (.string ⟨#[]⟩), (Sl.val ⟨none, 0, 0⟩), (.int .i64 0)] fun y7 =>
      Sv S <|
      New 84 #[(.int .i64 0), (.string ⟨#[]⟩), (Sl.val ⟨none, 0, 0⟩), (.int .i64 0)] fun x6 =>
      Sv S <|
      StN x6 4 t56 <|
      Sv S <|
      StN y7 4 t61 <|
      ref05_Same.s3 Q X2 a2_2 b3_2 i5_2 x6 y7)
      ])
    (Q true)
def ref05_Same.s1 (Q : Bool → K)  (a2_1 : Addr) (b3_1 : Addr) (t44_1 : Bool) : K :=
  Ite t44_1
    (Q false)
    (LoopK (α := Int) (fun X x => ref05_Same.b2 Q X a2_1 b3_1 x) 0)
def ref05_Same (a0 : (Array Value)) (b1 : (Array Value)) (Q : Bool → K) : K :=
  New 50 a0 fun a2 =>
  New 50 b1 fun b3 =>
  Ld a2 (Value.int .i64) fun t9 =>
  Ld b3 (Value.int .i64) fun t11 =>
  Ite (decide (t9 ≠ t11))
    (ref05_Same.s1 Q a2 b3 true)
    (Ld (a2.add 4) (Value.int .i64) fun t15 =>
    Ld (b3.add 4) (Value.int .i64) fun t17 =>
    Ite (decide (t15 ≠ t17))
      (ref05_Same.s1 Q a2 b3 true)
      (Ld (a2.add 1) Sl.val fun t22 =>
      Ld (b3.add 1) Sl.val fun t24 =>
      ref05_SameTexts.call t22 t24 fun t25 =>
      Ite (!t25)
        (ref05_Same.s1 Q a2 b3 true)
        (Ld (a2.add 2) Sl.val fun t30 =>
        Ld (b3.add 2) Sl.val fun t32 =>
        ref05_SameTexts.call t30 t32 fun t33 =>
        Ite (!t33)
          (ref05_Same.s1 Q a2 b3 true)
          (Ld (a2.add 3) Sl.val fun t38 =>
          Ld (b3.add 3) Sl.val fun t41 =>
          ref05_Same.s1 Q a2 b3 (decide ((t38.n : Int) ≠ (t41.n : Int)))))))
theorem ref05_Same_ok (a0 : (Array Value)) (b1 : (Array Value)) (Q : Bool → K) (w : World) (h : ref05_Same a0 b1 Q w) : ref05_Same.call a0 b1 Q w := by
  have hJ8 : ∀ (X2 : Int → K), XH 4 X2 → JH 8 fun D => ∃ (a2_4 : Addr) (b3_4 : Addr) (i5_4 : Int), D [(2, (.pointer (some a2_4))), (3, (.pointer (some b3_4))), (5, (.int .i64 i5_4))] (fun C => ∀ (t89_4 : Bool), C [(2, (.pointer (some a2_4))), (3, (.pointer (some b3_4))), (5, (.int .i64 i5_4)), (89, (.bool t89_4))] (ref05_Same.s4 Q X2 a2_4 b3_4 i5_4 t89_4)) := by intros; exact ⟨fun _ ⟨_, _, _, h⟩ => ⟨_, _, h⟩⟩
  have hJ7 : ∀ (X2 : Int → K), XH 4 X2 → JH 7 fun D => ∃ (a2_3 : Addr) (b3_3 : Addr) (i5_3 : Int), D [(2, (.pointer (some a2_3))), (3, (.pointer (some b3_3))), (5, (.int .i64 i5_3))] (fun C => ∀ (x6_3 : Addr) (y7_3 : Addr), C [(2, (.pointer (some a2_3))), (3, (.pointer (some b3_3))), (5, (.int .i64 i5_3)), (6, (.pointer (some x6_3))), (7, (.pointer (some y7_3)))] (ref05_Same.s3 Q X2 a2_3 b3_3 i5_3 x6_3 y7_3)) := by intros; exact ⟨fun _ ⟨_, _, _, h⟩ => ⟨_, _, h⟩⟩
  have hD6 : DH 6 2 [13] (.s [0, 2, 5, 7, 1, 3, 4, 6, 8, 9] (.a [(10, 1, .a [(11, 1, .a [(12, 1, .a [(13, 0, .e)])])]), (11, 1, .a [(10, 1, .a [(12, 1, .a [(13, 0, .e)])])])])) := by intros; exact ⟨⟩
  have hL4 : ∀ (a2_2 : Addr) (b3_2 : Addr), LH 4 (fun x : Int => [(2, (.pointer (some a2_2))), (3, (.pointer (some b3_2))), (5, (.int .i64 x))]) (fun X x => ref05_Same.b2 Q X a2_2 b3_2 x) := by intros; exact ⟨⟩
  have hJ2 : JH 2 fun D => ∃ (a2_1 : Addr) (b3_1 : Addr), D [(2, (.pointer (some a2_1))), (3, (.pointer (some b3_1)))] (fun C => ∀ (t44_1 : Bool), C [(2, (.pointer (some a2_1))), (3, (.pointer (some b3_1))), (44, (.bool t44_1))] (ref05_Same.s1 Q a2_1 b3_1 t44_1)) := by intros; exact ⟨fun _ ⟨_, _, h⟩ => ⟨_, _, h⟩⟩
  exact g_walk 90 h Try.func26
def ref05_Right.s3 (Q : Bool → K) (X2 : Int → K) (regions1_3 : Int) (t2_3 : Addr) (keys5_3 : Sl) (i6_3 : Int) (t90_3 : Bool) : K :=
  Ite t90_3
    (Q false)
    (Ar (IntKind.wrap .i64 (i6_3 + 1)) fun t60 =>
    X2 t60)
def ref05_Right.s4 (Q : Bool → K) (X2 : Int → K) (t4_4 : Bool) : K :=
  Q t4_4
def ref05_Right.b6 (Q : Bool → K) (X2 : Int → K) (X6 : Int → K) (t2_6 : Addr) (i7_6 : Int) : K :=
  Ld (t2_6.add 3) Sl.val fun t137 =>
  Ite (decide (i7_6 < (t137.n : Int)))
    (Dr <|
    LdN t2_6 5 fun t142 =>
    Ld (t2_6.add 3) Sl.val fun t144 =>
    Idx t144 i7_6 4 fun t146 =>
    LdN t146 4 fun t147 =>
    ref05_op.call t142 t147 fun t148 =>
    Ite (!t148)
      (Q false)
      (Ar (IntKind.wrap .i64 (i7_6 + 1)) fun t141 =>
      X6 t141))
    (Q true)
def ref05_Right.s5 (Q : Bool → K) (X2 : Int → K) (t2_5 : Addr) (t134_5 : Bool) : K :=
  Ite t134_5
    (Q false)
    (LoopK (α := Int) (fun X x => ref05_Right.b6 Q X2 X t2_5 x) 0)
def ref05_Right.b2 (Q : Bool → K)  (X2 : Int → K) (regions1_2 : Int) (t2_2 : Addr) (keys5_2 : Sl) (i6_2 : Int) : K :=
  Ite (decide (i6_2 < (keys5_2.n : Int)))
    (Dr <|
    Idx keys5_2 i6_2 1 fun t63 =>
    Ld t63 Value.string fun t64 =>
    Ite (decide ((t64.size : Int) < 1))
      (ref05_Right.s3 Q X2 regions1_2 t2_2 keys5_2 i6_2 true)
      (Idx keys5_2 i6_2 1 fun t70 =>
      Ld t70 Value.string fun t71 =>
      Ite (decide ((16 : Int) < (t71.size : Int)))
        (ref05_Right.s3 Q X2 regions1_2 t2_2 keys5_2 i6_2 true)
        (Ld (t2_2.add 1) Sl.val fun t78 =>
        Ite (decide (i6_2 < (t78.n : Int)))
          (Idx keys5_2 i6_2 1 fun t86 =>
          Ld (t2_2.add 2) Sl.val fun t83 =>
          Ld t86 Value.string fun t87 =>
          ref05_In.call t83 t87 fun t88 =>
          ref05_Right.s3 Q X2 regions1_2 t2_2 keys5_2 i6_2 t88)
          (ref05_Right.s3 Q X2 regions1_2 t2_2 keys5_2 i6_2 false))))
    (Ld t2_2 (Value.int .i64) fun t92 =>
    Ite (decide (t92 = 2))
      (Ld (t2_2.add 1) Sl.val fun t95 =>
      Ite (decide ((t95.n : Int) = 0))
        (Ld (t2_2.add 3) Sl.val fun t100 =>
        Ite (decide ((t100.n : Int) = 0))
          (Ld (t2_2.add 2) Sl.val fun t106 =>
          Ite (decide ((t106.n : Int) = 1))
            (Ld (t2_2.add 4) (Value.int .i64) fun t112 =>
            Ite (decide ((0 : Int) ≤ t112))
              (Ld (t2_2.add 4) (Value.int .i64) fun t117 =>
              ref05_Right.s4 Q X2 (decide (t117 < regions1_2)))
              (ref05_Right.s4 Q X2 false))
            (ref05_Right.s4 Q X2 false))
          (ref05_Right.s4 Q X2 false))
        (ref05_Right.s4 Q X2 false))
      (Ld t2_2 (Value.int .i64) fun t122 =>
      Ite (decide (t122 ≠ 1))
        (ref05_Right.s5 Q X2 t2_2 true)
        (Ld (t2_2.add 4) (Value.int .i64) fun t126 =>
        Ite (decide (t126 ≠ 0))
          (ref05_Right.s5 Q X2 t2_2 true)
          (Ld (t2_2.add 3) Sl.val fun t131 =>
          ref05_Right.s5 Q X2 t2_2 (decide ((16 : Int) < (t131.n : Int)))))))
def ref05_Right.s1 (Q : Bool → K)  (regions1_1 : Int) (t2_1 : Addr) (t47_1 : Bool) : K :=
  Ite t47_1
    (Q false)
    (Dr <| WithS fun S =>
    LdS S (t2_1.add 1) Sl.val fun t50 =>
    LdS S (t2_1.add 2) Sl.val fun t53 =>
    New 9 #[] fun t48 =>
    Sv S <|
    Do Try.prog (Builtin.append_ #[47, 47] 47 #[(Sl.val (Sl.mk (some t48) 0 0)), (Sl.val t50)]) Sl.val fun t51 =>
    Sv S <|
    Do Try.prog (Builtin.append_ #[47, 47] 47 #[(Sl.val t51), (Sl.val t53)]) Sl.val fun t54 =>
    LoopK (α := Int) (fun X x => ref05_Right.b2 Q X regions1_1 t2_1 t54 x) 0)
def ref05_Right (t0 : (Array Value)) (regions1 : Int) (Q : Bool → K) : K :=
  New 50 t0 fun t2 =>
  Ite (decide (regions1 < 1))
    (ref05_Right.s1 Q regions1 t2 true)
    (Ite (decide ((3 : Int) < regions1))
      (ref05_Right.s1 Q regions1 t2 true)
      (Ld (t2.add 1) Sl.val fun t16 =>
      ref05_Rising.call t16 fun t17 =>
      Ite (!t17)
        (ref05_Right.s1 Q regions1 t2 true)
        (Ld (t2.add 2) Sl.val fun t22 =>
        ref05_Rising.call t22 fun t23 =>
        Ite (!t23)
          (ref05_Right.s1 Q regions1 t2 true)
          (Ld (t2.add 1) Sl.val fun t28 =>
          Ite (decide ((8 : Int) < (t28.n : Int)))
            (ref05_Right.s1 Q regions1 t2 true)
            (Ld (t2.add 2) Sl.val fun t34 =>
            Ite (decide ((8 : Int) < (t34.n : Int)))
              (ref05_Right.s1 Q regions1 t2 true)
              (Ld (t2.add 1) Sl.val fun t40 =>
              Ld (t2.add 2) Sl.val fun t43 =>
              Ar (IntKind.wrap .i64 ((t40.n : Int) + (t43.n : Int))) fun t45 =>
              ref05_Right.s1 Q regions1 t2 (decide ((8 : Int) < t45))))))))
theorem ref05_Right_ok (t0 : (Array Value)) (regions1 : Int) (Q : Bool → K) (w : World) (h : ref05_Right t0 regions1 Q w) : ref05_Right.call t0 regions1 Q w := by
  have hJ8 : ∀ (X2 : Int → K), XH 5 X2 → JH 8 fun D => ∃ (regions1_3 : Int) (t2_3 : Addr) (keys5_3 : Sl) (i6_3 : Int), D [(1, (.int .i64 regions1_3)), (2, (.pointer (some t2_3))), (5, (Sl.val keys5_3)), (6, (.int .i64 i6_3))] (fun C => ∀ (t90_3 : Bool), C [(1, (.int .i64 regions1_3)), (2, (.pointer (some t2_3))), (5, (Sl.val keys5_3)), (6, (.int .i64 i6_3)), (90, (.bool t90_3))] (ref05_Right.s3 Q X2 regions1_3 t2_3 keys5_3 i6_3 t90_3)) := by intros; exact ⟨fun _ ⟨_, _, _, _, h⟩ => ⟨_, _, h⟩⟩
  have hD7 : DH 7 1 [27] (.s [0, 1, 2, 3, 4, 5, 6] (.i (.s [7, 8, 9, 10, 11, 12, 13, 14, 15, 16, 17, 18, 19, 20, 21, 22, 23, 24, 25, 26, 27, 28, 29] .e) (.s [7, 8, 9, 10, 11, 12, 13, 14] (.i (.s [15, 16, 17, 18, 19, 20, 21, 22, 23, 24, 25, 26, 27, 28, 29] .e) (.s [15, 16, 17, 18, 19, 20] (.i (.s [21, 23, 24, 25, 22, 26] (.a [(27, 0, .s [28, 29] .e)])) (.s [21, 22, 23, 24, 25, 26, 27, 28, 29] .e))))))) := by intros; exact ⟨⟩
  have hJ1000010 : ∀ (X2 : Int → K), XH 5 X2 → JH 1000010 fun D => D [] (fun C => ∀ (t4_4 : Bool), C [(4, (.bool t4_4))] (ref05_Right.s4 Q X2 t4_4)) := by intros; exact ⟨fun _ h => ⟨_, _, h⟩⟩
  have hD16 : DH 16 1 [6] (.s [1, 3, 0, 2, 4, 5] (.a [(6, 0, .s [7] .e)])) := by intros; exact ⟨⟩
  have hL14 : ∀ (X2 : Int → K), XH 5 X2 → ∀ (t2_6 : Addr), LH 14 (fun x : Int => [(2, (.pointer (some t2_6))), (7, (.int .i64 x))]) (fun X x => ref05_Right.b6 Q X2 X t2_6 x) := by intros; exact ⟨⟩
  have hJ12 : ∀ (X2 : Int → K), XH 5 X2 → JH 12 fun D => ∃ (t2_5 : Addr), D [(2, (.pointer (some t2_5)))] (fun C => ∀ (t134_5 : Bool), C [(2, (.pointer (some t2_5))), (134, (.bool t134_5))] (ref05_Right.s5 Q X2 t2_5 t134_5)) := by intros; exact ⟨fun _ ⟨_, h⟩ => ⟨_, _, h⟩⟩
  have hL5 : ∀ (regions1_2 : Int) (t2_2 : Addr) (keys5_2 : Sl), LH 5 (fun x : Int => [(1, (.int .i64 regions1_2)), (2, (.pointer (some t2_2))), (5, (Sl.val keys5_2)), (6, (.int .i64 x))]) (fun X x => ref05_Right.b2 Q X regions1_2 t2_2 keys5_2 x) := by intros; exact ⟨⟩
  have hD3 : DH 3 2 [6] (.s [1, 4, 2, 5] (.a [(0, 1, .a [(3, 1, .a [(6, 0, .s [7] .e)])])])) := by intros; exact ⟨⟩
  have hJ2 : JH 2 fun D => ∃ (regions1_1 : Int) (t2_1 : Addr), D [(1, (.int .i64 regions1_1)), (2, (.pointer (some t2_1)))] (fun C => ∀ (t47_1 : Bool), C [(1, (.int .i64 regions1_1)), (2, (.pointer (some t2_1))), (47, (.bool t47_1))] (ref05_Right.s1 Q regions1_1 t2_1 t47_1)) := by intros; exact ⟨fun _ ⟨_, _, h⟩ => ⟨_, _, h⟩⟩
  exact g_walk 150 h Try.func33
def ref05_In.b1 (Q : Bool → K)  (X1 : Int → K) (list0_1 : Sl) (key1_1 : ByteArray) (i5_1 : Int) : K :=
  Ite (decide (i5_1 < (list0_1.n : Int)))
    (Idx list0_1 i5_1 1 fun t14 =>
    Ld t14 Value.string fun t15 =>
    Ite (t15.toList == key1_1.toList)
      (Q true)
      (Ar (IntKind.wrap .i64 (i5_1 + 1)) fun t11 =>
      X1 t11))
    (Q false)
def ref05_In (list0 : Sl) (key1 : ByteArray) (Q : Bool → K) : K :=
  LoopK (α := Int) (fun X x => ref05_In.b1 Q X list0 key1 x) 0
theorem ref05_In_ok (list0 : Sl) (key1 : ByteArray) (Q : Bool → K) (w : World) (h : ref05_In list0 key1 Q w) : ref05_In.call list0 key1 Q w := by
  have hL2 : ∀ (list0_1 : Sl) (key1_1 : ByteArray), LH 2 (fun x : Int => [(0, (Sl.val list0_1)), (1, (.string key1_1)), (5, (.int .i64 x))]) (fun X x => ref05_In.b1 Q X list0_1 key1_1 x) := by intros; exact ⟨⟩
  exact g_walk 18 h Try.func36
def ref05_Keys.s2 (Q : Sl → K) (X1 : Sl → Int → K) (out3_2 : Sl) (all4_2 : Sl) (i5_2 : Int) : K :=
  Ar (IntKind.wrap .i64 (i5_2 + 1)) fun t21 =>
  X1 out3_2 t21
def ref05_Keys.s4 (Q : Sl → K) (X1 : Sl → Int → K) (X3 : Int → K) (out3_4 : Sl) (all4_4 : Sl) (i5_4 : Int) (k6_4 : Int) (t51_4 : Bool) : K :=
  Ite t51_4
    (Idx out3_4 k6_4 1 fun t56 =>
    Ld t56 Value.string fun t57 =>
    Ar (IntKind.wrap .i64 (k6_4 - 1)) fun t62 =>
    Idx out3_4 t62 1 fun t63 =>
    Ld t63 Value.string fun t64 =>
    Idx out3_4 k6_4 1 fun t65 =>
    St t65 (.string t64) <|
    Ar (IntKind.wrap .i64 (k6_4 - 1)) fun t68 =>
    Idx out3_4 t68 1 fun t70 =>
    St t70 (.string t57) <|
    Ar (IntKind.wrap .i64 (k6_4 - 1)) fun t53 =>
    X3 t53)
    (ref05_Keys.s2 Q X1 out3_4 all4_4 i5_4)
def ref05_Keys.b3 (Q : Sl → K) (X1 : Sl → Int → K) (X3 : Int → K) (out3_3 : Sl) (all4_3 : Sl) (i5_3 : Int) (k6_3 : Int) : K :=
  Dr <|
  Ite (decide ((0 : Int) < k6_3))
    (Idx out3_3 k6_3 1 fun t43 =>
    Ld t43 Value.string fun t44 =>
    Ar (IntKind.wrap .i64 (k6_3 - 1)) fun t47 =>
    Idx out3_3 t47 1 fun t48 =>
    Ld t48 Value.string fun t49 =>
    ref05_Keys.s4 Q X1 X3 out3_3 all4_3 i5_3 k6_3 (Op.bytesLess t44.toList t49.toList))
    (ref05_Keys.s4 Q X1 X3 out3_3 all4_3 i5_3 k6_3 false)
def ref05_Keys.b1 (Q : Sl → K)  (X1 : Sl → Int → K) (all4_1 : Sl) (out3_1 : Sl) (i5_1 : Int) : K :=
  Ite (decide (i5_1 < (all4_1.n : Int)))
    (Idx all4_1 i5_1 1 fun t25 =>
    Ld t25 Value.string fun t26 =>
    ref05_In.call out3_1 t26 fun t27 =>
    Ite t27
      (ref05_Keys.s2 Q X1 out3_1 all4_1 i5_1)
      (Idx all4_1 i5_1 1 fun t31 =>
      Ld t31 Value.string fun t32 =>
      New 9 #[(.string t32)] fun t33 =>
      Do Try.prog (Builtin.append_ #[47, 47] 47 #[(Sl.val out3_1), (Sl.val (Sl.mk (some t33) 1 1))]) Sl.val fun t34 =>
      Ar (IntKind.wrap .i64 ((t34.n : Int) - 1)) fun t37 =>
      LoopK (α := Int) (fun X x => ref05_Keys.b3 Q X1 X t34 all4_1 i5_1 x) t37))
    (Q out3_1)
def ref05_Keys (t0 : (Array Value)) (Q : Sl → K) : K :=
  New 50 t0 fun t1 =>
  New 9 #[] fun t8 =>
  Dr <| WithS fun S =>
  LdS S (t1.add 1) Sl.val fun t11 =>
  LdS S (t1.add 2) Sl.val fun t14 =>
  New 9 #[] fun t9 =>
  Sv S <|
  Do Try.prog (Builtin.append_ #[47, 47] 47 #[(Sl.val (Sl.mk (some t9) 0 0)), (Sl.val t11)]) Sl.val fun t12 =>
  Sv S <|
  Do Try.prog (Builtin.append_ #[47, 47] 47 #[(Sl.val t12), (Sl.val t14)]) Sl.val fun t15 =>
  LoopK (α := Sl × Int) (fun X x => ref05_Keys.b1 Q (fun out3_1 i5_1 => X (out3_1, i5_1)) t15 x.1 x.2) ((Sl.mk (some t8) 0 0), 0)
theorem ref05_Keys_ok (t0 : (Array Value)) (Q : Sl → K) (w : World) (h : ref05_Keys t0 Q w) : ref05_Keys.call t0 Q w := by
  have hJ5 : ∀ (X1 : (Sl × Int) → K), XH 4 X1 → JH 5 fun D => ∃ (all4_2 : Sl) (i5_2 : Int), D [(4, (Sl.val all4_2)), (5, (.int .i64 i5_2))] (fun C => ∀ (out3_2 : Sl), C [(3, (Sl.val out3_2)), (4, (Sl.val all4_2)), (5, (.int .i64 i5_2))] (ref05_Keys.s2 Q (fun out3_1 i5_1 => X1 (out3_1, i5_1)) out3_2 all4_2 i5_2)) := by intros; exact ⟨fun _ ⟨_, _, h⟩ => ⟨_, _, h⟩⟩
  have hJ1000009 : ∀ (X1 : (Sl × Int) → K), XH 4 X1 → ∀ (X3 : Int → K), XH 9 X3 → JH 1000009 fun D => ∃ (out3_4 : Sl) (all4_4 : Sl) (i5_4 : Int) (k6_4 : Int), D [(3, (Sl.val out3_4)), (4, (Sl.val all4_4)), (5, (.int .i64 i5_4)), (6, (.int .i64 k6_4))] (fun C => ∀ (t51_4 : Bool), C [(3, (Sl.val out3_4)), (4, (Sl.val all4_4)), (5, (.int .i64 i5_4)), (6, (.int .i64 k6_4)), (51, (.bool t51_4))] (ref05_Keys.s4 Q (fun out3_1 i5_1 => X1 (out3_1, i5_1)) X3 out3_4 all4_4 i5_4 k6_4 t51_4)) := by intros; exact ⟨fun _ ⟨_, _, _, _, h⟩ => ⟨_, _, h⟩⟩
  have hL9 : ∀ (X1 : (Sl × Int) → K), XH 4 X1 → ∀ (out3_3 : Sl) (all4_3 : Sl) (i5_3 : Int), LH 9 (fun x : Int => [(3, (Sl.val out3_3)), (4, (Sl.val all4_3)), (5, (.int .i64 i5_3)), (6, (.int .i64 x))]) (fun X x => ref05_Keys.b3 Q (fun out3_1 i5_1 => X1 (out3_1, i5_1)) X out3_3 all4_3 i5_3 x) := by intros; exact ⟨⟩
  have hL4 : ∀ (all4_1 : Sl), LH 4 (fun x : Sl × Int => [(3, (Sl.val x.1)), (4, (Sl.val all4_1)), (5, (.int .i64 x.2))]) (fun X x => ref05_Keys.b1 Q (fun out3_1 i5_1 => X (out3_1, i5_1)) all4_1 x.1 x.2) := by intros; exact ⟨⟩
  have hD2 : DH 2 2 [6] (.s [1, 4, 2, 5] (.a [(0, 1, .a [(3, 1, .a [(6, 0, .s [7] .e)])])])) := by intros; exact ⟨⟩
  exact g_walk 72 h Try.func37
def ref05_SameTexts.b1 (Q : Bool → K)  (X1 : Int → K) (a0_1 : Sl) (b1_1 : Sl) (i5_1 : Int) : K :=
  Ite (decide (i5_1 < (a0_1.n : Int)))
    (Dr <|
    Idx a0_1 i5_1 1 fun t19 =>
    Ld t19 Value.string fun t20 =>
    Idx b1_1 i5_1 1 fun t23 =>
    Ld t23 Value.string fun t24 =>
    Ite (!(t20.toList == t24.toList))
      (Q false)
      (Ar (IntKind.wrap .i64 (i5_1 + 1)) fun t16 =>
      X1 t16))
    (Q true)
def ref05_SameTexts (a0 : Sl) (b1 : Sl) (Q : Bool → K) : K :=
  Ite (decide ((a0.n : Int) ≠ (b1.n : Int)))
    (Q false)
    (LoopK (α := Int) (fun X x => ref05_SameTexts.b1 Q X a0 b1 x) 0)
theorem ref05_SameTexts_ok (a0 : Sl) (b1 : Sl) (Q : Bool → K) (w : World) (h : ref05_SameTexts a0 b1 Q w) : ref05_SameTexts.call a0 b1 Q w := by
  have hL4 : ∀ (a0_1 : Sl) (b1_1 : Sl), LH 4 (fun x : Int => [(0, (Sl.val a0_1)), (1, (Sl.val b1_1)), (5, (.int .i64 x))]) (fun X x => ref05_SameTexts.b1 Q X a0_1 b1_1 x) := by intros; exact ⟨⟩
  exact g_walk 26 h Try.func61
def ref05_Rising.b1 (Q : Bool → K)  (X1 : Int → K) (list0_1 : Sl) (i3_1 : Int) : K :=
  Ite (decide (i3_1 < (list0_1.n : Int)))
    (Dr <|
    Ar (IntKind.wrap .i64 (i3_1 - 1)) fun t12 =>
    Idx list0_1 t12 1 fun t13 =>
    Ld t13 Value.string fun t14 =>
    Idx list0_1 i3_1 1 fun t17 =>
    Ld t17 Value.string fun t18 =>
    Ite (!(Op.bytesLess t14.toList t18.toList))
      (Q false)
      (Ar (IntKind.wrap .i64 (i3_1 + 1)) fun t9 =>
      X1 t9))
    (Q true)
def ref05_Rising (list0 : Sl) (Q : Bool → K) : K :=
  LoopK (α := Int) (fun X x => ref05_Rising.b1 Q X list0 x) 1
theorem ref05_Rising_ok (list0 : Sl) (Q : Bool → K) (w : World) (h : ref05_Rising list0 Q w) : ref05_Rising.call list0 Q w := by
  have hL2 : ∀ (list0_1 : Sl), LH 2 (fun x : Int => [(0, (Sl.val list0_1)), (3, (.int .i64 x))]) (fun X x => ref05_Rising.b1 Q X list0_1 x) := by intros; exact ⟨⟩
  exact g_walk 20 h Try.func65
def ref05_op.s2 (Q : Bool → K)  (t4_2 : Bool) : K :=
  Q t4_2
def ref05_op.s5 (Q : Bool → K)  (t4_5 : Bool) : K :=
  Q t4_5
def ref05_op.s4 (Q : Bool → K)  (o3_4 : Addr) (t66_4 : Bool) : K :=
  Ite t66_4
    (Q false)
    (Ld o3_4 (Value.int .i64) fun t68 =>
    Ite (decide (t68 = 2))
      (ref05_op.s5 Q true)
      (Ld o3_4 (Value.int .i64) fun t72 =>
      Ite (decide (t72 = 4))
        (ref05_op.s5 Q true)
        (Ld (o3_4.add 2) Sl.val fun t77 =>
        ref05_op.s5 Q (decide ((t77.n : Int) = 0)))))
def ref05_op.s3 (Q : Bool → K)  (o3_3 : Addr) (t58_3 : Bool) : K :=
  Ite t58_3
    (Q false)
    (Ld o3_3 (Value.int .i64) fun t60 =>
    Ite (decide (t60 ≠ 6))
      (Ld (o3_3.add 3) (Value.int .i64) fun t64 =>
      ref05_op.s4 Q o3_3 (decide (t64 ≠ 0)))
      (ref05_op.s4 Q o3_3 false))
def ref05_op.s1 (Q : Bool → K)  (t2_1 : Addr) (o3_1 : Addr) (t18_1 : Bool) : K :=
  Ite t18_1
    (Q false)
    (Ld o3_1 (Value.int .i64) fun t20 =>
    Ite (decide (t20 = 7))
      (Ld (o3_1.add 1) Value.string fun t23 =>
      Ite (t23.toList == (⟨#[]⟩ : ByteArray).toList)
        (Ld (o3_1.add 3) (Value.int .i64) fun t27 =>
        ref05_op.s2 Q (decide (t27 = 0)))
        (ref05_op.s2 Q false))
      (Ld (t2_1.add 2) Sl.val fun t31 =>
      Ld (o3_1.add 1) Value.string fun t33 =>
      ref05_In.call t31 t33 fun t34 =>
      Ite (!t34)
        (Ld (t2_1.add 1) Sl.val fun t38 =>
        Ld (o3_1.add 1) Value.string fun t40 =>
        ref05_In.call t38 t40 fun t41 =>
        Ite (!t41)
          (ref05_op.s3 Q o3_1 true)
          (Ld o3_1 (Value.int .i64) fun t45 =>
          Ite (decide (t45 = 2))
            (ref05_op.s3 Q o3_1 true)
            (Ld o3_1 (Value.int .i64) fun t50 =>
            Ite (decide (t50 = 3))
              (ref05_op.s3 Q o3_1 true)
              (Ld o3_1 (Value.int .i64) fun t55 =>
              ref05_op.s3 Q o3_1 (decide (t55 = 6))))))
        (ref05_op.s3 Q o3_1 false)))
def ref05_op (t0 : (Array Value)) (o1 : (Array Value)) (Q : Bool → K) : K :=
  New 50 t0 fun t2 =>
  New 84 o1 fun o3 =>
  Ld (o3.add 2) Sl.val fun t6 =>
  Ite (decide ((32 : Int) < (t6.n : Int)))
    (ref05_op.s1 Q t2 o3 true)
    (Ld o3 (Value.int .i64) fun t11 =>
    Ite (decide (t11 < 1))
      (ref05_op.s1 Q t2 o3 true)
      (Ld o3 (Value.int .i64) fun t16 =>
      ref05_op.s1 Q t2 o3 (decide ((7 : Int) < t16))))
theorem ref05_op_ok (t0 : (Array Value)) (o1 : (Array Value)) (Q : Bool → K) (w : World) (h : ref05_op t0 o1 Q w) : ref05_op.call t0 o1 Q w := by
  have hJ1000004 : JH 1000004 fun D => D [] (fun C => ∀ (t4_2 : Bool), C [(4, (.bool t4_2))] (ref05_op.s2 Q t4_2)) := by intros; exact ⟨fun _ h => ⟨_, _, h⟩⟩
  have hJ1000009 : JH 1000009 fun D => D [] (fun C => ∀ (t4_5 : Bool), C [(4, (.bool t4_5))] (ref05_op.s5 Q t4_5)) := by intros; exact ⟨fun _ h => ⟨_, _, h⟩⟩
  have hJ8 : JH 8 fun D => ∃ (o3_4 : Addr), D [(3, (.pointer (some o3_4)))] (fun C => ∀ (t66_4 : Bool), C [(3, (.pointer (some o3_4))), (66, (.bool t66_4))] (ref05_op.s4 Q o3_4 t66_4)) := by intros; exact ⟨fun _ ⟨_, h⟩ => ⟨_, _, h⟩⟩
  have hJ6 : JH 6 fun D => ∃ (o3_3 : Addr), D [(3, (.pointer (some o3_3)))] (fun C => ∀ (t58_3 : Bool), C [(3, (.pointer (some o3_3))), (58, (.bool t58_3))] (ref05_op.s3 Q o3_3 t58_3)) := by intros; exact ⟨fun _ ⟨_, h⟩ => ⟨_, _, h⟩⟩
  have hJ2 : JH 2 fun D => ∃ (t2_1 : Addr) (o3_1 : Addr), D [(2, (.pointer (some t2_1))), (3, (.pointer (some o3_1)))] (fun C => ∀ (t18_1 : Bool), C [(2, (.pointer (some t2_1))), (3, (.pointer (some o3_1))), (18, (.bool t18_1))] (ref05_op.s1 Q t2_1 o3_1 t18_1)) := by intros; exact ⟨fun _ ⟨_, _, h⟩ => ⟨_, _, h⟩⟩
  exact g_walk 81 h Try.func66
end Go.Proofs.Ytfjjocopmknhgaa
/- The document's transactions: In, SameTexts, Keys, Great, Same. -/
namespace Go.Proofs.Ytfjjocopmknhgaa
open Go Go.Sep
set_option linter.unusedSimpArgs false
set_option linter.unusedVariables false
set_option maxRecDepth 100000

/-- All keys, rising, each once. -/
def keysT (L : List TX) : List TX := cmpct (sortL L)
theorem keysT_rises (L : List TX) : (keysT L).Pairwise (· < ·) := cmpct_rises _ (sortL_le L)
theorem keysT_mem {L : List TX} {x : TX} : x ∈ keysT L ↔ x ∈ L := by unfold keysT; rw [cmpct_mem, sortL_mem]
theorem keysT_len (L : List TX) : (keysT L).length ≤ L.length := by
  have := cmpct_len (sortL L)
  rwa [sortL_len] at this
theorem keysT_eq {L M : List TX} (h : M.Pairwise (· < ·)) (hm : ∀ x, x ∈ M ↔ x ∈ L) : M = keysT L := rises_eq h (keysT_rises L) fun x => by rw [hm, keysT_mem]
section
variable {B : World} {Γ Δ : List HProp} {k : K}
theorem s_str {s : Sl} {xs : List UInt8} {q : ByteArray → K} (hr : ∀ w, Holds B Γ w → RdB w s xs) (h : HG B Γ (q (bs xs))) : HG B Γ (Rd Try.prog (convert ty_s_uint8 ty_string s.val) Value.string q) := fun w hw => r_str (by kernel_rfl) (hr w hw) (h w hw)
theorem in05_hg {s : Sl} {L : List TX} {key : TX} {Q : Bool → K} (hL : L.length < 1000000000) (hr : ∀ w, Holds B Γ w → RdC w s 1 (L.map strV)) (h : HG B Γ (Q (decide (key ∈ L)))) : HG B Γ (ref05_In.call s (bs key) Q) := fun w hw => by
  refine ref05_In_ok _ _ _ _ ?_
  have hn : s.n = L.length := by have := (hr w hw).len; simpa using this.symm
  refine Sep.hg hw ?_
  clear hw w
  unfold ref05_In
  refine s_loopC (α := Int) (fun x => ∃ i : Nat, x = (i : Int) ∧ i ≤ L.length ∧ key ∉ L.take i) (fun x => L.length - x.toNat) ⟨0, rfl, Nat.zero_le _, by simp⟩ fun k' x hx hk' => ?_
  obtain ⟨i, rfl, hi, hno⟩ := hx
  unfold ref05_In.b1
  refine s_ite (fun hb => ?_) fun hb => ?_
  · have hil : i < L.length := by simp only [decide_eq_true_eq] at hb; omega
    have hge : L[i]? = some L[i] := List.getElem?_eq_getElem hil
    have hmem : L[i] ∈ L := List.getElem_mem hil
    have htk : L.take (i + 1) = L.take i ++ [L[i]] := List.take_succ_eq_append_getElem hil
    generalize L[i] = x at hge hmem htk
    refine s_idxS hr hge ?_
    rw [bs_list, bs_list]
    refine s_ite (fun he => ?_) fun he => ?_
    · have he' : x = key := by simpa using he
      rw [show decide (key ∈ L) = true by rw [← he']; simpa using hmem] at h
      exact h
    · have he' : ¬ x = key := by simpa using he
      refine s_ai ?_
      refine hk' _ ⟨i + 1, by simp, hil, ?_⟩ (by omega)
      rw [htk]
      simp only [List.mem_append, List.mem_singleton, not_or]
      exact ⟨hno, fun e => he' e.symm⟩
  · have hil : i = L.length := by simp only [decide_eq_false_iff_not] at hb; omega
    rw [hil, List.take_length] at hno
    rw [show decide (key ∈ L) = false by simpa using hno] at h
    exact h
theorem texts05_hg {a b : Sl} {La Lb : List TX} {Q : Bool → K} (hL : La.length < 1000000000) (ha : ∀ w, Holds B Γ w → RdC w a 1 (La.map strV)) (hb : ∀ w, Holds B Γ w → RdC w b 1 (Lb.map strV)) (h : HG B Γ (Q (decide (La = Lb)))) : HG B Γ (ref05_SameTexts.call a b Q) := fun w hw => by
  refine ref05_SameTexts_ok _ _ _ _ ?_
  have han : a.n = La.length := by have := (ha w hw).len; simpa using this.symm
  have hbn : b.n = Lb.length := by have := (hb w hw).len; simpa using this.symm
  refine Sep.hg hw ?_
  clear hw w
  unfold ref05_SameTexts
  refine s_ite (fun hc => ?_) fun hc => ?_
  · have hne : La.length ≠ Lb.length := by simp only [decide_eq_true_eq] at hc; omega
    rw [show decide (La = Lb) = false by simpa using fun e => hne (by rw [e])] at h
    exact h
  have hll : La.length = Lb.length := by simp only [decide_eq_false_iff_not] at hc; omega
  refine s_loopC (α := Int) (fun x => ∃ i : Nat, x = (i : Int) ∧ i ≤ La.length ∧ La.take i = Lb.take i) (fun x => La.length - x.toNat) ⟨0, rfl, Nat.zero_le _, by simp⟩ fun k' x hx hk' => ?_
  obtain ⟨i, rfl, hi, he⟩ := hx
  unfold ref05_SameTexts.b1
  refine s_ite (fun hc2 => ?_) fun hc2 => ?_
  · have hil : i < La.length := by simp only [decide_eq_true_eq] at hc2; omega
    have hil2 : i < Lb.length := by omega
    have t1 := List.take_succ_eq_append_getElem hil
    have t2 := List.take_succ_eq_append_getElem hil2
    have g1 : La[i]? = some La[i] := List.getElem?_eq_getElem hil
    have g2 : Lb[i]? = some Lb[i] := List.getElem?_eq_getElem hil2
    generalize La[i] = x at t1 g1
    generalize Lb[i] = y at t2 g2
    repeat refine s_nx ?_
    refine s_idxS ha g1 ?_
    refine s_idxS hb g2 ?_
    rw [bs_list, bs_list]
    refine s_ite (fun hp => ?_) fun hp => ?_
    · have hp' : ¬ x = y := by simpa using hp
      rw [show decide (La = Lb) = false by simp only [decide_eq_false_iff_not]; rintro rfl; rw [g1] at g2; exact hp' (Option.some.inj g2)] at h
      exact h
    · have hp' : x = y := by simpa using hp
      refine s_ai ?_
      exact hk' _ ⟨i + 1, by simp, hil, by rw [t1, t2, he, hp']⟩ (by omega)
  · have hil : i = La.length := by simp only [decide_eq_false_iff_not] at hc2; omega
    rw [hil, List.take_length, hll, List.take_length] at he
    rw [show decide (La = Lb) = true by simpa using he] at h
    exact h
/-- A text goes to its place. -/
theorem bubble_hg {s all : Sl} {A : List TX} {x : TX} {X1 : Sl → Int → K} {Q : Sl → K} {i : Int} (hA : A.Pairwise (· < ·)) (hx : x ∉ A) (hL : A.length < 100000000)
    (h : ∀ M, M.Pairwise (· < ·) → (∀ y, y ∈ M ↔ y = x ∨ y ∈ A) → M.length = A.length + 1 → HG B (SlS s M :: Γ) (ref05_Keys.s2 Q X1 s all i)) :
    HG B (SlS s (A ++ [x]) :: Γ) (LoopK (α := Int) (fun X y => ref05_Keys.b3 Q X1 X s all i y) (A.length : Int)) := by
  refine s_loop (α := Int) (ι := List TX × List TX) (fun y i => y = (i.1.length : Int) ∧ A = i.1 ++ i.2 ∧ ∀ z ∈ i.2, x < z) (fun y i => SlS s (i.1 ++ x :: i.2) :: Γ) (fun y i => i.1.length) (A, []) ⟨rfl, by simp, by simp⟩ ?_
  rintro k' _ ⟨A1, A2⟩ ⟨rfl, rfl, h2⟩ hk'
  simp only at h2 hk' ⊢
  have hpw := List.pairwise_append.1 hA
  have hlen : (A1 ++ A2).length = A1.length + A2.length := List.length_append
  have stop : (∀ z ∈ A1, z < x) → HG B (SlS s (A1 ++ x :: A2) :: Γ) (ref05_Keys.s4 Q X1 k' s all i (A1.length : Int) false) := fun h1 => by
    unfold ref05_Keys.s4
    refine s_f ?_
    refine h (A1 ++ x :: A2) (List.pairwise_append.2 ⟨hpw.1, List.pairwise_cons.2 ⟨h2, hpw.2.1⟩, fun a ha b hb => ?_⟩) (fun y => by simp only [List.mem_append, List.mem_cons]; constructor <;> (intro h; rcases h with h | h | h <;> simp [h])) (by simp; omega)
    rcases List.mem_cons.1 hb with rfl | hb
    · exact h1 a ha
    · exact hpw.2.2 a ha b hb
  unfold ref05_Keys.b3
  refine s_cap s fun a1 a2 a3 a4 => ?_
  have hn : s.n = A1.length + (A2.length + 1) := by simpa using a1.symm
  repeat refine s_nx ?_
  rcases List.eq_nil_or_concat A1 with rfl | ⟨A1, y, rfl⟩
  · refine s_f ?_
    exact stop (by simp)
  simp only [List.concat_eq_append] at *
  have hl1 : (A1 ++ [y]).length = A1.length + 1 := by simp
  rw [hl1] at hn hlen hk' ⊢
  refine s_t ?_ (by simp)
  have e1 : ((A1 ++ [y]) ++ x :: A2)[A1.length + 1]? = some x := by rw [List.getElem?_append_right (by simp), hl1]; simp
  have e2 : ((A1 ++ [y]) ++ x :: A2)[A1.length]? = some y := by rw [List.append_assoc]; simp
  refine s_idxS (L := (A1 ++ [y]) ++ x :: A2) (j := A1.length + 1) (fun w hw => (own_rd (s := s) hw).1) e1 ?_ rfl
  refine s_ai ?_
  refine s_idxS (L := (A1 ++ [y]) ++ x :: A2) (j := A1.length) (fun w hw => (own_rd (s := s) hw).1) e2 ?_ (by omega)
  rw [bs_list, bs_list, bytesLess_dec]
  by_cases hxy : x < y
  · rw [show decide (x < y) = true by simpa using hxy]
    unfold ref05_Keys.s4
    refine s_t ?_
    refine s_idxS (L := (A1 ++ [y]) ++ x :: A2) (j := A1.length + 1) (fun w hw => (own_rd (s := s) hw).1) e1 ?_ rfl
    refine s_ai ?_
    refine s_idxS (L := (A1 ++ [y]) ++ x :: A2) (j := A1.length) (fun w hw => (own_rd (s := s) hw).1) e2 ?_ (by omega)
    refine s_idx (s := s) (i := A1.length + 1) ?_
    rw [← add0 (elA s (A1.length + 1) 1)]
    refine s_stE (s := s) ?_ (by simp)
    refine s_ai ?_
    refine s_idx (s := s) (i := A1.length) ?_
    rw [← add0 (elA s A1.length 1)]
    refine s_stE (s := s) ?_ (by simp)
    refine s_ai ?_
    have e3 : ((((A1 ++ [y]) ++ x :: A2).map strV).set ((A1.length + 1) * 1 + 0) (strV y)).set (A1.length * 1 + 0) (strV x) = (A1 ++ x :: (y :: A2)).map strV := by
      rw [show (A1.length + 1) * 1 + 0 = (A1 ++ [y]).length by simp, show A1.length * 1 + 0 = A1.length by omega, ← List.map_set, ← List.map_set]
      rw [List.set_append_right _ _ (Nat.le_refl _), Nat.sub_self, List.set_cons_zero, List.append_assoc, List.set_append_right _ _ (Nat.le_refl _), Nat.sub_self]
      rfl
    rw [show ((A1 ++ [y] ++ x :: A2).map strV).set ((A1.length + 1) * 1 + 0) (Value.string (bs y)) = ((A1 ++ [y] ++ x :: A2).map strV).set ((A1.length + 1) * 1 + 0) (strV y) from rfl, show Value.string (bs x) = strV x from rfl, e3]
    refine hk' _ (A1, y :: A2) ⟨by simp, by simp, fun z hz => ?_⟩ (by simp)
    rcases List.mem_cons.1 hz with rfl | hz
    · exact hxy
    · exact h2 z hz
  · rw [show decide (x < y) = false by simpa using hxy]
    have := stop fun z hz => by
      have hyx : y < x := by
        have h4 : y ≤ x := List.not_lt.1 hxy
        rcases List.le_iff_lt_or_eq.1 h4 with h5 | h5
        · exact h5
        · exact absurd (by rw [← h5]; simp) hx
      rcases List.mem_append.1 hz with hz | hz
      · exact List.lt_trans ((List.pairwise_append.1 hpw.1).2.2 z hz y (by simp)) hyx
      · rw [List.mem_singleton.1 hz]; exact hyx
    rw [hl1] at this
    exact this
theorem keys05_hg {t : TxX} {Q : Sl → K} (hr1 : ∀ w, Holds B Γ w → RdC w t.rs 1 (t.reads.map strV)) (hr2 : ∀ w, Holds B Γ w → RdC w t.ws 1 (t.writes.map strV)) (hl : t.reads.length ≤ 10000000) (hl2 : t.writes.length ≤ 10000000) (h : ∀ s, HG B (SlS s (keysT (t.reads ++ t.writes)) :: Γ) (Q s)) : HG B Γ (ref05_Keys.call (txL t).toArray Q) := fun w hw => by
  refine ref05_Keys_ok _ _ _ ?_
  have hn1 : t.rs.n = t.reads.length := by have := (hr1 w hw).len; simpa using this.symm
  have hn2 : t.ws.n = t.writes.length := by have := (hr2 w hw).len; simpa using this.symm
  refine Sep.hg hw ?_
  clear hw w
  unfold ref05_Keys
  refine s_new fun t1 => ?_
  refine s_new fun t8 => ?_
  refine s_conv (A' := SlS ⟨some ⟨t8, 0, none⟩, 0, 0⟩ []) (blk_SlC (vs := []) rfl (by simp)) ?_
  refine s_dr ?_
  refine s_wsD [blk t1 (.cells (txL t).toArray ty_api_Txn (0, 0))] ?_
  repeat refine s_nx ?_
  refine s_new fun t9 => ?_
  refine s_conv (A' := SlC ty_string 1 ⟨some ⟨t9, 0, none⟩, 0, 0⟩ []) (blk_SlC (vs := []) rfl (by simp)) ?_
  repeat refine s_nx ?_
  refine s_append (s := ⟨some ⟨t9, 0, none⟩, 0, 0⟩) (us := t.reads.map strV) (fun w hw => hr1 w hw.drops) (fun v hv => by obtain ⟨y, _, rfl⟩ := List.mem_map.1 hv; rfl) (by simp only; omega) fun a1 ha1 => ?_
  repeat refine s_nx ?_
  refine s_append (s := a1) (us := t.writes.map strV) (fun w hw => hr2 w hw.drops) (fun v hv => by obtain ⟨y, _, rfl⟩ := List.mem_map.1 hv; rfl) (by simp only at ha1; omega) fun all hall => ?_
  rw [show [] ++ t.reads.map strV ++ t.writes.map strV = (t.reads ++ t.writes).map strV by simp]
  have hln : (t.reads ++ t.writes).length = t.reads.length + t.writes.length := List.length_append
  generalize hLL : t.reads ++ t.writes = L at *
  have halln : all.n = L.length := by simp only at ha1; omega
  refine s_end (Δ := SlS ⟨some ⟨t8, 0, none⟩, 0, 0⟩ [] :: SlS all L :: Γ) ?_
  refine s_loop (α := Sl × Int) (ι := Nat × List TX) (fun y i => y.2 = (i.1 : Int) ∧ i.1 ≤ L.length ∧ i.2.Pairwise (· < ·) ∧ (∀ z, z ∈ i.2 ↔ z ∈ L.take i.1) ∧ i.2.length ≤ i.1) (fun y i => SlS y.1 i.2 :: SlS all L :: Γ) (fun y i => L.length - i.1) (0, []) ⟨rfl, Nat.zero_le _, List.Pairwise.nil, by simp, by simp⟩ ?_
  rintro k' ⟨o, _⟩ ⟨i, M⟩ ⟨rfl, hi, hM, hm, hMl⟩ hk'
  simp only at hi hM hm hMl hk' ⊢
  unfold ref05_Keys.b1
  refine s_cap o fun b1 b2 b3 b4 => ?_
  rw [List.length_map, Nat.mul_one] at b1
  refine s_ite (fun hb => ?_) fun hb => ?_
  · have hil : i < L.length := by simp only [decide_eq_true_eq] at hb; omega
    have hge : L[i]? = some L[i] := List.getElem?_eq_getElem hil
    have htk : L.take (i + 1) = L.take i ++ [L[i]] := List.take_succ_eq_append_getElem hil
    generalize L[i] = x at hge htk
    refine s_idxS (L := L) (fun w hw => (own_rd (s := all) hw).1) hge ?_
    refine in05_hg (L := M) (by omega) (fun w hw => (own_rd (s := o) hw).1) ?_
    refine s_ite (fun he => ?_) fun he => ?_
    · have hxM : x ∈ M := by simpa using he
      unfold ref05_Keys.s2
      refine s_ai ?_
      refine hk' (o, (i : Int) + 1) (i + 1, M) ⟨by simp, hil, hM, fun z => ?_, by simp only; omega⟩ (by simp only; omega)
      rw [htk, List.mem_append, ← hm]
      simp only [List.mem_singleton]
      constructor
      · exact fun h => .inl h
      · rintro (h | rfl)
        · exact h
        · exact hxM
    · have hxM : x ∉ M := by simpa using he
      refine s_idxS (L := L) (fun w hw => (own_rd (s := all) hw).1) hge ?_
      refine s_new fun t33 => ?_
      refine s_append (s := o) (us := [strV x]) (blk_rd rfl) (by simp [flatV]) (by simp only; omega) fun o2 ho2 => ?_
      rw [show M.map strV ++ [strV x] = (M ++ [x]).map strV by simp]
      refine s_ar (e' := (M.length : Int)) (by simp only at ho2; rw [wrap64 (by omega) (by omega)]; omega) ?_
      refine bubble_hg hM hxM (by omega) fun M2 h1 h2 h3 => ?_
      unfold ref05_Keys.s2
      refine s_ai ?_
      refine s_end (hk' (o2, (i : Int) + 1) (i + 1, M2) ⟨by simp, hil, h1, fun z => ?_, by simp only; omega⟩ (by simp only; omega))
      rw [h2, htk, List.mem_append, ← hm]
      simp only [List.mem_singleton]
      exact or_comm
  · have hil : i = L.length := by simp only [decide_eq_false_iff_not] at hb; omega
    rw [hil, List.take_length] at hm
    rw [keysT_eq hM hm]
    exact s_end (h o)
end
end Go.Proofs.Ytfjjocopmknhgaa
/- The document's transactions: Great, Same. -/
namespace Go.Proofs.Ytfjjocopmknhgaa
open Go Go.Sep
set_option linter.unusedSimpArgs false
set_option linter.unusedVariables false
set_option maxRecDepth 100000

abbrev GreatP (t : TxX) : Prop := 40 < t.reads.length ∨ 40 < t.writes.length ∨ 60 < t.ops.length ∨ (∃ k ∈ t.reads, 200 < k.length) ∨ (∃ k ∈ t.writes, 200 < k.length) ∨ ∃ x ∈ t.ops, 200 < x.1.key.length ∨ 200 < x.1.val.length
abbrev SameP (a b : TxX) : Prop := a.kind = b.kind ∧ a.to = b.to ∧ a.reads = b.reads ∧ a.writes = b.writes ∧ a.ops.map Prod.fst = b.ops.map Prod.fst
section
variable {B : World} {Γ Γ0 Δ : List HProp} {k : K}
/-- An element is looked at in every state that bears this. -/
theorem s_idxNS {α : Type} (f : α → List Value) {esz : Nat} {L : List α} {s : Sl} {j : Nat} {jj : Int} {x : α} {k : Array Value → K} (hf : ∀ x, (f x).length = esz) (he : 0 < esz) (hr : ∀ w, Holds B Γ w → RdC w s esz (L.flatMap f)) (hr0 : ∀ w, Holds B Γ0 w → RdC w s esz (L.flatMap f)) (hx : L[j]? = some x) (h : HG B Γ (k (f x).toArray)) (hj : jj = (j : Int) := by first | rfl | omega) :
    HG B Γ (Idx s jj esz fun t => LdNS (Holds B Γ0) t esz k) := fun w hw => by
  subst hj
  have hrw := hr w hw
  have hj : j < L.length := (List.getElem?_eq_some_iff.1 hx).1
  have hn : L.length = s.n := by
    have := hrw.len; rw [flatMap_len f esz hf] at this
    exact Nat.eq_of_mul_eq_mul_right he this
  cases ha : s.a with
  | none => have := hrw.nil ha; omega
  | some a =>
    refine ⟨a, _, ha, by omega, by omega, rfl, _, by simp [hf], fun w' hw' => ?_, h w hw⟩
    simp only [Int.toNat_natCast]
    exact flat_at f esz hf (hr0 w' hw') ha hx
/-- A part of an element. -/
theorem s_idxF1 {α β : Type} (f : α → List Value) {esz off : Nat} {L : List α} {s : Sl} {j : Nat} {jj : Int} {x : α} {c : β → Value} {v : β} {k : β → K} (hf : ∀ x, (f x).length = esz) (hr : ∀ w, Holds B Γ w → RdC w s esz (L.flatMap f)) (hx : L[j]? = some x) (hv : (f x)[off]? = some (c v)) (h : HG B Γ (k v)) (hj : jj = (j : Int) := by first | rfl | omega) :
    HG B Γ (Idx s jj esz fun t => Ld (t.add off) c k) := fun w hw => by
  subst hj
  have hrw := hr w hw
  have hj : j < L.length := (List.getElem?_eq_some_iff.1 hx).1
  have ho : off < esz := by rw [← hf x]; exact (List.getElem?_eq_some_iff.1 hv).1
  have hn : L.length = s.n := by
    have := hrw.len; rw [flatMap_len f esz hf] at this
    exact Nat.eq_of_mul_eq_mul_right (by omega) this
  cases ha : s.a with
  | none => have := hrw.nil ha; omega
  | some a =>
    refine ⟨a, _, ha, by omega, by omega, rfl, v, ?_, h w hw⟩
    simp only [Int.toNat_natCast]
    have h2 := flat_at f esz hf hrw ha hx off (by simpa [hf] using ho)
    rw [h2]
    simpa using hv
theorem s_idxF0 {α β : Type} (f : α → List Value) {esz : Nat} {L : List α} {s : Sl} {j : Nat} {jj : Int} {x : α} {c : β → Value} {v : β} {k : β → K} (hf : ∀ x, (f x).length = esz) (hr : ∀ w, Holds B Γ w → RdC w s esz (L.flatMap f)) (hx : L[j]? = some x) (hv : (f x)[0]? = some (c v)) (h : HG B Γ (k v)) (hj : jj = (j : Int) := by first | rfl | omega) :
    HG B Γ (Idx s jj esz fun t => Ld t c k) := fun w hw => by
  obtain ⟨a, t, h1, h2, h3, h4, h5⟩ := s_idxF1 f (off := 0) hf hr hx hv h hj w hw
  rw [add0] at h5
  exact ⟨a, t, h1, h2, h3, h4, h5⟩
theorem tx_lens {w : World} {t : TxX} (h : txRd w t) : t.rs.n = t.reads.length ∧ t.ws.n = t.writes.length ∧ t.os.n = t.ops.length :=
  ⟨by have := h.1.len; simpa using this.symm, by have := h.2.1.len; simpa using this.symm, rd_len opF_len (by omega) h.2.2.1⟩
theorem great05_hg {t : TxX} {Q : Bool → K} (hr : ∀ w, Holds B Γ w → txRd w t) (h : HG B Γ (Q (decide (GreatP t)))) : HG B Γ (ref05_Great.call (txL t).toArray Q) := fun w hw => by
  refine ref05_Great_ok _ _ _ ?_
  obtain ⟨n1, n2, n3⟩ := tx_lens (hr w hw)
  refine Sep.hg hw ?_
  clear hw w
  unfold ref05_Great
  refine s_new fun t1 => ?_
  have yes : GreatP t → HG B (blk t1 (.cells (txL t).toArray ty_api_Txn (0, 0)) :: Γ) (Q true) := fun hg => by
    rw [show decide (GreatP t) = true from decide_eq_true hg] at h
    exact s_end h
  repeat refine s_nx ?_
  refine s_ite (fun hb => ?_) fun hb => ?_
  · unfold ref05_Great.s1
    exact s_t (yes (.inl (by simp only [decide_eq_true_eq] at hb; omega)))
  repeat refine s_nx ?_
  refine s_ite (fun hb2 => ?_) fun hb2 => ?_
  · unfold ref05_Great.s1
    exact s_t (yes (.inr (.inl (by simp only [decide_eq_true_eq] at hb2; omega))))
  repeat refine s_nx ?_
  by_cases hb3 : 60 < t.os.n
  · rw [show decide ((60 : Int) < (t.os.n : Int)) = true by simp; omega]
    unfold ref05_Great.s1
    exact s_t (yes (.inr (.inr (.inl (by omega)))))
  rw [show decide ((60 : Int) < (t.os.n : Int)) = false by simp; omega]
  simp only [decide_eq_false_iff_not] at hb hb2
  unfold ref05_Great.s1
  repeat refine s_nx ?_
  refine s_loopC (α := Int) (fun x => ∃ i : Nat, x = (i : Int) ∧ i ≤ t.reads.length ∧ ∀ k ∈ t.reads.take i, k.length ≤ 200) (fun x => t.reads.length - x.toNat) ⟨0, rfl, Nat.zero_le _, by simp⟩ fun k1 x hx hk1 => ?_
  obtain ⟨i, rfl, hi, hs1⟩ := hx
  unfold ref05_Great.b2
  repeat refine s_nx ?_
  refine s_ite (fun hc => ?_) fun hc => ?_
  · have hil : i < t.reads.length := by simp only [decide_eq_true_eq] at hc; omega
    have hge : t.reads[i]? = some t.reads[i] := List.getElem?_eq_getElem hil
    have hmem : t.reads[i] ∈ t.reads := List.getElem_mem hil
    have htk : t.reads.take (i + 1) = t.reads.take i ++ [t.reads[i]] := List.take_succ_eq_append_getElem hil
    generalize t.reads[i] = x at hge hmem htk
    repeat refine s_nx ?_
    refine s_idxS (L := t.reads) (fun w hw => (hr w hw.tail).1) hge ?_
    have hsz : (bs x).size = x.length := rfl
    refine s_ite (fun hd => ?_) fun hd => ?_
    · exact yes (.inr (.inr (.inr (.inl ⟨x, hmem, by simp only [decide_eq_true_eq] at hd; omega⟩))))
    · refine s_ai ?_
      refine hk1 _ ⟨i + 1, by simp, hil, fun y hy => ?_⟩ (by omega)
      rw [htk] at hy
      rcases List.mem_append.1 hy with hy | hy
      · exact hs1 y hy
      · rw [List.mem_singleton.1 hy]; simp only [decide_eq_false_iff_not] at hd; omega
  have hil : i = t.reads.length := by simp only [decide_eq_false_iff_not] at hc; omega
  rw [hil, List.take_length] at hs1
  refine s_loopC (α := Int) (fun x => ∃ i : Nat, x = (i : Int) ∧ i ≤ t.writes.length ∧ ∀ k ∈ t.writes.take i, k.length ≤ 200) (fun x => t.writes.length - x.toNat) ⟨0, rfl, Nat.zero_le _, by simp⟩ fun k2 x hx hk2 => ?_
  obtain ⟨j, rfl, hj, hs2⟩ := hx
  unfold ref05_Great.b3
  repeat refine s_nx ?_
  refine s_ite (fun hc2 => ?_) fun hc2 => ?_
  · have hil : j < t.writes.length := by simp only [decide_eq_true_eq] at hc2; omega
    have hge : t.writes[j]? = some t.writes[j] := List.getElem?_eq_getElem hil
    have hmem : t.writes[j] ∈ t.writes := List.getElem_mem hil
    have htk : t.writes.take (j + 1) = t.writes.take j ++ [t.writes[j]] := List.take_succ_eq_append_getElem hil
    generalize t.writes[j] = x at hge hmem htk
    repeat refine s_nx ?_
    refine s_idxS (L := t.writes) (fun w hw => (hr w hw.tail).2.1) hge ?_
    have hsz : (bs x).size = x.length := rfl
    refine s_ite (fun hd => ?_) fun hd => ?_
    · exact yes (.inr (.inr (.inr (.inr (.inl ⟨x, hmem, by simp only [decide_eq_true_eq] at hd; omega⟩)))))
    · refine s_ai ?_
      refine hk2 _ ⟨j + 1, by simp, hil, fun y hy => ?_⟩ (by omega)
      rw [htk] at hy
      rcases List.mem_append.1 hy with hy | hy
      · exact hs2 y hy
      · rw [List.mem_singleton.1 hy]; simp only [decide_eq_false_iff_not] at hd; omega
  have hjl : j = t.writes.length := by simp only [decide_eq_false_iff_not] at hc2; omega
  rw [hjl, List.take_length] at hs2
  refine s_loopC (α := Int) (fun x => ∃ i : Nat, x = (i : Int) ∧ i ≤ t.ops.length ∧ ∀ y ∈ t.ops.take i, y.1.key.length ≤ 200 ∧ y.1.val.length ≤ 200) (fun x => t.ops.length - x.toNat) ⟨0, rfl, Nat.zero_le _, by simp⟩ fun k3 x hx hk3 => ?_
  obtain ⟨m, rfl, hm, hs3⟩ := hx
  unfold ref05_Great.b4
  repeat refine s_nx ?_
  refine s_ite (fun hc3 => ?_) fun hc3 => ?_
  · have hil : m < t.ops.length := by simp only [decide_eq_true_eq] at hc3; omega
    have hge : t.ops[m]? = some t.ops[m] := List.getElem?_eq_getElem hil
    have hmem : t.ops[m] ∈ t.ops := List.getElem_mem hil
    have htk : t.ops.take (m + 1) = t.ops.take m ++ [t.ops[m]] := List.take_succ_eq_append_getElem hil
    generalize t.ops[m] = x at hge hmem htk
    repeat refine s_nx ?_
    refine s_idxF1 opF (off := 1) (c := Value.string) (x := x) (v := bs x.1.key) opF_len (fun w hw => (hr w hw.tail).2.2.1) hge rfl ?_
    have hsz : (bs x.1.key).size = x.1.key.length := rfl
    unfold ref05_Great.s5
    refine s_ite (fun hd => ?_) fun hd => ?_
    · refine s_t ?_
      exact yes (.inr (.inr (.inr (.inr (.inr ⟨x, hmem, .inl (by simp only [decide_eq_true_eq] at hd; omega)⟩)))))
    · repeat refine s_nx ?_
      refine fun w hw => ?_
      have hxl : x.2.n = x.1.val.length := by have := ((hr w hw.tail).2.2.2 x hmem).len; simpa using this.symm
      refine Sep.hg hw ?_
      clear hw w
      refine s_idxF1 opF (off := 2) (c := Sl.val) (x := x) (v := x.2) opF_len (fun w hw => (hr w hw.tail).2.2.1) hge rfl ?_
      refine s_ite (fun he => ?_) fun he => ?_
      · exact yes (.inr (.inr (.inr (.inr (.inr ⟨x, hmem, .inr (by simp only [decide_eq_true_eq] at he; omega)⟩)))))
      · refine s_ai ?_
        refine hk3 _ ⟨m + 1, by simp, hil, fun y hy => ?_⟩ (by omega)
        rw [htk] at hy
        rcases List.mem_append.1 hy with hy | hy
        · exact hs3 y hy
        · rw [List.mem_singleton.1 hy]; simp only [decide_eq_false_iff_not] at hd he; omega
  · have hml : m = t.ops.length := by simp only [decide_eq_false_iff_not] at hc3; omega
    rw [hml, List.take_length] at hs3
    rw [show decide (GreatP t) = false by
      simp only [decide_eq_false_iff_not]
      rintro (g | g | g | ⟨k, hk, g⟩ | ⟨k, hk, g⟩ | ⟨x, hx, g⟩)
      · omega
      · omega
      · omega
      · have := hs1 k hk; omega
      · have := hs2 k hk; omega
      · have := hs3 x hx; omega] at h
    exact s_end h
theorem same05_hg {a b : TxX} {Q : Bool → K} (ha : ∀ w, Holds B Γ w → txRd w a) (hb : ∀ w, Holds B Γ w → txRd w b) (hl : a.reads.length < 100000000 ∧ a.writes.length < 100000000 ∧ a.ops.length < 100000000) (h : HG B Γ (Q (decide (SameP a b)))) : HG B Γ (ref05_Same.call (txL a).toArray (txL b).toArray Q) := fun w hw => by
  refine ref05_Same_ok _ _ _ _ ?_
  obtain ⟨n1, n2, n3⟩ := tx_lens (ha w hw)
  obtain ⟨m1, m2, m3⟩ := tx_lens (hb w hw)
  refine Sep.hg hw ?_
  clear hw w
  unfold ref05_Same
  refine s_new fun a2 => ?_
  refine s_new fun b3 => ?_
  have no : ¬ SameP a b → HG B (blk b3 (.cells (txL b).toArray ty_api_Txn (0, 0)) :: blk a2 (.cells (txL a).toArray ty_api_Txn (0, 0)) :: Γ) (ref05_Same.s1 Q ⟨a2, 0, none⟩ ⟨b3, 0, none⟩ true) := fun hn => by
    rw [show decide (SameP a b) = false from decide_eq_false hn] at h
    unfold ref05_Same.s1
    exact s_t (s_end h)
  repeat refine s_nx ?_
  refine s_ite (fun hc1 => no fun hs => by simp [hs.1] at hc1) fun hc1 => ?_
  repeat refine s_nx ?_
  refine s_ite (fun hc2 => no fun hs => by simp [hs.2.1] at hc2) fun hc2 => ?_
  repeat refine s_nx ?_
  refine texts05_hg (La := a.reads) (Lb := b.reads) (by omega) (fun w hw => (ha w hw.drops).1) (fun w hw => (hb w hw.drops).1) ?_
  refine s_ite (fun hc3 => no fun hs => by simp [hs.2.2.1] at hc3) fun hc3 => ?_
  repeat refine s_nx ?_
  refine texts05_hg (La := a.writes) (Lb := b.writes) (by omega) (fun w hw => (ha w hw.drops).2.1) (fun w hw => (hb w hw.drops).2.1) ?_
  refine s_ite (fun hc4 => no fun hs => by simp [hs.2.2.2.1] at hc4) fun hc4 => ?_
  repeat refine s_nx ?_
  by_cases hc5 : a.os.n = b.os.n
  rotate_left
  · rw [show decide ((a.os.n : Int) ≠ (b.os.n : Int)) = true by simp; omega]
    refine no fun hs => ?_
    have := congrArg List.length hs.2.2.2.2
    simp only [List.length_map] at this
    omega
  rw [show decide ((a.os.n : Int) ≠ (b.os.n : Int)) = false by simp; omega]
  have hab : a.kind = b.kind ∧ a.to = b.to ∧ a.reads = b.reads ∧ a.writes = b.writes := ⟨by simpa using hc1, by simpa using hc2, by simpa using hc3, by simpa using hc4⟩
  have hll : a.ops.length = b.ops.length := by omega
  unfold ref05_Same.s1
  repeat refine s_nx ?_
  refine s_loopC (α := Int) (fun x => ∃ i : Nat, x = (i : Int) ∧ i ≤ a.ops.length ∧ (a.ops.take i).map Prod.fst = (b.ops.take i).map Prod.fst) (fun x => a.ops.length - x.toNat) ⟨0, rfl, Nat.zero_le _, by simp⟩ fun k' x hx hk' => ?_
  obtain ⟨i, rfl, hi, he⟩ := hx
  unfold ref05_Same.b2
  repeat refine s_nx ?_
  refine s_ite (fun hc6 => ?_) fun hc6 => ?_
  · have hil : i < a.ops.length := by simp only [decide_eq_true_eq] at hc6; omega
    have hil2 : i < b.ops.length := by omega
    have t1 := List.take_succ_eq_append_getElem hil
    have t2 := List.take_succ_eq_append_getElem hil2
    have g1 : a.ops[i]? = some a.ops[i] := List.getElem?_eq_getElem hil
    have g2 : b.ops[i]? = some b.ops[i] := List.getElem?_eq_getElem hil2
    have m1' : a.ops[i] ∈ a.ops := List.getElem_mem hil
    have m2' : b.ops[i] ∈ b.ops := List.getElem_mem hil2
    generalize a.ops[i] = x at t1 g1 m1'
    generalize b.ops[i] = y at t2 g2 m2'
    have fin : ∀ x6 y7, HG B (blk x6 (.cells (opF x).toArray ty_api_Op (0, 0)) :: blk y7 (.cells (opF y).toArray ty_api_Op (0, 0)) :: blk b3 (.cells (txL b).toArray ty_api_Txn (0, 0)) :: blk a2 (.cells (txL a).toArray ty_api_Txn (0, 0)) :: Γ) (ref05_Same.s3 Q k' ⟨a2, 0, none⟩ ⟨b3, 0, none⟩ (i : Int) ⟨x6, 0, none⟩ ⟨y7, 0, none⟩) := fun x6 y7 => by
      have bad : x.1 ≠ y.1 → HG B (blk x6 (.cells (opF x).toArray ty_api_Op (0, 0)) :: blk y7 (.cells (opF y).toArray ty_api_Op (0, 0)) :: blk b3 (.cells (txL b).toArray ty_api_Txn (0, 0)) :: blk a2 (.cells (txL a).toArray ty_api_Txn (0, 0)) :: Γ) (ref05_Same.s4 Q k' ⟨a2, 0, none⟩ ⟨b3, 0, none⟩ (i : Int) true) := fun hne => by
        have hn : ¬ SameP a b := fun hs => by
          have := congrArg (·[i]?) hs.2.2.2.2
          simp only [List.getElem?_map, g1, g2, Option.map_some, Option.some.injEq] at this
          exact hne this
        rw [show decide (SameP a b) = false from decide_eq_false hn] at h
        unfold ref05_Same.s4
        exact s_t (s_end h)
      unfold ref05_Same.s3
      repeat refine s_nx ?_
      refine s_ite (fun hd1 => bad fun e => by simp [e] at hd1) fun hd1 => ?_
      repeat refine s_nx ?_
      rw [bs_list, bs_list]
      refine s_ite (fun hd2 => bad fun e => by simp [e] at hd2) fun hd2 => ?_
      repeat refine s_nx ?_
      refine s_ite (fun hd3 => bad fun e => by simp [e] at hd3) fun hd3 => ?_
      repeat refine s_nx ?_
      refine s_str (xs := x.1.val) (fun w hw => (ha w hw.drops).2.2.2 x m1') ?_
      repeat refine s_nx ?_
      refine s_str (xs := y.1.val) (fun w hw => (hb w hw.drops).2.2.2 y m2') ?_
      rw [bs_list, bs_list]
      by_cases hd4 : x.1.val = y.1.val
      rotate_left
      · rw [show (!(x.1.val == y.1.val)) = true by simpa using hd4]
        exact bad fun e => hd4 (by rw [e])
      rw [show (!(x.1.val == y.1.val)) = false by simpa using hd4]
      unfold ref05_Same.s4
      repeat refine s_nx ?_
      refine s_ai ?_
      refine s_end (hk' _ ⟨i + 1, by simp, hil, ?_⟩ (by omega))
      rw [t1, t2, List.map_append, List.map_append, he]
      have hxy : x.1 = y.1 := by
        obtain ⟨⟨x1, x2, x3, x4⟩, x5⟩ := x
        obtain ⟨⟨y1, y2, y3, y4⟩, y5⟩ := y
        simp only [OpM.mk.injEq] at hd4 ⊢
        exact ⟨by simpa using hd1, by simpa using hd2, hd4, by simpa using hd3⟩
      simp [hxy]
    refine s_dr ?_
    refine s_ws ?_
    repeat refine s_nx ?_
    refine s_idxNS opF opF_len (by omega) (fun w hw => (ha w hw.drops).2.2.1) (fun w hw => (ha w hw.drops).2.2.1) g1 ?_
    repeat refine s_nx ?_
    refine s_idxNS opF opF_len (by omega) (fun w hw => (hb w hw.drops).2.2.1) (fun w hw => (hb w hw.drops).2.2.1) g2 ?_
    refine s_all2 ?_ ?_
    · refine s_new fun x6 => ?_
      repeat refine s_nx ?_
      refine s_new fun y7 => ?_
      repeat refine s_nx ?_
      exact s_end (fin x6 y7)
    · refine s_new fun y7 => ?_
      repeat refine s_nx ?_
      refine s_new fun x6 => ?_
      repeat refine s_nx ?_
      exact s_end (fin x6 y7)
  · have hil : i = a.ops.length := by simp only [decide_eq_false_iff_not] at hc6; omega
    rw [hil, List.take_length, hll, List.take_length] at he
    rw [show decide (SameP a b) = true by simpa using ⟨hab.1, hab.2.1, hab.2.2.1, hab.2.2.2, he⟩] at h
    exact s_end h
end
end Go.Proofs.Ytfjjocopmknhgaa
/- Bytes in memory: what is appended, copied, read. (By the types' names: for every seat.) -/
namespace Go.Proofs.Ytfjjocopmknhgaa
open Go Go.Sep
set_option linter.unusedSimpArgs false
set_option linter.unusedVariables false
set_option maxRecDepth 100000
section
variable {B w : World} {Γ : List HProp}
theorem r_byte {s : Sl} {xs : List UInt8} {j : Nat} {x : UInt8} {k : Int → K} (hr : RdB w s xs) (hx : xs[j]? = some x) (hk : k (x.toNat : Int) w) : Idx s (j : Int) 1 (fun t => Ld t (Value.int .u8) k) w := by
  have e : xs.map byteV = (xs.map fun b => (b.toNat : Int)).map (Value.int .u8) := by rw [List.map_map]; rfl
  have hr2 : RdC w s 1 ((xs.map fun b => (b.toNat : Int)).map (Value.int .u8)) := by rw [← e]; exact hr
  exact r_idx1 hr2 (by rw [List.getElem?_map, hx]; rfl) hk
theorem rd_spot {w : World} {s : Sl} {xs : List UInt8} (h : RdB w s xs) (hx : xs ≠ []) : ∀ a, s.a = some a → a.spot = none := by
  intro a ha
  have h1 := h.at' a ha 0 (by have := List.length_pos_iff.2 hx; simpa using this)
  have e : a.add 0 = a := by simp [Addr.add]
  rw [e] at h1
  unfold World.cell? at h1
  cases hs : a.spot with
  | none => rfl
  | some y =>
    exfalso
    have h2 : (xs.map byteV)[0]? ≠ none := by
      cases xs with
      | nil => exact absurd rfl hx
      | cons x xs => simp
    split at h1
    · simp only [hs, Option.isSome_some, if_true] at h1
      exact h2 h1.symm
    · exact h2 h1.symm
/-- Bytes behind one's own bytes. -/
theorem r_appB {g x : Sl} {xs ys : List UInt8} {k : Sl → K} (h : Holds B (Bytes ty_uint8 g xs :: Γ) w) (hy : RdB w x ys) (hroom : xs.length + ys.length ≤ 1000000000)
    (hk : ∀ s w, Holds B (Bytes ty_uint8 s (xs ++ ys) :: Γ) w → s.n = xs.length + ys.length → (g.a.isSome = true → s.a.isSome = true) → k s w) :
    Do Try.prog (Builtin.append_ #[ty_s_uint8, ty_s_uint8] ty_s_uint8 #[g.val, x.val]) Sl.val k w := by
  have h1 : xs.length = g.n := by have := h.slCap.1; simpa using this
  have h2 : ys.length = x.n := by have := hy.len; simpa using this
  refine r_append h (by kernel_rfl) (by kernel_rfl) (by' := 1) (by kernel_rfl) zero_ty_uint8 rfl hy (byteV_flat _) (by omega) (by decide) fun s' w h hn ha => hk s' w ?_ (by omega) ha
  have e : xs.map byteV ++ ys.map byteV = (xs ++ ys).map byteV := by simp
  rw [e] at h
  exact h
theorem bytes_new {b n : Nat} {cs : Array Value} {xs : List UInt8} (hc : cs.toList = xs.map byteV) (hn : xs.length = n) (h : Holds B (blk b (.cells cs ty_uint8 (0, 0)) :: Γ) w) : Holds B (Bytes ty_uint8 ⟨some ⟨b, 0, none⟩, n, n⟩ xs :: Γ) w :=
  h.imp (blk_SlC hc (by simp [hn]))
theorem Bytes.len {s : Sl} {xs : List UInt8} (h : Holds B (Bytes ty_uint8 s xs :: Γ) w) : xs.length = s.n := by have := h.slCap.1; simpa using this
theorem Bytes.rd {s : Sl} {xs : List UInt8} (h : Holds B Γ w) (hm : Bytes ty_uint8 s xs ∈ Γ) : RdB w s xs := h.rdC (E := ty_uint8) hm
theorem r_strS {S : World → Prop} {s : Sl} {xs : List UInt8} {src dst : TypeId} {k : ByteArray → K} (hT : strT Try.prog src dst = true) (hr : ∀ w, S w → RdB w s xs) (hk : k (ByteArray.mk xs.toArray) w) :
    RdS Try.prog S (convert src dst s.val) Value.string k w := by
  refine ⟨ByteArray.mk xs.toArray, fun w h => ?_, hk⟩
  obtain ⟨y, h1, h2⟩ := r_str (k := fun y _ => y = ByteArray.mk xs.toArray) hT (hr w h) rfl
  rw [h1, h2]
theorem rdB_take {w : World} {s : Sl} {d : List UInt8} {n c : Nat} (h : RdB w s d) (hn : n ≤ s.n) : RdB w ⟨s.a, n, c⟩ (d.take n) := by
  have h1 := h.take (m := n) (c := c) hn
  show RdC w _ 1 ((d.take n).map byteV)
  rw [List.map_take]
  simpa using h1
end
end Go.Proofs.Ytfjjocopmknhgaa
/- Plain forms of functions, and that their code comes to them (package prog). -/
namespace Go.Proofs.Ytfjjocopmknhgaa
open Go Go.Sep
set_option linter.unusedVariables false
set_option linter.unusedSimpArgs false
set_option maxRecDepth 100000
set_option maxHeartbeats 4000000
attribute [local irreducible] G Gp Cx Tx Ex Sx Dx Ox Ax Lx Rx Fx Bx Bj Al Do Ld LdN St StN New CallF Ar DoU Rd Rd2 Pu Cd Ite Fv CallV CallY Ans0 Ans1 Ans2 Ans3 Ans4 Ans5 Ext Dead Dr WithS Sv LdS LdNS RdS Rd2S Nn Idx IdxA IdxS Fld Bld Slc SlcS Cat All LoopK RangeF RangeJ TakeD
namespace F_IRProg
instance at_50 : AT Try.prog 50 5 := ⟨by kernel_rfl⟩
instance at_84 : AT Try.prog 84 4 := ⟨by kernel_rfl⟩
instance cb_56 : CB Try.prog 56 := ⟨by kernel_rfl⟩
instance cb_90 : CB Try.prog 90 := ⟨by kernel_rfl⟩
instance cb_91 : CB Try.prog 91 := ⟨by kernel_rfl⟩
instance cb_93 : CB Try.prog 93 := ⟨by kernel_rfl⟩
instance cb_94 : CB Try.prog 94 := ⟨by kernel_rfl⟩
instance cb_95 : CB Try.prog 95 := ⟨by kernel_rfl⟩
instance ct_33 : CT Try.prog 33 := ⟨by kernel_rfl⟩
instance ct_47 : CT Try.prog 47 := ⟨by kernel_rfl⟩
instance ct_48 : CT Try.prog 48 := ⟨by kernel_rfl⟩
instance ft_50_1 : FT Try.prog 50 1 1 1 := ⟨by kernel_rfl⟩
instance ft_50_2 : FT Try.prog 50 2 2 1 := ⟨by kernel_rfl⟩
instance ft_50_3 : FT Try.prog 50 3 3 1 := ⟨by kernel_rfl⟩
instance ft_84_2 : FT Try.prog 84 2 2 1 := ⟨by kernel_rfl⟩
instance mx : MX Try.prog := ⟨mixed⟩
instance sl_48 : SLT Try.prog 48 84 4 := ⟨by kernel_rfl⟩
instance sl_93 : SLT Try.prog 93 47 1 := ⟨by kernel_rfl⟩
instance sz_33 : SZ Try.prog 33 1 := ⟨by kernel_rfl⟩
instance sz_47 : SZ Try.prog 47 1 := ⟨by kernel_rfl⟩
instance sz_48 : SZ Try.prog 48 1 := ⟨by kernel_rfl⟩
instance sz_50 : SZ Try.prog 50 5 := ⟨by kernel_rfl⟩
instance sz_84 : SZ Try.prog 84 4 := ⟨by kernel_rfl⟩
instance zt_47 : ZT Try.prog 47 (Sl.val ⟨none, 0, 0⟩) := ⟨Try.t47, by kernel_rfl, by kernel_rfl⟩
instance zt_50 : ZT Try.prog 50 (.agg #[(.int .i64 0), (Sl.val ⟨none, 0, 0⟩), (Sl.val ⟨none, 0, 0⟩), (Sl.val ⟨none, 0, 0⟩), (.int .i64 0)]) := ⟨Try.t50, by kernel_rfl, by kernel_rfl⟩
instance zt_84 : ZT Try.prog 84 (.agg #[(.int .i64 0), (.string ⟨#[]⟩), (Sl.val ⟨none, 0, 0⟩), (.int .i64 0)]) := ⟨Try.t84, by kernel_rfl, by kernel_rfl⟩
end F_IRProg
def prog_Copy.b1 (Q : (Array Value) → K)  (X1 : Int → K) (t1_1 : Addr) (t2_1 : Addr) (t18_1 : Sl) (t19_1 : Int) (t20_1 : Int) : K :=
  Ite (decide (t20_1 < t19_1))
    (Idx t18_1 t20_1 4 fun t23 =>
    LdN t23 4 fun t24 =>
    New 84 #[(.int .i64 0), (.string ⟨#[]⟩), (Sl.val ⟨none, 0, 0⟩), (.int .i64 0)] fun o4 =>
    StN o4 4 t24 <|
    Dr <| WithS fun S =>
    LdS S (t1_1.add 3) Sl.val fun t26 =>
    LdS S (o4.add 2) Sl.val fun t29 =>
    bytes_Clone.call t29 fun t30 =>
    Sv S <|
    Idx t26 t20_1 4 fun t31 =>
    St (t31.add 2) (Sl.val t30) <|
    Ar (IntKind.wrap .i64 (t20_1 + 1)) fun t33 =>
    X1 t33)
    (LdN t1_1 5 fun t34 =>
    StN t2_1 5 t34 <|
    LdN t2_1 5 fun r0 =>
    Q r0)
def prog_Copy (t0 : (Array Value)) (Q : (Array Value) → K) : K :=
  New 50 t0 fun t1 =>
  New 50 #[(.int .i64 0), (Sl.val ⟨none, 0, 0⟩), (Sl.val ⟨none, 0, 0⟩), (Sl.val ⟨none, 0, 0⟩), (.int .i64 0)] fun t2 =>
  Dr <| WithS fun S =>
  LdS S (t1.add 1) Sl.val fun t6 =>
  LdS S (t1.add 2) Sl.val fun t9 =>
  LdS S (t1.add 3) Sl.val fun t12 =>
  slices_Clone_s_string_string.call t6 fun t7 =>
  Sv S <|
  slices_Clone_s_string_string.call t9 fun t10 =>
  Sv S <|
  slices_Clone_s_api_Op_api_Op.call t12 fun t13 =>
  St (t1.add 1) (Sl.val t7) <|
  St (t1.add 2) (Sl.val t10) <|
  St (t1.add 3) (Sl.val t13) <|
  Ld (t1.add 3) Sl.val fun t18 =>
  LoopK (α := Int) (fun X x => prog_Copy.b1 Q X t1 t2 t18 (t18.n : Int) x) 0
theorem prog_Copy_ok (t0 : (Array Value)) (Q : (Array Value) → K) (w : World) (h : prog_Copy t0 Q w) : prog_Copy.call t0 Q w := by
  have hD5 : DH 5 2 [8] (.s [0, 2, 3, 1, 4] (.a [(5, 1, .s [6, 7] (.a [(8, 0, .e)]))])) := by intros; exact ⟨⟩
  have hL3 : ∀ (t1_1 : Addr) (t2_1 : Addr) (t18_1 : Sl) (t19_1 : Int), LH 3 (fun x : Int => [(1, (.pointer (some t1_1))), (2, (.pointer (some t2_1))), (18, (Sl.val t18_1)), (19, (.int .i64 t19_1)), (20, (.int .i64 x))]) (fun X x => prog_Copy.b1 Q X t1_1 t2_1 t18_1 t19_1 x) := by intros; exact ⟨⟩
  have hD1 : DH 1 2 [8, 10, 12, 14] (.s [0, 3, 6, 1, 4, 7] (.a [(2, 1, .s [9] (.a [(5, 1, .a [(8, 0, .a [(10, 0, .s [11] (.a [(12, 0, .s [13] (.a [(14, 0, .e)]))]))])])]))])) := by intros; exact ⟨⟩
  exact g_walk 35 h Try.func59
def prog_Keys (t0 : (Array Value)) (Q : Sl → K) : K :=
  New 50 t0 fun t1 =>
  Ld (t1.add 1) Sl.val fun t5 =>
  Ld (t1.add 2) Sl.val fun t7 =>
  New 47 #[(Sl.val t5), (Sl.val t7)] fun t8 =>
  slices_Concat_s_string_string.call (Sl.mk (some t8) 2 2) fun t9 =>
  slices_Sort_s_string_string.call t9 <|
  slices_Compact_s_string_string.call t9 fun t13 =>
  Q t13
theorem prog_Keys_ok (t0 : (Array Value)) (Q : Sl → K) (w : World) (h : prog_Keys t0 Q w) : prog_Keys.call t0 Q w := by
  exact g_walk 14 h Try.func62
end Go.Proofs.Ytfjjocopmknhgaa
/- Plain forms of functions, and that their code comes to them (package lib_bytes). -/
namespace Go.Proofs.Ytfjjocopmknhgaa
open Go Go.Sep
set_option linter.unusedVariables false
set_option linter.unusedSimpArgs false
set_option maxRecDepth 100000
set_option maxHeartbeats 4000000
attribute [local irreducible] G Gp Cx Tx Ex Sx Dx Ox Ax Lx Rx Fx Bx Bj Al Do Ld LdN St StN New CallF Ar DoU Rd Rd2 Pu Cd Ite Fv CallV CallY Ans0 Ans1 Ans2 Ans3 Ans4 Ans5 Ext Dead Dr WithS Sv LdS LdNS RdS Rd2S Nn Idx IdxA IdxS Fld Bld Slc SlcS Cat All LoopK RangeF RangeJ TakeD
namespace F_IRLibBytes
instance mx : MX Try.prog := ⟨mixed⟩
instance sl_33 : SLT Try.prog 33 5 1 := ⟨by kernel_rfl⟩
instance un_33 : UN Try.prog 33 (.slice 5) := ⟨Try.underlying33⟩
instance zt_5 : ZT Try.prog 5 (.int .u8 0) := ⟨Try.t5, by kernel_rfl, by kernel_rfl⟩
end F_IRLibBytes
def bytes_Clone (b0 : Sl) (Q : Sl → K) : K :=
  Ite ((b0).a.isNone)
    (Q (Sl.mk none 0 0))
    (New 5 #[] fun t5 =>
    Do Try.prog (Builtin.append_ #[33, 33] 33 #[(Sl.val (Sl.mk (some t5) 0 0)), (Sl.val b0)]) Sl.val fun t7 =>
    Q t7)
theorem bytes_Clone_ok (b0 : Sl) (Q : Sl → K) (w : World) (h : bytes_Clone b0 Q w) : bytes_Clone.call b0 Q w := by
  exact g_walk 8 h Try.func56
def bytes_Equal (a0 : Sl) (b1 : Sl) (Q : Bool → K) : K :=
  Rd Try.prog (convert 33 9 (Sl.val a0)) Value.string fun t6 =>
  Rd Try.prog (convert 33 9 (Sl.val b1)) Value.string fun t8 =>
  Q (t6.toList == t8.toList)
theorem bytes_Equal_ok (a0 : Sl) (b1 : Sl) (Q : Bool → K) (w : World) (h : bytes_Equal a0 b1 Q w) : bytes_Equal.call a0 b1 Q w := by
  exact g_walk 10 h Try.func98
end Go.Proofs.Ytfjjocopmknhgaa
/- What prog makes of a transaction: its keys, a copy of it. -/
namespace Go.Proofs.Ytfjjocopmknhgaa
open Go Go.Sep
set_option linter.unusedSimpArgs false
set_option linter.unusedVariables false
set_option maxRecDepth 100000

abbrev opB (x : OpX) : HProp := Bytes ty_uint8 x.2 x.1.val
/-- A transaction's own memory. -/
abbrev txC (t : TxX) (Γ : List HProp) : List HProp := SlS t.rs t.reads :: SlS t.ws t.writes :: SlC ty_api_Op 4 t.os (t.ops.flatMap opF) :: Sep.stars (t.ops.map opB) :: Γ
/-- A transaction is as another one. -/
abbrev TxIs (a b : TxX) : Prop := SameP a b
section
variable {B : World} {Γ Δ : List HProp} {k : K}
theorem stars_get {α : Type} {F : α → HProp} {l : List α} {x : α} {w : World} (hx : x ∈ l) (h : Holds B (Sep.stars (l.map F) :: Γ) w) : ∃ Δ, Holds B (F x :: Δ) w := by
  obtain ⟨i, hi⟩ := List.getElem?_of_mem hx
  exact ⟨_, stars_take i hi h⟩
theorem txC_rd {t : TxX} {w : World} (h : Holds B (txC t Γ) w) : txRd w t :=
  ⟨(own_rd (s := t.rs) h).1, (own_rd (s := t.ws) h).1, (own_rd (s := t.os) h).1, fun x hx => by
    obtain ⟨Δ, hd⟩ := stars_get (F := opB) hx h.tail.tail.tail
    exact hd.rdC (E := ty_uint8) List.mem_cons_self⟩
theorem s_clone {E T esz : Nat} {us : List Value} {s : Sl} {Q : Sl → K} (hr : ∀ w, Holds B Γ w → RdC w s esz us) (hfl : ∀ u ∈ us, flatV u = true) (hroom : us.length ≤ 100000000) (he : 0 < esz) (h : ∀ s', s'.n = s.n → HG B (SlC E esz s' us :: Γ) (Q s')) (hT : appT Try.prog T T E esz = true := by kernel_rfl) :
    HG B Γ (Ite s.a.isNone (Q (Sl.mk none 0 0)) (New E #[] fun t5 => Do Try.prog (Builtin.append_ #[T, T] T #[Sl.val (Sl.mk (some t5) 0 0), s.val]) Sl.val fun t7 => Q t7)) := fun w hw => by
  have hrw := hr w hw
  have hl := hrw.len
  have hsn : s.n ≤ us.length := by rw [hl]; exact Nat.le_mul_of_pos_right _ he
  refine Sep.hg hw ?_
  clear hw
  refine s_ite (fun hb => ?_) fun hb => ?_
  · have ha : s.a = none := by cases hs : s.a with
      | none => rfl
      | some a => rw [hs] at hb; cases hb
    have hn : s.n = 0 := hrw.nil ha
    have hus : us = [] := List.length_eq_zero_iff.1 (by rw [hl, hn, Nat.zero_mul])
    refine fun w2 hw2 => h ⟨none, 0, 0⟩ hn.symm w2 ?_
    rw [hus]
    exact hw2.nilSl E esz
  · refine s_new fun t5 => ?_
    refine s_conv (A' := SlC E esz ⟨some ⟨t5, 0, none⟩, 0, 0⟩ []) (blk_SlC (vs := []) rfl (by simp)) ?_
    refine s_append (s := ⟨some ⟨t5, 0, none⟩, 0, 0⟩) (us := us) (fun w hw => hr w hw.drops) hfl (by simp only; omega) (hT := hT) fun s' hs' => ?_
    exact h s' (by simp only at hs'; omega)
theorem bclone_hg {s : Sl} {xs : List UInt8} {Q : Sl → K} (hr : ∀ w, Holds B Γ w → RdB w s xs) (hl : xs.length ≤ 90000000) (h : ∀ s', HG B (Bytes ty_uint8 s' xs :: Γ) (Q s')) : HG B Γ (bytes_Clone.call s Q) := fun w hw => by
  refine bytes_Clone_ok _ _ _ ?_
  refine Sep.hg hw ?_
  clear hw w
  unfold bytes_Clone
  exact s_clone (us := xs.map byteV) hr (byteV_flat _) (by rw [List.length_map]; omega) (by omega) fun s' _ => h s'
theorem sclone_hg {s : Sl} {L : List TX} {Q : Sl → K} (hr : ∀ w, Holds B Γ w → RdC w s 1 (L.map strV)) (hl : L.length ≤ 90000000) (h : ∀ s', HG B (SlS s' L :: Γ) (Q s')) : HG B Γ (slices_Clone_s_string_string.call s Q) := fun w hw => by
  refine slices_Clone_s_string_string_ok _ _ _ ?_
  refine Sep.hg hw ?_
  clear hw w
  unfold slices_Clone_s_string_string
  exact s_clone (us := L.map strV) hr (fun v hv => by obtain ⟨y, _, rfl⟩ := List.mem_map.1 hv; rfl) (by rw [List.length_map]; omega) (by omega) fun s' _ => h s'
theorem opF_flat (L : List OpX) : ∀ v ∈ L.flatMap opF, flatV v = true := fun v hv => by
  obtain ⟨x, _, hx⟩ := List.mem_flatMap.1 hv
  simp only [opF, List.mem_cons, List.not_mem_nil, or_false] at hx
  rcases hx with rfl | rfl | rfl | rfl <;> rfl
theorem oclone_hg {s : Sl} {L : List OpX} {Q : Sl → K} (hr : ∀ w, Holds B Γ w → RdC w s 4 (L.flatMap opF)) (hl : L.length ≤ 20000000) (h : ∀ s', HG B (SlC ty_api_Op 4 s' (L.flatMap opF) :: Γ) (Q s')) : HG B Γ (slices_Clone_s_api_Op_api_Op.call s Q) := fun w hw => by
  refine slices_Clone_s_api_Op_api_Op_ok _ _ _ ?_
  refine Sep.hg hw ?_
  clear hw w
  unfold slices_Clone_s_api_Op_api_Op
  exact s_clone (us := L.flatMap opF) hr (opF_flat L) (by rw [flatMap_len _ 4 opF_len]; omega) (by omega) fun s' _ => h s'
theorem flatMap_setAt {α : Type} {f : α → List Value} {esz : Nat} (hf : ∀ x, (f x).length = esz) : ∀ {L : List α} {i off : Nat} {x y : α} {v : Value}, L[i]? = some x → off < esz → (f x).set off v = f y → (L.flatMap f).set (i * esz + off) v = (L.set i y).flatMap f
  | [], i, off, x, y, v, hx, _, _ => by simp at hx
  | z :: L, 0, off, x, y, v, hx, ho, hy => by
    have hzx : z = x := by simpa using hx
    subst hzx
    rw [Nat.zero_mul, Nat.zero_add, List.flatMap_cons, List.set_cons_zero, List.flatMap_cons, List.set_append_left _ _ (by rw [hf]; exact ho), hy]
  | z :: L, i + 1, off, x, y, v, hx, ho, hy => by
    have ih := flatMap_setAt hf (L := L) (i := i) (by simpa using hx) ho hy
    rw [List.flatMap_cons, List.set_cons_succ, List.flatMap_cons, ← ih, List.set_append_right _ _ (by rw [hf, Nat.succ_mul]; omega), hf]
    congr 2
    rw [Nat.succ_mul]; omega
/-- A transaction as new memory. -/
theorem copy_hg {t : TxX} {Q : Array Value → K} (hr : ∀ w, Holds B Γ w → txRd w t) (hl : t.reads.length ≤ 1000 ∧ t.writes.length ≤ 1000 ∧ t.ops.length ≤ 1000 ∧ ∀ x ∈ t.ops, x.1.val.length ≤ 1000000) (h : ∀ t', TxIs t' t → HG B (txC t' Γ) (Q (txL t').toArray)) : HG B Γ (prog_Copy.call (txL t).toArray Q) := fun w hw => by
  refine prog_Copy_ok _ _ _ ?_
  refine Sep.hg hw ?_
  clear hw w
  obtain ⟨hl1, hl2, hl3, hl4⟩ := hl
  unfold prog_Copy
  refine s_new fun t1 => ?_
  refine s_new fun t2 => ?_
  repeat refine s_nx ?_
  refine sclone_hg (fun w hw => (hr w hw.drops).1) (by omega) fun rs => ?_
  refine s_sv ?_
  refine sclone_hg (fun w hw => (hr w hw.drops).2.1) (by omega) fun ws => ?_
  refine s_sv ?_
  refine oclone_hg (fun w hw => (hr w hw.drops).2.2.1) (by omega) fun os => ?_
  repeat refine s_nx ?_
  refine fun w hw => Sep.hg (show Holds B (Sep.stars (([] : List OpX).map opB) :: _) w from hw.starsNil) ?_
  clear hw w
  refine s_cap os fun a1 a2 a3 a4 => ?_
  rw [flatMap_len _ 4 opF_len] at a1
  refine s_end (Δ := SlC ty_api_Op 4 os (t.ops.flatMap opF) :: Sep.stars (([] : List OpX).map opB) :: blk t1 (.cells [.int .i64 t.kind, rs.val, ws.val, os.val, .int .i64 t.to].toArray ty_api_Txn (0, 0)) :: blk t2 (.cells [.int .i64 0, Sl.val ⟨none, 0, 0⟩, Sl.val ⟨none, 0, 0⟩, Sl.val ⟨none, 0, 0⟩, .int .i64 0].toArray ty_api_Txn (0, 0)) :: SlS ws t.writes :: SlS rs t.reads :: Γ) ?_
  refine s_loop (α := Int) (ι := Nat × List OpX) (fun x i => x = (i.1 : Int) ∧ i.1 ≤ t.ops.length ∧ i.2.map Prod.fst = t.ops.map Prod.fst ∧ i.2.drop i.1 = t.ops.drop i.1)
    (fun x i => SlC ty_api_Op 4 os (i.2.flatMap opF) :: Sep.stars ((i.2.take i.1).map opB) :: blk t1 (.cells [.int .i64 t.kind, rs.val, ws.val, os.val, .int .i64 t.to].toArray ty_api_Txn (0, 0)) :: blk t2 (.cells [.int .i64 0, Sl.val ⟨none, 0, 0⟩, Sl.val ⟨none, 0, 0⟩, Sl.val ⟨none, 0, 0⟩, .int .i64 0].toArray ty_api_Txn (0, 0)) :: SlS ws t.writes :: SlS rs t.reads :: Γ)
    (fun x i => t.ops.length - i.1) (0, t.ops) ⟨rfl, Nat.zero_le _, rfl, rfl⟩ ?_
  rintro k' _ ⟨i, L⟩ ⟨rfl, hi, hm, hd⟩ hk'
  simp only at hi hm hd hk' ⊢
  have hLl : L.length = t.ops.length := by have := congrArg List.length hm; simpa using this
  unfold prog_Copy.b1
  refine s_ite (fun hb => ?_) fun hb => ?_
  · have hil : i < t.ops.length := by simp only [decide_eq_true_eq] at hb; omega
    have hge : L[i]? = some t.ops[i] := by
      have := congrArg (·[0]?) hd
      simp only [List.getElem?_drop, Nat.add_zero] at this
      rw [this, List.getElem?_eq_getElem hil]
    have hmem : t.ops[i] ∈ t.ops := List.getElem_mem hil
    generalize t.ops[i] = x at hge hmem
    have hvl := hl4 x hmem
    refine s_idxN opF opF_len (fun w hw => (own_rd (s := os) hw).1) hge ?_
    refine s_new fun o4 => ?_
    repeat refine s_nx ?_
    refine bclone_hg (xs := x.1.val) (fun w hw => (hr w hw.drops).2.2.2 x hmem) (by omega) fun vs => ?_
    repeat refine s_nx ?_
    refine s_idx (s := os) (i := i) ?_
    refine s_stE (s := os) ?_ (by rw [flatMap_len _ 4 opF_len]; omega)
    rw [flatMap_setAt (y := ((x.1, vs) : OpX)) opF_len hge (by omega) rfl]
    refine s_ai ?_
    have hA : (L.set i (x.1, vs)).map Prod.fst = t.ops.map Prod.fst := by
      rw [← hm, List.map_set]
      refine List.ext_getElem? fun j => ?_
      rw [List.getElem?_set]
      split
      · rename_i hij
        subst hij
        split
        · simp [hge]
        · rename_i hj; simp only [List.length_map] at hj; omega
      · rfl
    have hB : (L.set i (x.1, vs)).drop (i + 1) = t.ops.drop (i + 1) := by
      rw [List.drop_set_of_lt (by omega), ← List.drop_drop, hd, List.drop_drop]
    have h := hk' ((i : Int) + 1) (i + 1, L.set i (x.1, vs)) ⟨by simp, hil, hA, hB⟩ (by simp only; omega)
    have ht : (L.set i (x.1, vs)).take (i + 1) = L.take i ++ [((x.1, vs) : OpX)] := by
      have hx : (L.set i (x.1, vs))[i]? = some (x.1, vs) := by rw [List.getElem?_set_self (by omega)]
      rw [List.take_add_one, hx, List.take_set_of_le (Nat.le_refl _)]
      rfl
    simp only at h
    rw [ht] at h
    have := s_unmid (F := opB) (A := L.take i) (C := []) (x := ((x.1, vs) : OpX)) (Γ := SlC ty_api_Op 4 os ((L.set i (x.1, vs)).flatMap opF) :: blk t1 (.cells [.int .i64 t.kind, rs.val, ws.val, os.val, .int .i64 t.to].toArray ty_api_Txn (0, 0)) :: blk t2 (.cells [.int .i64 0, Sl.val ⟨none, 0, 0⟩, Sl.val ⟨none, 0, 0⟩, Sl.val ⟨none, 0, 0⟩, .int .i64 0].toArray ty_api_Txn (0, 0)) :: SlS ws t.writes :: SlS rs t.reads :: Γ) (s_end h)
    rw [List.append_nil] at this
    exact s_end this
  · have hil : i = t.ops.length := by simp only [decide_eq_false_iff_not] at hb; omega
    rw [hil, ← hLl, List.take_length]
    repeat refine s_nx ?_
    have := h ⟨t.kind, t.reads, t.writes, L, t.to, rs, ws, os⟩ ⟨rfl, rfl, rfl, rfl, hm⟩
    exact s_end this
/-- The keys of a transaction. -/
theorem keys_hg {t : TxX} {Q : Sl → K} (hr1 : ∀ w, Holds B Γ w → RdC w t.rs 1 (t.reads.map strV)) (hr2 : ∀ w, Holds B Γ w → RdC w t.ws 1 (t.writes.map strV)) (hl : t.reads.length ≤ 400000) (hl2 : t.writes.length ≤ 400000) (h : ∀ s, HG B (SlS s (keysT (t.reads ++ t.writes)) :: Γ) (Q s)) : HG B Γ (prog_Keys.call (txL t).toArray Q) := fun w hw => by
  refine prog_Keys_ok _ _ _ ?_
  refine Sep.hg hw ?_
  clear hw w
  unfold prog_Keys
  refine s_new fun t1 => ?_
  repeat refine s_nx ?_
  refine s_new fun t8 => ?_
  refine concat2_hg (La := t.reads) (Lb := t.writes) (by omega) (by omega) (fun w hw => hr1 w hw.drops) (fun w hw => hr2 w hw.drops) fun s => ?_
  have hln : (t.reads ++ t.writes).length = t.reads.length + t.writes.length := List.length_append
  refine fun w hw => slices_Sort_spec (by omega) hw fun w hw => ?_
  refine Sep.hg hw ?_
  clear hw w
  refine compact_hg (by rw [sortL_len]; omega) fun s' => ?_
  have := h s'
  unfold keysT at this
  exact s_end this
end
end Go.Proofs.Ytfjjocopmknhgaa
/- A B-tree, whatever its keys and values: the plain forms of its functions (printed by tools/mkbt.py), and what they do. Holds for every program. -/
namespace Go.Sep
open Go Go.RowKit
set_option linter.unusedSimpArgs false
set_option linter.unusedVariables false
namespace Bt

/-- What a tree's functions are told of types and of each other. -/
structure BtT (κ : Type) where
  P : Program
  tI : Nat
  tSI : Nat
  tV : Nat
  tK : Nat
  tSK : Nat
  tN : Nat
  tT : Nat
  nv : Nat
  kz : Value
  vz : List Value
  kV : κ → Value
  cv : Value
  bsC : Sl → κ → Value → (Int → Bool → K) → K
  nsearchC : Option Addr → κ → (Int → Bool → K) → K
  nputC : Option Addr → Array Value → (Array Value → Bool → Option Addr → Option Addr → K) → K
  insIC : Sl → Int → Sl → (Sl → K) → K
  insKC : Sl → Int → Sl → (Sl → K) → K
  cloneIC : Sl → (Sl → K) → K
  cloneKC : Sl → (Sl → K) → K

section
variable {κ : Type}
def tnew (G : BtT κ)  (Q : (Option Addr) → K) : K :=
  New G.tN #[(Sl.val ⟨none, 0, 0⟩), (Sl.val ⟨none, 0, 0⟩)] fun t2 =>
  New G.tT #[(.pointer (some t2)), (.int .i64 0)] fun t4 =>
  Q (some t4)
def nsearch (G : BtT κ) (n0 : (Option Addr)) (key1 : κ) (Q : Int → Bool → K) : K :=
  Nn n0 fun t7 =>
  Ld t7 Sl.val fun t9 =>
  G.bsC t9 key1 G.cv fun t11x0 t11x1 =>
  Q t11x0 t11x1
def tget_b1 (G : BtT κ) (Q : (Array Value) → Bool → K)  (X1 : (Option Addr) → K) (key1_1 : κ) (value4_1 : Addr) (n6_1 : (Option Addr)) : K :=
  G.nsearchC n6_1 key1_1 fun t16x0 t16x1 =>
  Ite t16x1
    (Nn n6_1 fun t21 =>
    Ld t21 Sl.val fun t23 =>
    Idx t23 t16x0 (G.nv + 1) fun t25 =>
    LdN (t25.add 1) G.nv fun t27 =>
    StN value4_1 G.nv t27 <|
    LdN value4_1 G.nv fun r0 =>
    Q r0 true)
    (Nn n6_1 fun t29 =>
    Ld (t29.add 1) Sl.val fun t31 =>
    Ite (decide ((t31.n : Int) = 0))
      (LdN value4_1 G.nv fun t34 =>
      StN value4_1 G.nv t34 <|
      LdN value4_1 G.nv fun r0 =>
      Q r0 false)
      (Ld (t29.add 1) Sl.val fun t38 =>
      Idx t38 t16x0 1 fun t40 =>
      Ld t40 Value.pointer fun t41 =>
      X1 t41))
def tget (G : BtT κ) (t0 : (Option Addr)) (key1 : κ) (Q : (Array Value) → Bool → K) : K :=
  New G.tV G.vz.toArray fun value4 =>
  Nn t0 fun t10 =>
  Ld t10 Value.pointer fun t12 =>
  LoopK (α := (Option Addr)) (fun X x => tget_b1 G Q X key1 value4 x) t12
def nput_s2 (G : BtT κ) (Q : (Array Value) → Bool → (Option Addr) → (Option Addr) → K)  (old4_2 : Addr) (had5_2 : Bool) (right7_2 : Addr) (m12_2 : Addr) : K :=
  LdN old4_2 G.nv fun t153 =>
  StN old4_2 G.nv t153 <|
  LdN old4_2 G.nv fun r0 =>
  Q r0 had5_2 (some m12_2) (some right7_2)
def nput_s1 (G : BtT κ) (Q : (Array Value) → Bool → (Option Addr) → (Option Addr) → K)  (n0_1 : (Option Addr)) (old4_1 : Addr) (had5_1 : Bool) : K :=
  Nn n0_1 fun t101 =>
  Ld t101 Sl.val fun t103 =>
  Ite (decide ((t103.n : Int) ≤ 5))
    (LdN old4_1 G.nv fun t106 =>
    StN old4_1 G.nv t106 <|
    LdN old4_1 G.nv fun r0 =>
    Q r0 had5_1 none none)
    (Ld t101 Sl.val fun t111 =>
    Idx t111 2 (G.nv + 1) fun t112 =>
    LdN t112 (G.nv + 1) fun t113 =>
    New G.tI (G.kz :: G.vz).toArray fun m12 =>
    StN m12 (G.nv + 1) t113 <|
    Ld t101 Sl.val fun t117 =>
    Slc t117 3 (t117.n : Int) (t117.c : Int) (G.nv + 1) fun t118 =>
    G.cloneIC t118 fun t119 =>
    New G.tN #[(Sl.val t119), (Sl.val ⟨none, 0, 0⟩)] fun t121 =>
    Ld t101 Sl.val fun t126 =>
    Slc t126 0 2 2 (G.nv + 1) fun t127 =>
    St t101 (Sl.val t127) <|
    Ld (t101.add 1) Sl.val fun t133 =>
    Ite (decide ((0 : Int) < (t133.n : Int)))
      (Ld (t101.add 1) Sl.val fun t140 =>
      Slc t140 3 (t140.n : Int) (t140.c : Int) 1 fun t141 =>
      G.cloneKC t141 fun t142 =>
      St (t121.add 1) (Sl.val t142) <|
      Ld (t101.add 1) Sl.val fun t149 =>
      Slc t149 0 3 3 1 fun t150 =>
      St (t101.add 1) (Sl.val t150) <|
      nput_s2 G Q old4_1 had5_1 t121 m12)
      (nput_s2 G Q old4_1 had5_1 t121 m12))
def nput (G : BtT κ) (n0 : (Option Addr)) (x1 : (Array Value)) (Q : (Array Value) → Bool → (Option Addr) → (Option Addr) → K) : K :=
  New G.tI x1 fun x3 =>
  New G.tV G.vz.toArray fun old4 =>
  Ld x3 G.kV fun t16 =>
  G.nsearchC n0 t16 fun t17x0 t17x1 =>
  Ite t17x1
    (Nn n0 fun t64 =>
    Ld t64 Sl.val fun t66 =>
    Idx t66 t17x0 (G.nv + 1) fun t68 =>
    LdN (t68.add 1) G.nv fun t70 =>
    StN old4 G.nv t70 <|
    Dr <|
    Ld t64 Sl.val fun t74 =>
    LdN (x3.add 1) G.nv fun t77 =>
    Idx t74 t17x0 (G.nv + 1) fun t78 =>
    StN (t78.add 1) G.nv t77 <|
    LdN old4 G.nv fun t80 =>
    StN old4 G.nv t80 <|
    LdN old4 G.nv fun r0 =>
    Q r0 true none none)
    (Nn n0 fun t84 =>
    Ld (t84.add 1) Sl.val fun t86 =>
    Ite (decide ((t86.n : Int) = 0))
      (Dr <| WithS fun S =>
      LdS S t84 Sl.val fun t93 =>
      LdNS S x3 (G.nv + 1) fun t95 =>
      Bld (G.kz :: G.vz).toArray (fun i => some (i * (G.nv + 1), (G.nv + 1))) [(0, (.agg t95))] fun ct96 =>
      New G.tI ct96 fun t96 =>
      Sv S <|
      G.insIC t93 t17x0 (Sl.mk (some t96) 1 1) fun t97 =>
      St t84 (Sl.val t97) <|
      nput_s1 G Q (some t84) old4 false)
      (Dr <|
      Ld (t84.add 1) Sl.val fun t24 =>
      Idx t24 t17x0 1 fun t26 =>
      Ld t26 Value.pointer fun t27 =>
      LdN x3 (G.nv + 1) fun t28 =>
      G.nputC t27 t28 fun t29x0 t29x1 t29x2 t29x3 =>
      StN old4 G.nv t29x0 <|
      Ite (!(t29x2).isNone)
        (Dr <| WithS fun S =>
        Nn t29x2 fun t43 =>
        LdS S t84 Sl.val fun t40 =>
        LdNS S t43 (G.nv + 1) fun t44 =>
        Bld (G.kz :: G.vz).toArray (fun i => some (i * (G.nv + 1), (G.nv + 1))) [(0, (.agg t44))] fun ct45 =>
        New G.tI ct45 fun t45 =>
        Sv S <|
        G.insIC t40 t17x0 (Sl.mk (some t45) 1 1) fun t46 =>
        St t84 (Sl.val t46) <|
        Ld (t84.add 1) Sl.val fun t53 =>
        Ar (IntKind.wrap .i64 (t17x0 + 1)) fun t55 =>
        New G.tK #[(.pointer t29x3)] fun t57 =>
        G.insKC t53 t55 (Sl.mk (some t57) 1 1) fun t58 =>
        St (t84.add 1) (Sl.val t58) <|
        nput_s1 G Q (some t84) old4 t29x1)
        (nput_s1 G Q (some t84) old4 t29x1)))
def tput_s3 (G : BtT κ) (Q : (Array Value) → Bool → K)  (t6_3 : Addr) (old8_3 : Addr) (had9_3 : Bool) : K :=
  LdN old8_3 G.nv fun t51 =>
  StN t6_3 G.nv t51 <|
  LdN t6_3 G.nv fun r0 =>
  Q r0 had9_3
def tput_s2 (G : BtT κ) (Q : (Array Value) → Bool → K)  (t0_2 : (Option Addr)) (t6_2 : Addr) (old8_2 : Addr) (had9_2 : Bool) : K :=
  Ite (!had9_2)
    (Nn t0_2 fun t45 =>
    Ld (t45.add 1) (Value.int .i64) fun t47 =>
    Ar (IntKind.wrap .i64 (t47 + 1)) fun t48 =>
    St (t45.add 1) (.int .i64 t48) <|
    tput_s3 G Q t6_2 old8_2 had9_2)
    (tput_s3 G Q t6_2 old8_2 had9_2)
def tput_s1 (G : BtT κ) (Q : (Array Value) → Bool → K)  (t0_1 : (Option Addr)) (t6_1 : Addr) (old8_1 : Addr) (had9_1 : Bool) (mid10_1 : (Option Addr)) (right11_1 : (Option Addr)) : K :=
  Ite (!(mid10_1).isNone)
    (Dr <| WithS fun S =>
    Nn mid10_1 fun t29 =>
    Nn t0_1 fun t33 =>
    LdNS S t29 (G.nv + 1) fun t30 =>
    LdS S t33 Value.pointer fun t35 =>
    All [
      (Bld (G.kz :: G.vz).toArray (fun i => some (i * (G.nv + 1), (G.nv + 1))) [(0, (.agg t30))] fun ct31 =>
      New G.tI ct31 fun t31 =>
      Sv S <|
      New G.tK #[(.pointer t35), (.pointer right11_1)] fun t37 =>
      Sv S <|
      New G.tN #[(Sl.val (Sl.mk (some t31) 1 1)), (Sl.val (Sl.mk (some t37) 2 2))] fun t39 =>
      St t33 (.pointer (some t39)) <|
      tput_s2 G Q (some t33) t6_1 old8_1 had9_1),
      (New G.tK #[(.pointer t35), (.pointer right11_1)] fun t37 =>
      Sv S <|
      Bld (G.kz :: G.vz).toArray (fun i => some (i * (G.nv + 1), (G.nv + 1))) [(0, (.agg t30))] fun ct31 =>
      New G.tI ct31 fun t31 =>
      Sv S <|
      New G.tN #[(Sl.val (Sl.mk (some t31) 1 1)), (Sl.val (Sl.mk (some t37) 2 2))] fun t39 =>
      St t33 (.pointer (some t39)) <|
      tput_s2 G Q (some t33) t6_1 old8_1 had9_1)
      ])
    (tput_s2 G Q t0_1 t6_1 old8_1 had9_1)
def tput (G : BtT κ) (t0 : (Option Addr)) (key1 : κ) (value2 : (Array Value)) (Q : (Array Value) → Bool → K) : K :=
  New G.tV value2 fun value5 =>
  New G.tV G.vz.toArray fun t6 =>
  Dr <| WithS fun S =>
  Nn t0 fun t14 =>
  LdS S t14 Value.pointer fun t16 =>
  LdNS S value5 G.nv fun t18 =>
  Bld (G.kz :: G.vz).toArray ([(0, 1), (1, G.nv)][·]?) [(0, (G.kV key1)), (1, (.agg t18))] fun t19 =>
  All [
    (G.nputC t16 t19 fun t20x0 t20x1 t20x2 t20x3 =>
    New G.tV G.vz.toArray fun old8 =>
    StN old8 G.nv t20x0 <|
    tput_s1 G Q (some t14) t6 old8 t20x1 t20x2 t20x3),
    (New G.tV G.vz.toArray fun old8 =>
    Sv S <|
    G.nputC t16 t19 fun t20x0 t20x1 t20x2 t20x3 =>
    StN old8 G.nv t20x0 <|
    tput_s1 G Q (some t14) t6 old8 t20x1 t20x2 t20x3)
    ]
end

/-- A value's cells. -/
abbrev Cel (n : Nat) := {l : List Value // l.length = n ∧ l.all flatV = true}
section
variable {κ : Type} (G : BtT κ)
abbrev BtT.It := κ × Cel G.nv
def BtT.f (x : G.It) : List Value := G.kV x.1 :: x.2.1
abbrev BtT.z0 (h : G.vz.length = G.nv ∧ G.vz.all flatV = true) : Cel G.nv := ⟨G.vz, h⟩
theorem BtT.f_len (x : G.It) : (G.f x).length = G.nv + 1 := by simp [BtT.f, x.2.2.1]

/-- What is asked of a tree's functions, and of how keys are compared. -/
structure BtOk (c : κ → κ → Int) : Prop where
  kf : ∀ k, flatV (G.kV k) = true
  kzf : flatV G.kz = true
  vz : G.vz.length = G.nv ∧ G.vz.all flatV = true
  TI : appT G.P G.tSI G.tSI G.tI (G.nv + 1) = true
  ZI : apZT G.P G.tSI 3 G.tI (G.nv + 1) = true
  TK : appT G.P G.tSK G.tSK G.tK 1 = true
  ZK : apZT G.P G.tSK 3 G.tK 1 = true
  tr : ∀ {a b d}, c a b < 0 → c b d < 0 → c a d < 0
  eq : ∀ {a b}, c a b = 0 ↔ a = b
  sw : ∀ {a b}, c a b < 0 ↔ 0 < c b a
  cmp : ∀ {B : World} {Γ : List HProp} (a b : κ) (vs : List Value) (q : Int → K), vs.length = G.nv → HG B Γ (q (c a b)) → HG B Γ (CallV G.P G.cv [(.agg (G.kV a :: vs).toArray), G.kV b] (Ans1 (fun (t : Int) => (Value.int .i64) t) q))
  bs : ∀ s k Q w, bsK G.P (G.nv + 1) s (G.kV k) G.cv Q w → G.bsC s k G.cv Q w
  search : ∀ n k Q w, nsearch G n k Q w → G.nsearchC n k Q w
  put : ∀ n x Q w, nput G n x Q w → G.nputC n x Q w
  insI : ∃ R rot, ∀ s i v Q w, insK G.P G.tSI 3 R (G.nv + 1) rot s i v Q w → G.insIC s i v Q w
  insK : ∃ R rot, ∀ s i v Q w, insK G.P G.tSK 3 R 1 rot s i v Q w → G.insKC s i v Q w
  cloneI : ∀ s Q w, cloneK G.P G.tI G.tSI s Q w → G.cloneIC s Q w
  cloneK : ∀ s Q w, cloneK G.P G.tK G.tSK s Q w → G.cloneKC s Q w
end

section
variable {κ : Type} {G : BtT κ} {c : κ → κ → Int} {B : World} {Γ Δ : List HProp}
/-- Keys rise. -/
def Srt (c : κ → κ → Int) {ν : Type} (L : List (κ × ν)) : Prop := L.Pairwise fun x y => c x.1 y.1 < 0
theorem f_flat (ok : BtOk G c) (x : G.It) : ∀ v ∈ G.f x, flatV v = true := fun v hv => by
  rcases List.mem_cons.1 hv with rfl | hv
  · exact ok.kf _
  · exact List.all_eq_true.1 x.2.2.2 v hv
theorem fl_flat (ok : BtOk G c) (L : List G.It) : ∀ v ∈ L.flatMap G.f, flatV v = true := fun v hv => by
  obtain ⟨x, _, hx⟩ := List.mem_flatMap.1 hv
  exact f_flat ok x v hx
theorem cc (ok : BtOk G c) {a b : κ} (h : 0 < c a b) (h2 : c a b < 0) : False := by omega

theorem s_search (ok : BtOk G c) {b : Nat} {s kd : Sl} {its : List G.It} {k : κ} {Q : Int → Bool → K} [p : Own b Γ (blk b (.cells [s.val, kd.val].toArray G.tN (0, 0))) Δ] {Δ2 : List HProp} [q : OwnS s Γ (SlC G.tI (G.nv + 1) s (its.flatMap G.f)) Δ2]
    (hs : Srt c its) (hl : its.length ≤ 1000) (hfound : ∀ A v C, its = A ++ (k, v) :: C → HG B Γ (Q A.length true)) (hnot : ∀ A C, its = A ++ C → (∀ x ∈ A, c x.1 k < 0) → (∀ x ∈ C, c k x.1 < 0) → HG B Γ (Q A.length false)) :
    HG B Γ (G.nsearchC (some ⟨b, 0, none⟩) k Q) := by
  refine fun w hw => ok.search _ _ _ _ ?_
  refine hg hw ?_
  clear hw w
  unfold nsearch
  refine s_nn ?_
  refine s_ld (b := b) (x := s) ?_
  refine fun w hw => ok.bs _ _ _ _ ?_
  refine hg hw ?_
  clear hw w
  obtain ⟨A, C, hAC, hA, hC⟩ : ∃ A C, its = A ++ C ∧ (∀ x ∈ A, c x.1 k < 0) ∧ ∀ x ∈ C, 0 ≤ c x.1 k := by
    clear hfound hnot q hl
    induction its with
    | nil => exact ⟨[], [], rfl, by simp, by simp⟩
    | cons x L ih =>
      have hs' := List.pairwise_cons.1 hs
      by_cases h : c x.1 k < 0
      · obtain ⟨A, C, h1, h2, h3⟩ := ih hs'.2
        exact ⟨x :: A, C, by rw [h1]; rfl, List.forall_mem_cons.2 ⟨h, h2⟩, h3⟩
      · refine ⟨[], x :: L, rfl, by simp, fun y hy => ?_⟩
        rcases List.mem_cons.1 hy with rfl | hy
        · omega
        · have h1 := hs'.1 y hy
          refine Int.not_lt.1 fun h2 => h (ok.tr h1 h2)
  subst hAC
  have hlen : (A ++ C).length = A.length + C.length := List.length_append
  refine s_bs (s := s) (L := A ++ C) (f := G.f) (c := fun x => c x.1 k) (p := A.length) G.f_len (by omega) (fun i x hx hi => ?_) (fun i x hx hi => ?_) (by omega) (fun x hx q hq => ok.cmp _ _ _ _ x.2.2.1 hq) ?_ (by omega)
  · rw [List.getElem?_append_left hi] at hx
    exact hA x (List.mem_of_getElem? hx)
  · rw [List.getElem?_append_right hi] at hx
    exact hC x (List.mem_of_getElem? hx)
  · have e : (A ++ C)[A.length]? = C.head? := by rw [List.getElem?_append_right (Nat.le_refl _), Nat.sub_self, List.head?_eq_getElem?]
    rw [e]
    cases C with
    | nil => simpa using hnot A [] rfl hA (by simp)
    | cons x C =>
      have hs2 := (List.pairwise_append.1 hs).2.1
      by_cases h0 : c x.1 k = 0
      · have := ok.eq.1 h0
        obtain ⟨xk, v⟩ := x
        simp only at this; subst this
        simpa [h0] using hfound A v C rfl
      · have h1 : 0 < c x.1 k := by have := hC x List.mem_cons_self; omega
        have := hnot A (x :: C) rfl hA (fun y hy => by
          rcases List.mem_cons.1 hy with rfl | hy
          · exact ok.sw.2 h1
          · exact ok.tr (ok.sw.2 h1) ((List.pairwise_cons.1 hs2).1 y hy))
        simpa [h0] using this
end
end Bt
end Go.Sep
/- A B-tree's node, and what put does to it. Holds for every program. -/
namespace Go.Sep
open Go Go.RowKit
set_option linter.unusedSimpArgs false
set_option linter.unusedVariables false
namespace Bt
section
variable {κ : Type} {G : BtT κ} {c : κ → κ → Int} {B : World} {Γ Δ : List HProp}
theorem flatMap_drop {α : Type} {f : α → List Value} {esz : Nat} (hf : ∀ x, (f x).length = esz) : ∀ (L : List α) (i : Nat), (L.flatMap f).drop (i * esz) = (L.drop i).flatMap f
  | L, 0 => by simp
  | [], i + 1 => by simp
  | x :: L, i + 1 => by
    rw [List.flatMap_cons, List.drop_succ_cons, ← flatMap_drop hf L i, Nat.add_mul, Nat.one_mul, Nat.add_comm, ← List.drop_drop, ← hf x, List.drop_left]
theorem flatMap_take {α : Type} {f : α → List Value} {esz : Nat} (hf : ∀ x, (f x).length = esz) : ∀ (L : List α) (i : Nat), (L.flatMap f).take (i * esz) = (L.take i).flatMap f
  | L, 0 => by simp
  | [], i + 1 => by simp
  | x :: L, i + 1 => by
    rw [List.flatMap_cons, List.take_succ_cons, List.flatMap_cons, ← flatMap_take hf L i, Nat.add_mul, Nat.one_mul, Nat.add_comm, ← hf x, List.take_length_add_append]
theorem s_ldEl {α : Type} {f : α → List Value} {esz E : Nat} {s : Sl} {L : List α} {i : Nat} {x : α} {k : Array Value → K} (hf : ∀ x, (f x).length = esz) (hx : L[i]? = some x) (h : HG B Γ (k (f x).toArray)) [o : OwnS s Γ (SlC E esz s (L.flatMap f)) Δ] : HG B Γ (LdN (elA s i esz) esz k) := by
  rw [← add0 (elA s i esz)]
  exact s_ldEN (s := s) (by simpa using flatMap_el hf hx) (hf x) h
abbrev nodeB (G : BtT κ) (b : Nat) (s kd : Sl) : HProp := blk b (.cells [s.val, kd.val].toArray G.tN (0, 0))
abbrev itsR (G : BtT κ) (s : Sl) (its : List G.It) : HProp := SlC G.tI (G.nv + 1) s (its.flatMap G.f)
abbrev kpsR (G : BtT κ) (s : Sl) (kp : List (Option Addr)) : HProp := SlC G.tK 1 s (kp.map Value.pointer)
abbrev valB (G : BtT κ) (b : Nat) (v : Cel G.nv) : HProp := blk b (.cells v.1.toArray G.tV (0, 0))
/-- A value's block is read, written and read. -/
theorem s_ret3 {o : Nat} {v : Cel G.nv} {k : Array Value → K} (h : HG B Γ (k v.1.toArray)) [p : Own o Γ (valB G o v) Δ] : HG B Γ (LdN ⟨o, 0, none⟩ G.nv fun t => StN ⟨o, 0, none⟩ G.nv t <| LdN ⟨o, 0, none⟩ G.nv k) := by
  have e : (v.1.drop 0).take G.nv = v.1 := by rw [List.drop_zero, List.take_of_length_le (Nat.le_of_eq v.2.1)]
  refine fun w hw => ?_
  refine hg (hw.perm p.perm) ?_
  refine s_ldN (b := o) ?_ e v.2.1
  refine s_stN (b := o) ?_ v.2.1 v.2.1 v.2.2
  refine s_ldN (b := o) ?_ e v.2.1
  exact fun w hw => h w (hw.perm p.perm.symm)
theorem kp_flat (kp : List (Option Addr)) : ∀ v ∈ kp.map Value.pointer, flatV v = true := fun v hv => by obtain ⟨a, _, rfl⟩ := List.mem_map.1 hv; rfl
theorem kp_len (kp : List (Option Addr)) : (kp.map Value.pointer).length = kp.length * 1 := by simp

theorem s_s1 (ok : BtOk G c) {o b : Nat} {old : Cel G.nv} {had : Bool} {s kd : Sl} {its : List G.It} {kp : List (Option Addr)} {Q : Array Value → Bool → Option Addr → Option Addr → K} (hs : its.length ≤ 6) (hk : kp = [] ∨ kp.length = its.length + 1)
    (h1 : its.length ≤ 5 → HG B (nodeB G b s kd :: itsR G s its :: kpsR G kd kp :: Γ) (Q old.1.toArray had none none))
    (h2 : ∀ x, its.length = 6 → its = its.take 2 ++ x :: its.drop 3 → ∀ s1 c1 r s2 c2 mb, HG B (blk mb (.cells (G.f x).toArray G.tI (0, 0)) :: nodeB G b s1 c1 :: itsR G s1 (its.take 2) :: kpsR G c1 (kp.take 3) :: nodeB G r s2 c2 :: itsR G s2 (its.drop 3) :: kpsR G c2 (kp.drop 3) :: Γ) (Q old.1.toArray had (some ⟨mb, 0, none⟩) (some ⟨r, 0, none⟩))) :
    HG B (valB G o old :: nodeB G b s kd :: itsR G s its :: kpsR G kd kp :: Γ) (nput_s1 G Q (some ⟨b, 0, none⟩) ⟨o, 0, none⟩ had) := by
  refine s_cap s fun l1 l2 l3 l4 => ?_
  refine s_cap kd fun m1 m2 m3 m4 => ?_
  rw [flatMap_len G.f _ G.f_len] at l1
  have hn : s.n = its.length := (Nat.eq_of_mul_eq_mul_right (by omega) l1).symm
  have hkn : kd.n = kp.length := by rw [kp_len] at m1; omega
  unfold nput_s1
  refine s_nn ?_
  refine s_ld (b := b) (x := s) ?_
  refine s_ite (fun hb => ?_) fun hb => ?_
  · refine s_ret3 ?_
    exact s_end (h1 (by simp only [decide_eq_true_eq] at hb; omega))
  have h6 : its.length = 6 := by simp only [decide_eq_false_iff_not] at hb; omega
  obtain ⟨x, hx⟩ : ∃ x, its[2]? = some x := ⟨_, List.getElem?_eq_getElem (by omega)⟩
  have hsplit : its = its.take 2 ++ x :: its.drop 3 := by
    have := List.drop_eq_getElem_cons (l := its) (i := 2) (by omega)
    rw [List.getElem?_eq_getElem (by omega), Option.some.injEq] at hx
    rw [hx] at this
    rw [← this, List.take_append_drop]
  refine s_ld (b := b) (x := s) ?_
  refine s_idx (s := s) (i := 2) ?_
  refine s_ldEl (s := s) G.f_len hx ?_
  refine s_new fun mb => ?_
  refine s_stN (b := mb) ?_ (by simp [ok.vz.1]) (G.f_len x) (List.all_eq_true.2 (f_flat ok x))
  refine s_ld (b := b) (x := s) ?_
  refine s_slc (lo := 3) (hi := s.n) (mx := s.c) ?_
  refine fun w hw => ok.cloneI _ _ _ ?_
  refine hg hw ?_
  clear hw w
  have hfl := fl_flat ok its
  refine s_clone0 (s := ⟨cutA s.a 3 s.c (G.nv + 1), s.n - 3, s.c - 3⟩) (us := (its.drop 3).flatMap G.f) (esz := G.nv + 1) (fun w hw => ?_) (fl_flat ok _) (by simp only; omega) (fun s2 hs2 => ?_) ok.TI
  · rw [← flatMap_drop G.f_len]
    exact (own_rd (s := s) hw).1.drop (by omega) l2 l3
  refine s_new fun r => ?_
  refine s_ld (b := b) (x := s) ?_
  refine s_slc (lo := 0) (hi := 2) (mx := 2) ?_
  rw [cut0 l3]
  refine s_st (b := b) ?_
  refine s_shrink (s := s) (m := 2) (c' := 2) (by omega) (by omega) (by omega) ?_
  rw [flatMap_take G.f_len]
  refine s_ld (b := b) (x := kd) ?_
  refine s_ite (fun hb2 => ?_) fun hb2 => ?_
  · have hk7 : kp.length = 7 := by
      simp only [decide_eq_true_eq] at hb2
      rcases hk with rfl | hk
      · simp only [List.length_nil] at hkn; omega
      · omega
    refine s_ld (b := b) (x := kd) ?_
    refine s_slc (lo := 3) (hi := kd.n) (mx := kd.c) ?_
    refine fun w hw => ok.cloneK _ _ _ ?_
    refine hg hw ?_
    clear hw w
    refine s_clone0 (s := ⟨cutA kd.a 3 kd.c 1, kd.n - 3, kd.c - 3⟩) (us := (kp.drop 3).map Value.pointer) (esz := 1) (fun w hw => ?_) (kp_flat _) (by simp only; omega) (fun c2 hc2 => ?_) ok.TK
    · have := (own_rd (s := kd) hw).1.drop (l := 3) (c := kd.c) (by omega) m2 m3
      simpa using this
    refine s_st (b := r) ?_
    refine s_ld (b := b) (x := kd) ?_
    refine s_slc (lo := 0) (hi := 3) (mx := 3) ?_
    rw [cut0 m3]
    refine s_st (b := b) ?_
    refine s_shrink (s := kd) (m := 3) (c' := 3) (by omega) (by omega) (by omega) ?_
    rw [show (kp.map Value.pointer).take (3 * 1) = (kp.take 3).map Value.pointer by simp]
    unfold nput_s2
    refine s_ret3 ?_
    exact s_end (h2 x h6 hsplit ⟨s.a, 2, 2⟩ ⟨kd.a, 3, 3⟩ r s2 c2 mb)
  · have hk0 : kp = [] := by
      simp only [decide_eq_false_iff_not] at hb2
      rcases hk with rfl | hk
      · rfl
      · omega
    have e1 : kp.take 3 = kp := by rw [hk0]; rfl
    have e2 : kp.drop 3 = [] := by rw [hk0]; rfl
    simp only [e1, e2] at h2
    unfold nput_s2
    refine s_ret3 ?_
    refine fun w hw => ?_
    refine hg (show Holds B (kpsR G ⟨none, 0, 0⟩ [] :: _) w from hw.nilSl G.tK 1) ?_
    exact s_end (h2 x h6 hsplit ⟨s.a, 2, 2⟩ kd r s2 ⟨none, 0, 0⟩ mb)
end
end Bt
end Go.Sep
/- A B-tree's node by its depth, and what put does to it. Holds for every program. -/
namespace Go.Sep
open Go Go.RowKit
set_option linter.unusedSimpArgs false
set_option linter.unusedVariables false
namespace Bt
section
variable {κ : Type} {G : BtT κ} {c : κ → κ → Int} {B : World} {Γ Δ : List HProp}

/-! ### kids and items in turn -/
abbrev Kid (G : BtT κ) := Nat × List G.It
def ptr (q : Kid G) : Option Addr := some ⟨q.1, 0, none⟩
def psL (q0 : Kid G) (ps : List (G.It × Kid G)) : List G.It := q0.2 ++ ps.flatMap fun p => p.1 :: p.2.2
def preL (l : List (Kid G × G.It)) : List G.It := l.flatMap fun p => p.1.2 ++ [p.2]
def postL (r : List (G.It × Kid G)) : List G.It := r.flatMap fun p => p.1 :: p.2.2
theorem zfwd : ∀ (i : Nat) (q0 : Kid G) (ps : List (G.It × Kid G)), i ≤ ps.length → ∃ l q r, l.length = i ∧ ps.map Prod.fst = l.map Prod.snd ++ r.map Prod.fst ∧ q0 :: ps.map Prod.snd = l.map Prod.fst ++ q :: r.map Prod.snd ∧ psL q0 ps = preL l ++ q.2 ++ postL r
  | 0, q0, ps, _ => ⟨[], q0, ps, rfl, rfl, rfl, by simp [psL, preL, postL]⟩
  | i + 1, q0, [], h => by simp at h
  | i + 1, q0, (x, q1) :: ps, h => by
    obtain ⟨l, q, r, h1, h2, h3, h4⟩ := zfwd i q1 ps (by simpa using h)
    refine ⟨(q0, x) :: l, q, r, by simp [h1], by simp [h2], by simp only [List.map_cons, List.cons_append, ← h3], ?_⟩
    have : psL q0 ((x, q1) :: ps) = q0.2 ++ x :: psL q1 ps := by simp [psL]
    rw [this, h4]
    simp [preL]
theorem zback : ∀ (l : List (Kid G × G.It)) (q : Kid G) (r : List (G.It × Kid G)), ∃ q0 ps, ps.length = l.length + r.length ∧ ps.map Prod.fst = l.map Prod.snd ++ r.map Prod.fst ∧ q0 :: ps.map Prod.snd = l.map Prod.fst ++ q :: r.map Prod.snd ∧ psL q0 ps = preL l ++ q.2 ++ postL r
  | [], q, r => ⟨q, r, by simp, rfl, rfl, by simp [psL, preL, postL]⟩
  | (p, x) :: l, q, r => by
    obtain ⟨q0, ps, h1, h2, h3, h4⟩ := zback l q r
    refine ⟨p, (x, q0) :: ps, by simp [h1]; omega, by simp [h2], by simp only [List.map_cons, List.cons_append, ← h3], ?_⟩
    have : psL p ((x, q0) :: ps) = p.2 ++ x :: psL q0 ps := by simp [psL]
    rw [this, h4]
    simp [preL]
theorem Srt.sub {ν : Type} {L M : List (κ × ν)} (h : Srt c L) (hs : M.Sublist L) : Srt c M := List.Pairwise.sublist hs h
theorem pre_lt (ok : BtOk G c) {k : κ} : ∀ (l : List (Kid G × G.It)), Srt c (preL l) → (∀ x ∈ l.map Prod.snd, c x.1 k < 0) → ∀ y ∈ preL l, c y.1 k < 0
  | [], _, _, y, hy => by simp [preL] at hy
  | (p, x) :: l, hs, h, y, hy => by
    have e : preL ((p, x) :: l) = (p.2 ++ [x]) ++ preL l := rfl
    rw [e] at hs hy
    have hx : c x.1 k < 0 := h x (by simp)
    rcases List.mem_append.1 hy with hy | hy
    · rcases List.mem_append.1 hy with hy | hy
      · have h1 := (List.pairwise_append.1 (List.pairwise_append.1 hs).1).2.2 y hy x (by simp)
        exact ok.tr h1 hx
      · rw [List.mem_singleton.1 hy]; exact hx
    · exact pre_lt ok l (List.pairwise_append.1 hs).2.1 (fun z hz => h z (by simp at hz ⊢; exact .inr hz)) y hy
theorem post_gt (ok : BtOk G c) {k : κ} : ∀ (r : List (G.It × Kid G)), Srt c (postL r) → (∀ x ∈ r.map Prod.fst, c k x.1 < 0) → ∀ y ∈ postL r, c k y.1 < 0
  | [], _, _, y, hy => by simp [postL] at hy
  | (x, q) :: r, hs, h, y, hy => by
    have e : postL ((x, q) :: r) = (x :: q.2) ++ postL r := rfl
    rw [e] at hs hy
    have hx : c k x.1 < 0 := h x (by simp)
    rcases List.mem_append.1 hy with hy | hy
    · rcases List.mem_cons.1 hy with rfl | hy
      · exact hx
      · exact ok.tr hx ((List.pairwise_cons.1 (List.pairwise_append.1 hs).1).1 y hy)
    · exact post_gt ok r (List.pairwise_append.1 hs).2.1 (fun z hz => h z (by simp at hz ⊢; exact .inr hz)) y hy
theorem its_sub (q0 : Kid G) : ∀ (ps : List (G.It × Kid G)), (ps.map Prod.fst).Sublist (psL q0 ps)
  | [] => by simp
  | (x, q) :: ps => by
    have : psL q0 ((x, q) :: ps) = q0.2 ++ x :: psL q ps := by simp [psL]
    rw [this, List.map_cons]
    exact ((its_sub q ps).cons_cons x).trans (List.sublist_append_right _ _)

/-! ### what put tells -/
def PutR (c : κ → κ → Int) {ν : Type} (z : ν) (L : List (κ × ν)) (k : κ) (v : ν) (L' : List (κ × ν)) (old : ν) (had : Bool) : Prop :=
  (∃ A C, L = A ++ (k, old) :: C ∧ L' = A ++ (k, v) :: C ∧ had = true) ∨ (∃ A C, L = A ++ C ∧ (∀ x ∈ A, c x.1 k < 0) ∧ (∀ x ∈ C, c k x.1 < 0) ∧ L' = A ++ (k, v) :: C ∧ old = z ∧ had = false)
theorem PutR.mid {ν : Type} {z v old : ν} {A C L L' : List (κ × ν)} {k : κ} {had : Bool} (hA : ∀ x ∈ A, c x.1 k < 0) (hC : ∀ x ∈ C, c k x.1 < 0) (h : PutR c z L k v L' old had) : PutR c z (A ++ L ++ C) k v (A ++ L' ++ C) old had := by
  rcases h with ⟨A', C', rfl, rfl, rfl⟩ | ⟨A', C', rfl, h1, h2, rfl, rfl, rfl⟩
  · exact .inl ⟨A ++ A', C' ++ C, by simp, by simp, rfl⟩
  · refine .inr ⟨A ++ A', C' ++ C, by simp, fun x hx => ?_, fun x hx => ?_, by simp, rfl, rfl⟩
    · rcases List.mem_append.1 hx with hx | hx
      · exact hA x hx
      · exact h1 x hx
    · rcases List.mem_append.1 hx with hx | hx
      · exact h2 x hx
      · exact hC x hx

/-! ### a node -/
def NodeR (G : BtT κ) : Nat → Nat → Nat → List G.It → HProp
  | 0, m, b, L => ex fun s => ex fun kd => Sep.stars [pur ((m = 2 → L ≠ []) ∧ L.length ≤ 5), nodeB G b s kd, itsR G s L, kpsR G kd []]
  | d + 1, m, b, L => ex fun s => ex fun kd => ex fun q0 : Kid G => ex fun ps : List (G.It × Kid G) => Sep.stars [pur ((1 ≤ m → ps ≠ []) ∧ ps.length ≤ 5 ∧ L = psL q0 ps), nodeB G b s kd, itsR G s (ps.map Prod.fst), kpsR G kd ((q0 :: ps.map Prod.snd).map ptr),
      Sep.stars ((q0 :: ps.map Prod.snd).map fun q => NodeR G d 2 q.1 q.2)]
instance (priority := high) own_node {d m b : Nat} {L : List G.It} : Own b (NodeR G d m b L :: Γ) (NodeR G d m b L) Γ := ⟨.refl _⟩
theorem s_node0 {m b : Nat} {L : List G.It} {k : K} (h : ∀ s kd, (m = 2 → L ≠ []) → L.length ≤ 5 → HG B (nodeB G b s kd :: itsR G s L :: kpsR G kd [] :: Γ) k) : HG B (NodeR G 0 m b L :: Γ) k :=
  s_conv (A' := ex fun s => ex fun kd => Sep.stars [pur ((m = 2 → L ≠ []) ∧ L.length ≤ 5), nodeB G b s kd, itsR G s L, kpsR G kd []]) (fun _ h => h) <| s_ex fun s => s_ex fun kd => s_flat <| s_pur fun ⟨h1, h2⟩ => h s kd h1 h2
theorem s_mk0 {m b : Nat} {L : List G.It} {k : K} {s kd : Sl} (h1 : m = 2 → L ≠ []) (h2 : L.length ≤ 5) (h : HG B (NodeR G 0 m b L :: Γ) k) : HG B (nodeB G b s kd :: itsR G s L :: kpsR G kd [] :: Γ) k :=
  s_toPur (p := (m = 2 → L ≠ []) ∧ L.length ≤ 5) ⟨h1, h2⟩ <| s_unflat (Δ := [pur ((m = 2 → L ≠ []) ∧ L.length ≤ 5), nodeB G b s kd, itsR G s L, kpsR G kd []]) <| s_toEx (F := fun kd => Sep.stars [pur ((m = 2 → L ≠ []) ∧ L.length ≤ 5), nodeB G b s kd, itsR G s L, kpsR G kd []]) kd <|
    s_toEx (F := fun s => ex fun kd => Sep.stars [pur ((m = 2 → L ≠ []) ∧ L.length ≤ 5), nodeB G b s kd, itsR G s L, kpsR G kd []]) s <| s_conv (fun _ h => h) h
abbrev kidsR (G : BtT κ) (d : Nat) (ks : List (Kid G)) : HProp := Sep.stars (ks.map fun q => NodeR G d 2 q.1 q.2)
theorem s_nodeS {d m b : Nat} {L : List G.It} {k : K} (h : ∀ s kd q0 ps, (1 ≤ m → ps ≠ []) → ps.length ≤ 5 → L = psL q0 ps → HG B (nodeB G b s kd :: itsR G s (ps.map Prod.fst) :: kpsR G kd ((q0 :: ps.map Prod.snd).map ptr) :: kidsR G d (q0 :: ps.map Prod.snd) :: Γ) k) : HG B (NodeR G (d + 1) m b L :: Γ) k :=
  s_conv (A' := ex fun s => ex fun kd => ex fun q0 : Kid G => ex fun ps : List (G.It × Kid G) => Sep.stars [pur ((1 ≤ m → ps ≠ []) ∧ ps.length ≤ 5 ∧ L = psL q0 ps), nodeB G b s kd, itsR G s (ps.map Prod.fst), kpsR G kd ((q0 :: ps.map Prod.snd).map ptr), kidsR G d (q0 :: ps.map Prod.snd)]) (fun _ h => h) <|
    s_ex fun s => s_ex fun kd => s_ex fun q0 => s_ex fun ps => s_flat <| s_pur fun ⟨h1, h2, h3⟩ => h s kd q0 ps h1 h2 h3
theorem s_mkS {d m b : Nat} {q0 : Kid G} {ps : List (G.It × Kid G)} {k : K} {s kd : Sl} (h1 : 1 ≤ m → ps ≠ []) (h2 : ps.length ≤ 5) (h : HG B (NodeR G (d + 1) m b (psL q0 ps) :: Γ) k) :
    HG B (nodeB G b s kd :: itsR G s (ps.map Prod.fst) :: kpsR G kd ((q0 :: ps.map Prod.snd).map ptr) :: kidsR G d (q0 :: ps.map Prod.snd) :: Γ) k := fun w hw => by
  refine h w ?_
  have h3 : Holds B (Sep.stars [pur ((1 ≤ m → ps ≠ []) ∧ ps.length ≤ 5 ∧ psL q0 ps = psL q0 ps), nodeB G b s kd, itsR G s (ps.map Prod.fst), kpsR G kd ((q0 :: ps.map Prod.snd).map ptr), kidsR G d (q0 :: ps.map Prod.snd)] :: Γ) w := Holds.flat.2 (Holds.pur.2 ⟨⟨h1, h2, rfl⟩, hw⟩)
  exact h3.imp fun g hg => ⟨s, kd, q0, ps, hg⟩
/-- One kid among the kids. -/
theorem kid_perm {d : Nat} {A C : List (Kid G)} {q : Kid G} : (((A ++ q :: C).map fun q => NodeR G d 2 q.1 q.2) ++ Γ).Perm (((A ++ C).map fun q => NodeR G d 2 q.1 q.2) ++ NodeR G d 2 q.1 q.2 :: Γ) := by
  have h2 : ((A ++ q :: C).map fun q => NodeR G d 2 q.1 q.2).Perm (NodeR G d 2 q.1 q.2 :: (A ++ C).map fun q => NodeR G d 2 q.1 q.2) := (List.perm_middle (a := q) (l₁ := A) (l₂ := C)).map _
  refine (h2.append_right Γ).trans ?_
  exact (List.perm_middle (a := NodeR G d 2 q.1 q.2) (l₁ := (A ++ C).map fun q => NodeR G d 2 q.1 q.2) (l₂ := Γ)).symm
theorem s_kid {d : Nat} {A C : List (Kid G)} {q : Kid G} {k : K} (h : HG B (NodeR G d 2 q.1 q.2 :: kidsR G d (A ++ C) :: Γ) k) : HG B (kidsR G d (A ++ q :: C) :: Γ) k := fun w hw =>
  h w (Holds.flat.2 ((Holds.flat.1 hw).perm kid_perm)).swap
theorem s_unkid {d : Nat} {A C : List (Kid G)} {q : Kid G} {k : K} (h : HG B (kidsR G d (A ++ q :: C) :: Γ) k) : HG B (NodeR G d 2 q.1 q.2 :: kidsR G d (A ++ C) :: Γ) k := fun w hw =>
  h w (Holds.flat.2 ((Holds.flat.1 hw.swap).perm kid_perm.symm))
end
end Bt
end Go.Sep
/- What put does to a B-tree's node. Holds for every program. -/
namespace Go.Sep
open Go Go.RowKit
set_option linter.unusedSimpArgs false
set_option linter.unusedVariables false
namespace Bt
section
variable {κ : Type} {G : BtT κ} {c : κ → κ → Int} {B : World} {Γ Δ : List HProp}

theorem at_mid {α : Type} {A C : List α} {x : α} : (A ++ x :: C)[A.length]? = some x := by simp
/-- A value in the midst of items is another one. -/
theorem lay_val {A C : List G.It} {k : κ} {v0 v : Cel G.nv} : layAt ((A ++ (k, v0) :: C).flatMap G.f) (A.length * (G.nv + 1) + 1) v.1 = (A ++ (k, v) :: C).flatMap G.f := by
  have e1 : (A ++ (k, v0) :: C).flatMap G.f = (A.flatMap G.f ++ [G.kV k]) ++ (v0.1 ++ C.flatMap G.f) := by simp [BtT.f]
  have e2 : (A ++ (k, v) :: C).flatMap G.f = (A.flatMap G.f ++ [G.kV k]) ++ (v.1 ++ C.flatMap G.f) := by simp [BtT.f]
  rw [e1, e2, layAt_mid (by simp [flatMap_len G.f _ G.f_len]) (by rw [v0.2.1, v.2.1])]
theorem drop_val {A C : List G.It} {k : κ} {v0 : Cel G.nv} : (((A ++ (k, v0) :: C).flatMap G.f).drop (A.length * (G.nv + 1) + 1)).take G.nv = v0.1 := by
  have e1 : (A ++ (k, v0) :: C).flatMap G.f = (A.flatMap G.f ++ [G.kV k]) ++ (v0.1 ++ C.flatMap G.f) := by simp [BtT.f]
  rw [e1, show A.length * (G.nv + 1) + 1 = (A.flatMap G.f ++ [G.kV k]).length by simp [flatMap_len G.f _ G.f_len], List.drop_left, List.take_left' v0.2.1]
theorem ins_items {A C : List G.It} {x : G.It} : ((A ++ C).flatMap G.f).take (A.length * (G.nv + 1)) ++ G.f x ++ ((A ++ C).flatMap G.f).drop (A.length * (G.nv + 1)) = (A ++ x :: C).flatMap G.f := by
  rw [flatMap_take G.f_len, flatMap_drop G.f_len, List.take_left, List.drop_left]
  simp
theorem ins_kids {A C : List (Option Addr)} {x : Option Addr} : ((A ++ C).map Value.pointer).take (A.length * 1) ++ [Value.pointer x] ++ ((A ++ C).map Value.pointer).drop (A.length * 1) = (A ++ x :: C).map Value.pointer := by
  rw [Nat.mul_one, ← List.map_take, ← List.map_drop, List.take_left, List.drop_left]
  simp

theorem s_kids_split {d : Nat} {A C : List (Kid G)} {k : K} (h : HG B (kidsR G d A :: kidsR G d C :: Γ) k) : HG B (kidsR G d (A ++ C) :: Γ) k := fun w hw => by
  have h1 := Holds.flat.1 hw
  rw [List.map_append, List.append_assoc] at h1
  have h2 : Holds B ((C.map fun q => NodeR G d 2 q.1 q.2) ++ kidsR G d A :: Γ) w := (Holds.flat.2 h1).perm List.perm_middle.symm
  exact h w (Holds.flat.2 h2).swap
theorem zip_of {q0 : Kid G} {ps : List (G.It × Kid G)} {A C : List G.It} (e : ps.map Prod.fst = A ++ C) : ∃ l q r, A = l.map Prod.snd ∧ C = r.map Prod.fst ∧ q0 :: ps.map Prod.snd = l.map Prod.fst ++ q :: r.map Prod.snd ∧ psL q0 ps = preL l ++ q.2 ++ postL r ∧ ps.length = l.length + r.length := by
  have hl := congrArg List.length e
  simp only [List.length_map, List.length_append] at hl
  obtain ⟨l, q, r, h1, h2, h3, h4⟩ := zfwd A.length q0 ps (by omega)
  rw [e] at h2
  obtain ⟨h5, h6⟩ := List.append_inj h2 (by simp [h1])
  refine ⟨l, q, r, h5, h6, h3, h4, ?_⟩
  rw [hl, h6, h1, List.length_map]
theorem nput_spec (ok : BtOk G c) : ∀ (d : Nat) {m b : Nat} {M : List G.It} {k : κ} {v : Cel G.nv} {Γ : List HProp} {Q : Array Value → Bool → Option Addr → Option Addr → K}, 1 ≤ m → Srt c M →
    (∀ M' old had, PutR c (G.z0 ok.vz) M k v M' old had → HG B (NodeR G d 2 b M' :: Γ) (Q old.1.toArray had none none)) →
    (∀ M1 x M2 old had r mb, PutR c (G.z0 ok.vz) M k v (M1 ++ x :: M2) old had → HG B (blk mb (.cells (G.f x).toArray G.tI (0, 0)) :: NodeR G d 2 b M1 :: NodeR G d 2 r M2 :: Γ) (Q old.1.toArray had (some ⟨mb, 0, none⟩) (some ⟨r, 0, none⟩))) →
    HG B (NodeR G d m b M :: Γ) (G.nputC (some ⟨b, 0, none⟩) (G.f (k, v)).toArray Q) := by
  intro d
  induction d with
  | zero =>
    intro m b M k v Γ Q hm hs h1 h2
    refine fun w hw => ok.put _ _ _ _ ?_
    refine hg hw ?_
    clear hw w
    refine s_node0 fun s kd _ hl => ?_
    refine s_cap kd fun m1 m2 m3 m4 => ?_
    unfold nput
    refine s_new fun x3 => ?_
    refine s_new fun o => ?_
    refine s_ld (b := x3) (x := k) ?_
    refine s_search ok (s := s) (kd := kd) hs (by omega) (fun A v0 C e => ?_) fun A C e hA hC => ?_
    · subst e
      refine s_t ?_
      refine s_nn ?_
      refine s_cap s fun l1 l2 l3 l4 => ?_
      rw [flatMap_len G.f _ G.f_len] at l1
      have hn : s.n = (A ++ (k, v0) :: C).length := (Nat.eq_of_mul_eq_mul_right (by omega) l1).symm
      have hlen : (A ++ (k, v0) :: C).length = A.length + (C.length + 1) := List.length_append
      refine s_ld (b := b) (x := s) ?_
      refine s_idx (s := s) (i := A.length) ?_
      refine s_ldEN (s := s) (l' := v0.1) drop_val v0.2.1 ?_
      refine s_stN (b := o) ?_ ok.vz.1 v0.2.1 v0.2.2
      refine s_dr ?_
      refine s_ld (b := b) (x := s) ?_
      refine s_ldN (b := x3) (off := 0 + 1) (l := G.f (k, v)) (l' := v.1) ?_ (List.take_of_length_le (Nat.le_of_eq v.2.1)) v.2.1
      refine s_idx (s := s) (i := A.length) ?_
      refine s_stEN (s := s) ?_ v.2.1 ?_ v.2.2
      rotate_left
      · rw [flatMap_len G.f _ G.f_len, hlen, Nat.add_mul, Nat.add_mul]; omega
      rw [lay_val]
      refine s_ret3 (v := v0) ?_
      refine s_end (Δ := nodeB G b s kd :: itsR G s (A ++ (k, v) :: C) :: kpsR G kd [] :: Γ) ?_
      refine s_mk0 (m := 2) (by simp) (by simpa using hl) (h1 _ _ _ (.inl ⟨A, C, rfl, rfl, rfl⟩))
    · subst e
      refine s_f ?_
      refine s_nn ?_
      refine s_ld (b := b) (x := kd) ?_
      refine s_t ?_ (by simpa using m1.symm)
      refine s_dr ?_
      refine s_ws ?_
      refine s_ldS (b := b) (x := s) ?_
      refine s_ldNS (b := x3) (l' := G.f (k, v)) ?_ (List.take_of_length_le (by simp [G.f_len])) (G.f_len _)
      refine s_bld1 ?_ (by simp [ok.vz.1]) (G.f_len _)
      refine s_new fun t => ?_
      refine s_sv ?_
      obtain ⟨R, rot, hins⟩ := ok.insI
      refine s_cap s fun l1 l2 l3 l4 => ?_
      rw [flatMap_len G.f _ G.f_len] at l1
      have hn : s.n = (A ++ C).length := (Nat.eq_of_mul_eq_mul_right (by omega) l1).symm
      have hlen : (A ++ C).length = A.length + C.length := List.length_append
      refine fun w hw => hins _ _ _ _ _ ?_
      refine hg hw ?_
      clear hw w
      refine s_ins (s := s) (i := A.length) (t := t) (by omega) (by omega) (G.f_len _) (by omega) (fl_flat ok _) (f_flat ok _) (fun s' hs' => ?_) ok.TI ok.ZI
      rw [ins_items]
      refine s_st (b := b) ?_
      refine s_end (Δ := valB G o (G.z0 ok.vz) :: nodeB G b s' kd :: itsR G s' (A ++ (k, v) :: C) :: kpsR G kd [] :: Γ) ?_
      have hput : PutR c (G.z0 ok.vz) (A ++ C) k v (A ++ (k, v) :: C) (G.z0 ok.vz) false := .inr ⟨A, C, rfl, hA, hC, rfl, rfl, rfl⟩
      refine s_s1 ok (by simp; omega) (.inl rfl) (fun h5 => ?_) fun x h6 hx s1 c1 r s2 c2 mb => ?_
      · refine s_mk0 (m := 2) (by simp) h5 (h1 _ _ _ hput)
      · have h7 := h2 ((A ++ (k, v) :: C).take 2) x ((A ++ (k, v) :: C).drop 3) _ _ r mb (by rw [← hx]; exact hput)
        simp only [List.take_nil, List.drop_nil]
        refine s_end (Δ := nodeB G b s1 c1 :: itsR G s1 ((A ++ (k, v) :: C).take 2) :: kpsR G c1 [] :: nodeB G r s2 c2 :: itsR G s2 ((A ++ (k, v) :: C).drop 3) :: kpsR G c2 [] :: blk mb (.cells (G.f x).toArray G.tI (0, 0)) :: Γ) ?_
        refine s_mk0 (m := 2) (fun _ h => ?_) (by rw [List.length_take]; omega) ?_
        · have := congrArg List.length h; simp only [List.length_take, List.length_nil] at this; omega
        refine s_end (Δ := nodeB G r s2 c2 :: itsR G s2 ((A ++ (k, v) :: C).drop 3) :: kpsR G c2 [] :: blk mb (.cells (G.f x).toArray G.tI (0, 0)) :: NodeR G 0 2 b ((A ++ (k, v) :: C).take 2) :: Γ) ?_
        refine s_mk0 (m := 2) (fun _ h => ?_) (by rw [List.length_drop]; omega) ?_
        · have := congrArg List.length h; simp only [List.length_drop, List.length_nil] at this; omega
        exact s_end h7
  | succ d ih =>
    intro m b M k v Γ Q hm hs h1 h2
    refine fun w hw => ok.put _ _ _ _ ?_
    refine hg hw ?_
    clear hw w
    refine s_nodeS fun s kd q0 ps hne hl hM => ?_
    subst hM
    unfold nput
    refine s_new fun x3 => ?_
    refine s_new fun o => ?_
    refine s_ld (b := x3) (x := k) ?_
    refine s_search ok (s := s) (kd := kd) (hs.sub (its_sub q0 ps)) (by simp; omega) (fun A v0 C e => ?_) fun A C e hA hC => ?_
    · obtain ⟨l, q, r, hA, hC, hK, hL, hlen⟩ := zip_of (q0 := q0) e
      rw [e, hK]
      rw [hL] at hs h1 h2
      obtain ⟨⟨xx, q1⟩, r, rfl, hxx, hC'⟩ := List.map_eq_cons_iff.1 hC.symm
      simp only at hxx
      subst hxx
      subst hA
      subst hC'
      refine s_t ?_
      refine s_nn ?_
      refine s_cap s fun l1 l2 l3 l4 => ?_
      rw [flatMap_len G.f _ G.f_len] at l1
      have hil : (l.map Prod.snd ++ (k, v0) :: r.map Prod.fst).length = (l.map Prod.snd).length + (r.length + 1) := by simp
      have hn : s.n = (l.map Prod.snd).length + (r.length + 1) := by rw [← hil]; exact (Nat.eq_of_mul_eq_mul_right (by omega) l1).symm
      refine s_ld (b := b) (x := s) ?_
      refine s_idx (s := s) (i := (l.map Prod.snd).length) ?_
      refine s_ldEN (s := s) (l' := v0.1) drop_val v0.2.1 ?_
      refine s_stN (b := o) ?_ ok.vz.1 v0.2.1 v0.2.2
      refine s_dr ?_
      refine s_ld (b := b) (x := s) ?_
      refine s_ldN (b := x3) (off := 0 + 1) (l := G.f (k, v)) (l' := v.1) ?_ (List.take_of_length_le (Nat.le_of_eq v.2.1)) v.2.1
      refine s_idx (s := s) (i := (l.map Prod.snd).length) ?_
      refine s_stEN (s := s) ?_ v.2.1 ?_ v.2.2
      rotate_left
      · rw [flatMap_len G.f _ G.f_len, hil, Nat.add_mul, Nat.add_mul]; omega
      rw [lay_val]
      refine s_ret3 (v := v0) ?_
      obtain ⟨q0', ps', e1, e2, e3, e4⟩ := zback l q (((k, v), q1) :: r)
      have e5 : l.map Prod.fst ++ q :: (((k, v0), q1) :: r).map Prod.snd = q0' :: ps'.map Prod.snd := e3.symm
      have e6 : l.map Prod.snd ++ (k, v) :: r.map Prod.fst = ps'.map Prod.fst := e2.symm
      rw [e5, e6]
      refine s_end (Δ := nodeB G b s kd :: itsR G s (ps'.map Prod.fst) :: kpsR G kd ((q0' :: ps'.map Prod.snd).map ptr) :: kidsR G d (q0' :: ps'.map Prod.snd) :: Γ) ?_
      simp only [List.length_cons] at hlen e1
      refine s_mkS (m := 2) (fun _ h => ?_) (by omega) ?_
      · rw [h, List.length_nil] at e1; omega
      refine h1 _ _ _ (.inl ⟨preL l ++ q.2, q1.2 ++ postL r, ?_, ?_, rfl⟩)
      · simp [postL]
      · rw [e4]; simp [postL]
    · obtain ⟨l, q, r, rfl, rfl, hK, hL, hlen⟩ := zip_of (q0 := q0) e
      rw [e, hK]
      rw [hL] at hs h1 h2
      refine s_f ?_
      refine s_nn ?_
      have hkl : ((l.map Prod.fst ++ q :: r.map Prod.snd).map ptr).length = l.length + r.length + 1 := by simp; omega
      refine s_cap kd fun m1 m2 m3 m4 => ?_
      rw [kp_len, hkl] at m1
      refine s_cap s fun l1 l2 l3 l4 => ?_
      rw [flatMap_len G.f _ G.f_len] at l1
      have hil : (l.map Prod.snd ++ r.map Prod.fst).length = l.length + r.length := by simp
      have hn : s.n = l.length + r.length := by rw [← hil]; exact (Nat.eq_of_mul_eq_mul_right (by omega) l1).symm
      refine s_ld (b := b) (x := kd) ?_
      refine s_f ?_ (by simp; omega)
      refine s_dr ?_
      refine s_ld (b := b) (x := kd) ?_
      refine s_idx (s := kd) (i := l.length) ?_ (by simp)
      refine s_ldE0 (s := kd) (x := ptr q) (by simp) ?_
      refine s_ldN (b := x3) (l' := G.f (k, v)) ?_ (List.take_of_length_le (by simp [G.f_len])) (G.f_len _)
      refine s_pick (kidsR G d (l.map Prod.fst ++ q :: r.map Prod.snd)) ?_
      refine s_kid ?_
      have hs1 := List.pairwise_append.1 hs
      have hs2 := List.pairwise_append.1 hs1.1
      have hpre := pre_lt ok l hs2.1 hA
      have hpost := post_gt ok r hs1.2.1 hC
      refine ih (m := 2) (by omega) hs2.2.1 (fun M' old had hp => ?_) fun M1 x M2 old had rb mb hp => ?_
      · refine s_stN (b := o) ?_ ok.vz.1 old.2.1 old.2.2
        refine s_f ?_
        refine s_end (Δ := valB G o old :: nodeB G b s kd :: itsR G s (l.map Prod.snd ++ r.map Prod.fst) :: kpsR G kd ((l.map Prod.fst ++ q :: r.map Prod.snd).map ptr) :: NodeR G d 2 q.1 M' :: kidsR G d (l.map Prod.fst ++ r.map Prod.snd) :: Γ) ?_
        refine s_s1 ok (by omega) (.inr (by omega)) (fun h5 => ?_) fun x h6 hx s1 c1 r s2 c2 mb => (by omega)
        obtain ⟨q0', ps', e1, e2, e3, e4⟩ := zback l (q.1, M') r
        refine s_end (Δ := NodeR G d 2 q.1 M' :: kidsR G d (l.map Prod.fst ++ r.map Prod.snd) :: nodeB G b s kd :: itsR G s (l.map Prod.snd ++ r.map Prod.fst) :: kpsR G kd ((l.map Prod.fst ++ q :: r.map Prod.snd).map ptr) :: Γ) ?_
        refine s_unkid (q := (q.1, M')) ?_
        have e5 : (l.map Prod.fst ++ q :: r.map Prod.snd).map ptr = (l.map Prod.fst ++ (q.1, M') :: r.map Prod.snd).map ptr := by simp [ptr]
        rw [e5, ← e2, ← e3]
        refine s_end (Δ := nodeB G b s kd :: itsR G s (ps'.map Prod.fst) :: kpsR G kd ((q0' :: ps'.map Prod.snd).map ptr) :: kidsR G d (q0' :: ps'.map Prod.snd) :: Γ) ?_
        refine s_mkS (m := 2) (fun _ h => ?_) (by omega) ?_
        · rw [h] at e1; rw [List.length_nil] at e1
          exact hne hm (List.length_eq_zero_iff.1 (by omega))
        rw [e4]
        exact h1 _ _ _ (hp.mid hpre hpost)
      · refine s_stN (b := o) ?_ ok.vz.1 old.2.1 old.2.2
        refine s_t ?_
        refine s_dr ?_
        refine s_ws ?_
        refine s_nn ?_
        refine s_ldS (b := b) (x := s) ?_
        refine s_ldNS (b := mb) (l' := G.f x) ?_ (List.take_of_length_le (by simp [G.f_len])) (G.f_len _)
        refine s_bld1 ?_ (by simp [ok.vz.1]) (G.f_len _)
        refine s_new fun t => ?_
        refine s_sv ?_
        obtain ⟨R, rot, hins⟩ := ok.insI
        refine fun w hw => hins _ _ _ _ _ ?_
        refine hg hw ?_
        clear hw w
        refine s_ins (s := s) (i := (l.map Prod.snd).length) (t := t) (by simp; omega) (by omega) (G.f_len _) (by omega) (fl_flat ok _) (f_flat ok _) (fun s' hs' => ?_) ok.TI ok.ZI
        rw [ins_items]
        refine s_st (b := b) ?_
        refine s_ld (b := b) (x := kd) ?_
        refine s_ai ?_ (by simp; omega) (by simp; omega)
        refine s_new fun t2 => ?_
        have hkp : (l.map Prod.fst ++ q :: r.map Prod.snd).map ptr = (l.map Prod.fst ++ [q]).map ptr ++ (r.map Prod.snd).map ptr := by simp
        rw [hkp]
        have hkA : ((l.map Prod.fst ++ [q]).map ptr).length = l.length + 1 := by simp
        obtain ⟨R2, rot2, hins2⟩ := ok.insK
        refine fun w hw => hins2 _ _ _ _ _ ?_
        refine hg hw ?_
        clear hw w
        rw [show (((l.map Prod.snd).length : Nat) : Int) + 1 = (((l.map Prod.fst ++ [q]).map ptr).length : Nat) by rw [hkA]; simp]
        refine s_ins (s := kd) (i := ((l.map Prod.fst ++ [q]).map ptr).length) (t := t2) (us := [Value.pointer (some ⟨rb, 0, none⟩)]) (by omega) (by omega) rfl (by omega) (kp_flat _) (by simp [flatV]) (fun kd' hkd' => ?_) ok.TK ok.ZK
        rw [ins_kids]
        refine s_st (b := b) ?_
        obtain ⟨q0', ps', e1, e2, e3, e4⟩ := zback l (q.1, M1) ((x, (rb, M2)) :: r)
        simp only [List.length_cons] at e1
        have e5 : (l.map Prod.fst ++ [q]).map ptr ++ some ⟨rb, 0, none⟩ :: (r.map Prod.snd).map ptr = (q0' :: ps'.map Prod.snd).map ptr := by rw [e3]; simp [ptr]
        have e6 : l.map Prod.snd ++ x :: r.map Prod.fst = ps'.map Prod.fst := e2.symm
        rw [e5, e6]
        refine s_end (Δ := NodeR G d 2 rb M2 :: kidsR G d (l.map Prod.fst ++ r.map Prod.snd) :: NodeR G d 2 q.1 M1 :: valB G o old :: nodeB G b s' kd' :: itsR G s' (ps'.map Prod.fst) :: kpsR G kd' ((q0' :: ps'.map Prod.snd).map ptr) :: Γ) ?_
        refine s_unkid (q := (rb, M2)) ?_
        refine s_swap ?_
        refine s_unkid (q := (q.1, M1)) ?_
        rw [show l.map Prod.fst ++ (q.1, M1) :: (rb, M2) :: r.map Prod.snd = q0' :: ps'.map Prod.snd from e3.symm]
        have hput : PutR c (G.z0 ok.vz) (preL l ++ q.2 ++ postL r) k v (psL q0' ps') old had := by
          rw [e4]
          have := hp.mid hpre hpost
          simpa [postL] using this
        refine s_end (Δ := valB G o old :: nodeB G b s' kd' :: itsR G s' (ps'.map Prod.fst) :: kpsR G kd' ((q0' :: ps'.map Prod.snd).map ptr) :: kidsR G d (q0' :: ps'.map Prod.snd) :: Γ) ?_
        refine s_s1 ok (by simp; omega) (.inr (by simp)) (fun h5 => ?_) fun y h6 hy s1 c1 r2 s2 c2 mb2 => ?_
        · rw [List.length_map] at h5
          refine s_end (Δ := nodeB G b s' kd' :: itsR G s' (ps'.map Prod.fst) :: kpsR G kd' ((q0' :: ps'.map Prod.snd).map ptr) :: kidsR G d (q0' :: ps'.map Prod.snd) :: Γ) ?_
          refine s_mkS (m := 2) (fun _ h => ?_) h5 (h1 _ _ _ hput)
          rw [h, List.length_nil] at e1; omega
        · rw [List.length_map] at h6
          obtain ⟨P, p3, R, hP, e7⟩ : ∃ P p3 R, P.length = 2 ∧ ps' = P ++ p3 :: R := ⟨ps'.take 2, ps'[2], ps'.drop 3, by rw [List.length_take]; omega, by rw [← List.drop_eq_getElem_cons, List.take_append_drop]⟩
          have hRl : R.length = 3 := by have := congrArg List.length e7; simp only [List.length_append, List.length_cons] at this; omega
          have t1 : (ps'.map Prod.fst).take 2 = P.map Prod.fst := by rw [e7, List.map_append]; exact List.take_left' (by simp [hP])
          have t2 : (ps'.map Prod.fst).drop 3 = R.map Prod.fst := by rw [e7, show P ++ p3 :: R = (P ++ [p3]) ++ R by simp, List.map_append]; exact List.drop_left' (by simp [hP])
          have t3 : q0' :: ps'.map Prod.snd = (q0' :: P.map Prod.snd) ++ (p3.2 :: R.map Prod.snd) := by rw [e7]; simp
          have t4 : ((q0' :: ps'.map Prod.snd).map ptr).take 3 = (q0' :: P.map Prod.snd).map ptr := by rw [t3, List.map_append]; exact List.take_left' (by simp [hP])
          have t5 : ((q0' :: ps'.map Prod.snd).map ptr).drop 3 = (p3.2 :: R.map Prod.snd).map ptr := by rw [t3, List.map_append]; exact List.drop_left' (by simp [hP])
          have t6 : psL q0' ps' = psL q0' P ++ p3.1 :: psL p3.2 R := by rw [e7]; simp [psL]
          have t7 : y = p3.1 := by
            rw [t1, t2, e7] at hy
            simp only [List.map_append, List.map_cons, List.append_cancel_left_eq, List.cons.injEq] at hy
            exact hy.1.symm
          rw [t4, t5, t1, t2, t3, t7]
          refine s_pick (kidsR G d ((q0' :: P.map Prod.snd) ++ (p3.2 :: R.map Prod.snd))) ?_
          refine s_kids_split ?_
          refine s_end (Δ := nodeB G b s1 c1 :: itsR G s1 (P.map Prod.fst) :: kpsR G c1 ((q0' :: P.map Prod.snd).map ptr) :: kidsR G d (q0' :: P.map Prod.snd) :: nodeB G r2 s2 c2 :: itsR G s2 (R.map Prod.fst) :: kpsR G c2 ((p3.2 :: R.map Prod.snd).map ptr) :: kidsR G d (p3.2 :: R.map Prod.snd) :: blk mb2 (.cells (G.f p3.1).toArray G.tI (0, 0)) :: Γ) ?_
          refine s_mkS (m := 2) (fun _ h => by rw [h] at hP; cases hP) (by omega) ?_
          refine s_end (Δ := nodeB G r2 s2 c2 :: itsR G s2 (R.map Prod.fst) :: kpsR G c2 ((p3.2 :: R.map Prod.snd).map ptr) :: kidsR G d (p3.2 :: R.map Prod.snd) :: blk mb2 (.cells (G.f p3.1).toArray G.tI (0, 0)) :: NodeR G (d + 1) 2 b (psL q0' P) :: Γ) ?_
          refine s_mkS (m := 2) (fun _ h => by rw [h] at hRl; cases hRl) (by omega) ?_
          exact s_end (h2 _ _ _ _ _ r2 mb2 (t6 ▸ hput))
end
end Bt
end Go.Sep
/- A B-tree: New, Get and Put. Holds for every program. -/
namespace Go.Sep
open Go Go.RowKit
set_option linter.unusedSimpArgs false
set_option linter.unusedVariables false
namespace Bt
section
variable {κ : Type} {G : BtT κ} {c : κ → κ → Int} {B : World} {Γ Δ : List HProp}
/-- A tree of the items L, in their keys' order. -/
def TreeR (G : BtT κ) (c : κ → κ → Int) (t : Nat) (L : List G.It) : HProp := ex fun d => ex fun b => Sep.stars [pur (Srt c L), blk t (.cells [.pointer (some ⟨b, 0, none⟩), .int .i64 L.length].toArray G.tT (0, 0)), NodeR G d 1 b L]
instance (priority := high) own_tree {t : Nat} {L : List G.It} : Own t (TreeR G c t L :: Γ) (TreeR G c t L) Γ := ⟨.refl _⟩
theorem s_tree {t : Nat} {L : List G.It} {k : K} (h : ∀ d b, Srt c L → HG B (blk t (.cells [.pointer (some ⟨b, 0, none⟩), .int .i64 L.length].toArray G.tT (0, 0)) :: NodeR G d 1 b L :: Γ) k) : HG B (TreeR G c t L :: Γ) k :=
  s_ex fun d => s_ex fun b => s_flat <| s_pur fun h1 => h d b h1
theorem tree_of {t d b : Nat} {L : List G.It} {w : World} (h1 : Srt c L) (hw : Holds B (blk t (.cells [.pointer (some ⟨b, 0, none⟩), .int .i64 L.length].toArray G.tT (0, 0)) :: NodeR G d 1 b L :: Γ) w) : Holds B (TreeR G c t L :: Γ) w := by
  have h3 : Holds B (Sep.stars [pur (Srt c L), blk t (.cells [.pointer (some ⟨b, 0, none⟩), .int .i64 L.length].toArray G.tT (0, 0)), NodeR G d 1 b L] :: Γ) w := Holds.flat.2 (Holds.pur.2 ⟨h1, hw⟩)
  exact h3.imp fun g hg => ⟨d, b, hg⟩
theorem s_mkTree {t d b : Nat} {L : List G.It} {k : K} (h1 : Srt c L) (h : HG B (TreeR G c t L :: Γ) k) : HG B (blk t (.cells [.pointer (some ⟨b, 0, none⟩), .int .i64 L.length].toArray G.tT (0, 0)) :: NodeR G d 1 b L :: Γ) k := fun w hw => h w (tree_of h1 hw)
/-- Tree's facts. -/
theorem tree_srt {t : Nat} {L : List G.It} {k : K} (h : Srt c L → HG B (TreeR G c t L :: Γ) k) : HG B (TreeR G c t L :: Γ) k := s_tree fun d b h1 => s_mkTree h1 (h h1)

theorem tnew_spec {Q : Option Addr → K} (h : ∀ t, HG B (TreeR G c t [] :: Γ) (Q (some ⟨t, 0, none⟩))) : HG B Γ (tnew G Q) := by
  unfold tnew
  refine s_new fun b => ?_
  refine s_new fun t => ?_
  refine fun w hw => ?_
  refine hg (show Holds B (SlC G.tI (G.nv + 1) ⟨none, 0, 0⟩ [] :: _) w from hw.nilSl G.tI (G.nv + 1)) ?_
  refine fun w hw => ?_
  refine hg (show Holds B (SlC G.tK 1 ⟨none, 0, 0⟩ [] :: _) w from hw.nilSl G.tK 1) ?_
  refine s_end (Δ := nodeB G b ⟨none, 0, 0⟩ ⟨none, 0, 0⟩ :: SlC G.tI (G.nv + 1) ⟨none, 0, 0⟩ [] :: SlC G.tK 1 ⟨none, 0, 0⟩ [] :: blk t (.cells [.pointer (some ⟨b, 0, none⟩), .int .i64 0].toArray G.tT (0, 0)) :: Γ) ?_
  refine s_mk0 (m := 1) (L := []) (by simp) (by simp) ?_
  refine s_swap ?_
  exact s_mkTree (L := []) List.Pairwise.nil (h t)

theorem NodeR.weak {d m m' b : Nat} {L : List G.It} (hm : m' = 2 → m = 2) (hm' : 1 ≤ m' → 1 ≤ m) : ∀ h, NodeR G d m b L h → NodeR G d m' b L h := fun h hh => by
  cases d with
  | zero =>
    obtain ⟨s, kd, hh⟩ := hh
    exact ⟨s, kd, stars_cons_imp (fun g hg => ⟨fun h2 => hg.1 (hm h2), hg.2⟩) (fun _ h => h) hh⟩
  | succ d =>
    obtain ⟨s, kd, q0, ps, hh⟩ := hh
    exact ⟨s, kd, q0, ps, stars_cons_imp (fun g hg => ⟨fun h2 => hg.1 (hm' h2), hg.2⟩) (fun _ h => h) hh⟩

theorem PutR.srt (ok : BtOk G c) {ν : Type} {z v old : ν} {L L' : List (κ × ν)} {k : κ} {had : Bool} (h : PutR c z L k v L' old had) (hs : Srt c L) : Srt c L' := by
  rcases h with ⟨A, C, rfl, rfl, rfl⟩ | ⟨A, C, rfl, h1, h2, rfl, rfl, rfl⟩
  · obtain ⟨a1, a2, a3⟩ := List.pairwise_append.1 hs
    obtain ⟨b1, b2⟩ := List.pairwise_cons.1 a2
    refine List.pairwise_append.2 ⟨a1, List.pairwise_cons.2 ⟨fun y hy => b1 y hy, b2⟩, fun x hx y hy => ?_⟩
    rcases List.mem_cons.1 hy with rfl | hy
    · exact a3 x hx (k, old) List.mem_cons_self
    · exact a3 x hx y (List.mem_cons_of_mem _ hy)
  · obtain ⟨a1, a2, a3⟩ := List.pairwise_append.1 hs
    refine List.pairwise_append.2 ⟨a1, List.pairwise_cons.2 ⟨fun y hy => h2 y hy, a2⟩, fun x hx y hy => ?_⟩
    rcases List.mem_cons.1 hy with rfl | hy
    · exact h1 x hx
    · exact a3 x hx y hy
theorem PutR.len {ν : Type} {z v old : ν} {L L' : List (κ × ν)} {k : κ} {had : Bool} (h : PutR c z L k v L' old had) : L'.length = L.length + (if had then 0 else 1) := by
  rcases h with ⟨A, C, rfl, rfl, rfl⟩ | ⟨A, C, rfl, h1, h2, rfl, rfl, rfl⟩
  · simp
  · simp; omega

theorem fill_kv {kz a : Value} {vz us : List Value} {n : Nat} (ha : flatV a = true) (hz : vz.length = n) (hu : us.length = n) : Instr.fill ([(0, 1), (1, n)][·]?) (kz :: vz).toArray [(0, a), (1, .agg us.toArray)] = some (a :: us).toArray := by
  have h0 : a.cells = #[a] := by cases a <;> first | rfl | (simp [flatV] at ha)
  have h1 : (Value.agg us.toArray).cells = us.toArray := rfl
  have e0 : ([(0, 1), (1, n)] : List (Nat × Nat))[0]? = some (0, 1) := rfl
  have e1 : ([(0, 1), (1, n)] : List (Nat × Nat))[1]? = some (1, n) := rfl
  simp only [Instr.fill, h0, h1, e0, e1]
  have h2 := foldl_set_all us [a] vz (by simp; omega)
  simp [hu, hz]
  refine ⟨by omega, ?_⟩
  rw [show [a].length = 1 from rfl, List.zipIdx_eq_map_add, List.foldl_map] at h2
  simpa [Nat.add_comm] using h2
theorem s_tput3 (ok : BtOk G c) {o t6 : Nat} {old : Cel G.nv} {v6 : Cel G.nv} {had : Bool} {Q : Array Value → Bool → K} (h : HG B Γ (Q old.1.toArray had)) : HG B (valB G o old :: valB G t6 v6 :: Γ) (tput_s3 G Q ⟨t6, 0, none⟩ ⟨o, 0, none⟩ had) := by
  unfold tput_s3
  have e : (old.1.drop 0).take G.nv = old.1 := by rw [List.drop_zero, List.take_of_length_le (Nat.le_of_eq old.2.1)]
  refine s_ldN (b := o) ?_ e old.2.1
  refine s_stN (b := t6) ?_ v6.2.1 old.2.1 old.2.2
  refine s_ldN (b := t6) ?_ e old.2.1
  exact s_end h
theorem s_tput2 (ok : BtOk G c) {o t t6 d b n : Nat} {L L' : List G.It} {k : κ} {v old v6 : Cel G.nv} {had : Bool} {Q : Array Value → Bool → K} (hs : Srt c L) (hL : L.length < 1000000000) (hp : PutR c (G.z0 ok.vz) L k v L' old had)
    (h : HG B (TreeR G c t L' :: Γ) (Q old.1.toArray had)) :
    HG B (valB G o old :: valB G t6 v6 :: blk t (.cells [.pointer (some ⟨b, 0, none⟩), .int .i64 L.length].toArray G.tT (0, 0)) :: NodeR G d 1 b L' :: Γ) (tput_s2 G Q (some ⟨t, 0, none⟩) ⟨t6, 0, none⟩ ⟨o, 0, none⟩ had) := by
  unfold tput_s2
  have hlen := hp.len
  refine s_ite (fun hb => ?_) fun hb => ?_
  · have h0 : had = false := by simpa using hb
    refine s_nn ?_
    refine s_ld (b := t) (x := (L.length : Int)) ?_
    refine s_ai ?_
    refine s_st (b := t) ?_
    rw [show ((L.length : Nat) : Int) + 1 = ((L'.length : Nat) : Int) by rw [hlen, h0]; simp]
    refine s_end (Δ := valB G o old :: valB G t6 v6 :: blk t (.cells [.pointer (some ⟨b, 0, none⟩), .int .i64 L'.length].toArray G.tT (0, 0)) :: NodeR G d 1 b L' :: Γ) ?_
    refine s_tput3 ok ?_
    exact s_mkTree (hp.srt ok hs) h
  · have h0 : had = true := by simpa using hb
    rw [show ((L.length : Nat) : Int) = ((L'.length : Nat) : Int) by rw [hlen, h0]; simp]
    refine s_tput3 ok ?_
    exact s_mkTree (hp.srt ok hs) h

theorem s_tput1 (ok : BtOk G c) {o t t6 d b n : Nat} {L L' : List G.It} {k : κ} {v old v6 : Cel G.nv} {had : Bool} {Q : Array Value → Bool → K} (hs : Srt c L) (hL : L.length < 1000000000) (hp : PutR c (G.z0 ok.vz) L k v L' old had)
    (h : HG B (TreeR G c t L' :: Γ) (Q old.1.toArray had)) :
    HG B (valB G o old :: valB G t6 v6 :: blk t (.cells [.pointer (some ⟨b, 0, none⟩), .int .i64 L.length].toArray G.tT (0, 0)) :: NodeR G d 2 b L' :: Γ) (tput_s1 G Q (some ⟨t, 0, none⟩) ⟨t6, 0, none⟩ ⟨o, 0, none⟩ had none none) := by
  unfold tput_s1
  refine s_f ?_
  refine s_own b ?_
  refine s_conv (NodeR.weak (m' := 1) (by simp) (by simp)) ?_
  refine s_end (Δ := valB G o old :: valB G t6 v6 :: blk t (.cells [.pointer (some ⟨b, 0, none⟩), .int .i64 L.length].toArray G.tT (0, 0)) :: NodeR G d 1 b L' :: Γ) ?_
  exact s_tput2 ok (n := n) hs hL hp h
theorem s_root {b r b2 t1 t2 d : Nat} {M1 M2 : List G.It} {x : G.It} {k : K} (h : HG B (NodeR G (d + 1) 1 b2 (M1 ++ x :: M2) :: Γ) k) :
    HG B (nodeB G b2 ⟨some ⟨t1, 0, none⟩, 1, 1⟩ ⟨some ⟨t2, 0, none⟩, 2, 2⟩ :: blk t1 (.cells (G.f x).toArray G.tI (0, 0)) :: blk t2 (.cells [.pointer (some ⟨b, 0, none⟩), .pointer (some ⟨r, 0, none⟩)].toArray G.tK (0, 0)) :: NodeR G d 2 b M1 :: NodeR G d 2 r M2 :: Γ) k := by
  refine s_own t1 ?_
  refine s_conv (A' := itsR G ⟨some ⟨t1, 0, none⟩, 1, 1⟩ [x]) (blk_SlC (vs := [x].flatMap G.f) (by simp) (by simp [G.f_len])) ?_
  refine s_own t2 ?_
  refine s_conv (A' := kpsR G ⟨some ⟨t2, 0, none⟩, 2, 2⟩ [some ⟨b, 0, none⟩, some ⟨r, 0, none⟩]) (blk_SlC (vs := [Value.pointer (some ⟨b, 0, none⟩), Value.pointer (some ⟨r, 0, none⟩)]) (by simp) (by simp)) ?_
  refine fun w hw => ?_
  refine hg (show Holds B (kidsR G d [] :: _) w from Holds.flat.2 hw) ?_
  refine s_end (Δ := NodeR G d 2 r M2 :: kidsR G d [] :: NodeR G d 2 b M1 :: nodeB G b2 ⟨some ⟨t1, 0, none⟩, 1, 1⟩ ⟨some ⟨t2, 0, none⟩, 2, 2⟩ :: itsR G ⟨some ⟨t1, 0, none⟩, 1, 1⟩ [x] :: kpsR G ⟨some ⟨t2, 0, none⟩, 2, 2⟩ [some ⟨b, 0, none⟩, some ⟨r, 0, none⟩] :: Γ) ?_
  show HG B (_ :: kidsR G d ([] ++ []) :: _) k
  refine s_unkid (A := []) (C := []) (q := (r, M2)) ?_
  refine s_swap ?_
  refine s_unkid (A := []) (C := [(r, M2)]) (q := (b, M1)) ?_
  show HG B (kidsR G d (((b, M1) : Kid G) :: [(x, ((r, M2) : Kid G))].map Prod.snd) :: _ :: itsR G ⟨some ⟨t1, 0, none⟩, 1, 1⟩ ([(x, ((r, M2) : Kid G))].map Prod.fst) :: kpsR G ⟨some ⟨t2, 0, none⟩, 2, 2⟩ ((((b, M1) : Kid G) :: [(x, ((r, M2) : Kid G))].map Prod.snd).map ptr) :: _) k
  refine s_end (Δ := nodeB G b2 ⟨some ⟨t1, 0, none⟩, 1, 1⟩ ⟨some ⟨t2, 0, none⟩, 2, 2⟩ :: itsR G ⟨some ⟨t1, 0, none⟩, 1, 1⟩ ([(x, ((r, M2) : Kid G))].map Prod.fst) :: kpsR G ⟨some ⟨t2, 0, none⟩, 2, 2⟩ ((((b, M1) : Kid G) :: [(x, ((r, M2) : Kid G))].map Prod.snd).map ptr) :: kidsR G d (((b, M1) : Kid G) :: [(x, ((r, M2) : Kid G))].map Prod.snd) :: Γ) ?_
  refine s_mkS (m := 1) (by simp) (by simp) ?_
  have e : psL ((b, M1) : Kid G) [(x, (r, M2))] = M1 ++ x :: M2 := by simp [psL]
  rw [e]; exact h
theorem s_tput1b (ok : BtOk G c) {o t t6 d b n r mb : Nat} {L M1 M2 : List G.It} {x : G.It} {k : κ} {v old v6 : Cel G.nv} {had : Bool} {Q : Array Value → Bool → K} (hs : Srt c L) (hL : L.length < 1000000000) (hp : PutR c (G.z0 ok.vz) L k v (M1 ++ x :: M2) old had)
    (h : HG B (TreeR G c t (M1 ++ x :: M2) :: Γ) (Q old.1.toArray had)) :
    HG B (valB G o old :: valB G t6 v6 :: blk t (.cells [.pointer (some ⟨b, 0, none⟩), .int .i64 L.length].toArray G.tT (0, 0)) :: blk mb (.cells (G.f x).toArray G.tI (0, 0)) :: NodeR G d 2 b M1 :: NodeR G d 2 r M2 :: Γ) (tput_s1 G Q (some ⟨t, 0, none⟩) ⟨t6, 0, none⟩ ⟨o, 0, none⟩ had (some ⟨mb, 0, none⟩) (some ⟨r, 0, none⟩)) := by
  unfold tput_s1
  refine s_t ?_
  refine s_dr ?_
  refine s_ws ?_
  refine s_nn ?_
  refine s_nn ?_
  refine s_ldNS (b := mb) (l' := G.f x) ?_ (List.take_of_length_le (by simp [G.f_len])) (G.f_len _)
  refine s_ldS (b := t) (x := some ⟨b, 0, none⟩) ?_
  refine s_all2 ?_ ?_
  · refine s_bld1 ?_ (by simp [ok.vz.1]) (G.f_len _)
    refine s_new fun t1 => ?_
    refine s_sv ?_
    refine s_new fun t2 => ?_
    refine s_sv ?_
    refine s_new fun b2 => ?_
    refine s_st (b := t) ?_
    refine s_end (Δ := nodeB G b2 ⟨some ⟨t1, 0, none⟩, 1, 1⟩ ⟨some ⟨t2, 0, none⟩, 2, 2⟩ :: blk t1 (.cells (G.f x).toArray G.tI (0, 0)) :: blk t2 (.cells [.pointer (some ⟨b, 0, none⟩), .pointer (some ⟨r, 0, none⟩)].toArray G.tK (0, 0)) :: NodeR G d 2 b M1 :: NodeR G d 2 r M2 :: valB G o old :: valB G t6 v6 :: blk t (.cells [.pointer (some ⟨b2, 0, none⟩), .int .i64 L.length].toArray G.tT (0, 0)) :: Γ) ?_
    refine s_root ?_
    refine s_end (Δ := valB G o old :: valB G t6 v6 :: blk t (.cells [.pointer (some ⟨b2, 0, none⟩), .int .i64 L.length].toArray G.tT (0, 0)) :: NodeR G (d + 1) 1 b2 (M1 ++ x :: M2) :: Γ) ?_
    exact s_tput2 ok (n := n) hs hL hp h
  · refine s_new fun t2 => ?_
    refine s_sv ?_
    refine s_bld1 ?_ (by simp [ok.vz.1]) (G.f_len _)
    refine s_new fun t1 => ?_
    refine s_sv ?_
    refine s_new fun b2 => ?_
    refine s_st (b := t) ?_
    refine s_end (Δ := nodeB G b2 ⟨some ⟨t1, 0, none⟩, 1, 1⟩ ⟨some ⟨t2, 0, none⟩, 2, 2⟩ :: blk t1 (.cells (G.f x).toArray G.tI (0, 0)) :: blk t2 (.cells [.pointer (some ⟨b, 0, none⟩), .pointer (some ⟨r, 0, none⟩)].toArray G.tK (0, 0)) :: NodeR G d 2 b M1 :: NodeR G d 2 r M2 :: valB G o old :: valB G t6 v6 :: blk t (.cells [.pointer (some ⟨b2, 0, none⟩), .int .i64 L.length].toArray G.tT (0, 0)) :: Γ) ?_
    refine s_root ?_
    refine s_end (Δ := valB G o old :: valB G t6 v6 :: blk t (.cells [.pointer (some ⟨b2, 0, none⟩), .int .i64 L.length].toArray G.tT (0, 0)) :: NodeR G (d + 1) 1 b2 (M1 ++ x :: M2) :: Γ) ?_
    exact s_tput2 ok (n := n) hs hL hp h

/-- Put. -/
theorem tput_spec (ok : BtOk G c) {t : Nat} {L : List G.It} {k : κ} {v : Cel G.nv} {Q : Array Value → Bool → K} (hL : L.length < 1000000000) (h : ∀ L' old had, PutR c (G.z0 ok.vz) L k v L' old had → HG B (TreeR G c t L' :: Γ) (Q old.1.toArray had)) :
    HG B (TreeR G c t L :: Γ) (tput G (some ⟨t, 0, none⟩) k v.1.toArray Q) := by
  refine s_tree fun d b hs => ?_
  unfold tput
  refine s_new fun v5 => ?_
  refine s_new fun t6 => ?_
  refine s_dr ?_
  refine s_ws ?_
  refine s_nn ?_
  refine s_ldS (b := t) (x := some ⟨b, 0, none⟩) ?_
  refine s_ldNS (b := v5) (off := 0) (l := v.1) (l' := v.1) ?_ (List.take_of_length_le (Nat.le_of_eq v.2.1)) v.2.1
  refine s_bld (cs := G.f (k, v)) ?_ (fill_kv (ok.kf k) ok.vz.1 v.2.1)
  refine s_all2 ?_ ?_
  · refine s_end (Δ := NodeR G d 1 b L :: blk t (.cells [.pointer (some ⟨b, 0, none⟩), .int .i64 L.length].toArray G.tT (0, 0)) :: valB G t6 (G.z0 ok.vz) :: Γ) ?_
    refine nput_spec ok d (m := 1) (Nat.le_refl _) hs (fun M' old had hp => ?_) fun M1 x M2 old had r mb hp => ?_
    · refine s_new fun o => ?_
      refine s_stN (b := o) ?_ ok.vz.1 old.2.1 old.2.2
      refine s_end (Δ := valB G o old :: valB G t6 (G.z0 ok.vz) :: blk t (.cells [.pointer (some ⟨b, 0, none⟩), .int .i64 L.length].toArray G.tT (0, 0)) :: NodeR G d 2 b M' :: Γ) ?_
      exact s_tput1 ok (n := 0) hs hL hp (h _ _ _ hp)
    · refine s_new fun o => ?_
      refine s_stN (b := o) ?_ ok.vz.1 old.2.1 old.2.2
      refine s_end (Δ := valB G o old :: valB G t6 (G.z0 ok.vz) :: blk t (.cells [.pointer (some ⟨b, 0, none⟩), .int .i64 L.length].toArray G.tT (0, 0)) :: blk mb (.cells (G.f x).toArray G.tI (0, 0)) :: NodeR G d 2 b M1 :: NodeR G d 2 r M2 :: Γ) ?_
      exact s_tput1b ok (n := 0) hs hL hp (h _ _ _ hp)
  · refine s_new fun o => ?_
    refine s_sv ?_
    refine s_end (Δ := NodeR G d 1 b L :: blk t (.cells [.pointer (some ⟨b, 0, none⟩), .int .i64 L.length].toArray G.tT (0, 0)) :: valB G t6 (G.z0 ok.vz) :: valB G o (G.z0 ok.vz) :: Γ) ?_
    refine nput_spec ok d (m := 1) (Nat.le_refl _) hs (fun M' old had hp => ?_) fun M1 x M2 old had r mb hp => ?_
    · refine s_stN (b := o) ?_ ok.vz.1 old.2.1 old.2.2
      refine s_end (Δ := valB G o old :: valB G t6 (G.z0 ok.vz) :: blk t (.cells [.pointer (some ⟨b, 0, none⟩), .int .i64 L.length].toArray G.tT (0, 0)) :: NodeR G d 2 b M' :: Γ) ?_
      exact s_tput1 ok (n := 0) hs hL hp (h _ _ _ hp)
    · refine s_stN (b := o) ?_ ok.vz.1 old.2.1 old.2.2
      refine s_end (Δ := valB G o old :: valB G t6 (G.z0 ok.vz) :: blk t (.cells [.pointer (some ⟨b, 0, none⟩), .int .i64 L.length].toArray G.tT (0, 0)) :: blk mb (.cells (G.f x).toArray G.tI (0, 0)) :: NodeR G d 2 b M1 :: NodeR G d 2 r M2 :: Γ) ?_
      exact s_tput1b ok (n := 0) hs hL hp (h _ _ _ hp)

/-- Where a search in a tree stands. -/
structure At (G : BtT κ) where
  d : Nat
  m : Nat
  b : Nat
  M : List G.It
  W : List HProp
  A : List G.It
  C : List G.It
/-- Get. -/
theorem tget_spec (ok : BtOk G c) {t : Nat} {L : List G.It} {k : κ} {Q : Array Value → Bool → K} (hfound : ∀ A v C, L = A ++ (k, v) :: C → HG B (TreeR G c t L :: Γ) (Q v.1.toArray true)) (hnot : (∀ A C, L = A ++ C → (∀ x ∈ A, c x.1 k < 0) → (∀ x ∈ C, c k x.1 < 0) → HG B (TreeR G c t L :: Γ) (Q G.vz.toArray false))) :
    HG B (TreeR G c t L :: Γ) (tget G (some ⟨t, 0, none⟩) k Q) := by
  refine s_tree fun d b hs => ?_
  unfold tget
  refine s_new fun o => ?_
  refine s_nn ?_
  refine s_ld (b := t) (x := some ⟨b, 0, none⟩) ?_
  let W0 : List HProp := blk t (.cells [.pointer (some ⟨b, 0, none⟩), .int .i64 L.length].toArray G.tT (0, 0)) :: Γ
  refine s_end (Δ := NodeR G d 1 b L :: valB G o (G.z0 ok.vz) :: W0) ?_
  refine s_loop (ι := At G) (fun x i => x = some ⟨i.b, 0, none⟩ ∧ L = i.A ++ i.M ++ i.C ∧ (∀ x ∈ i.A, c x.1 k < 0) ∧ (∀ x ∈ i.C, c k x.1 < 0) ∧ ∀ k', HG B (TreeR G c t L :: Γ) k' → HG B (NodeR G i.d i.m i.b i.M :: i.W) k')
    (fun x i => NodeR G i.d i.m i.b i.M :: valB G o (G.z0 ok.vz) :: i.W) (fun x i => i.d) (⟨d, 1, b, L, W0, [], []⟩ : At G) ⟨rfl, by simp, by simp, by simp, fun k' hk => ?_⟩ ?_
  · refine s_end (Δ := blk t (.cells [.pointer (some ⟨b, 0, none⟩), .int .i64 L.length].toArray G.tT (0, 0)) :: NodeR G d 1 b L :: Γ) ?_
    exact s_mkTree hs hk
  clear d b W0
  rintro k' _ ⟨d, m, b, M, W, A, C⟩ ⟨rfl, hL, hA, hC, cl⟩ hk
  simp only at hL hA hC cl hk ⊢
  have hsM : Srt c M := by rw [hL] at hs; exact (List.pairwise_append.1 (List.pairwise_append.1 hs).1).2.1
  unfold tget_b1
  cases d with
  | zero =>
    refine s_node0 fun s kd hm hl => ?_
    refine s_search ok (s := s) (kd := kd) hsM (by omega) (fun A' v C' e => ?_) fun A' C' e hA' hC' => ?_
    · subst e
      refine s_t ?_
      refine s_nn ?_
      refine s_cap s fun l1 l2 l3 l4 => ?_
      rw [flatMap_len G.f _ G.f_len] at l1
      have hn : s.n = (A' ++ (k, v) :: C').length := (Nat.eq_of_mul_eq_mul_right (by omega) l1).symm
      have hlen : (A' ++ (k, v) :: C').length = A'.length + (C'.length + 1) := List.length_append
      refine s_ld (b := b) (x := s) ?_
      refine s_idx (s := s) (i := A'.length) ?_
      refine s_ldEN (s := s) (l' := v.1) drop_val v.2.1 ?_
      refine s_stN (b := o) ?_ ok.vz.1 v.2.1 v.2.2
      refine s_ldN (b := o) (off := 0) (l := v.1) (l' := v.1) ?_ (List.take_of_length_le (Nat.le_of_eq v.2.1)) v.2.1
      refine s_end (Δ := nodeB G b s kd :: itsR G s (A' ++ (k, v) :: C') :: kpsR G kd [] :: W) ?_
      refine s_mk0 hm hl (cl _ (hfound (A ++ A') v (C' ++ C) ?_))
      rw [hL]; simp
    · subst e
      refine s_f ?_
      refine s_nn ?_
      refine s_cap kd fun m1 m2 m3 m4 => ?_
      refine s_ld (b := b) (x := kd) ?_
      refine s_t ?_ (by simpa using m1.symm)
      refine s_ret3 (v := G.z0 ok.vz) ?_
      refine s_end (Δ := nodeB G b s kd :: itsR G s (A' ++ C') :: kpsR G kd [] :: W) ?_
      refine s_mk0 hm hl (cl _ (hnot (A ++ A') (C' ++ C) ?_ (fun x hx => ?_) fun x hx => ?_))
      · rw [hL]; simp
      · rcases List.mem_append.1 hx with hx | hx
        · exact hA x hx
        · exact hA' x hx
      · rcases List.mem_append.1 hx with hx | hx
        · exact hC' x hx
        · exact hC x hx
  | succ d =>
    refine s_nodeS fun s kd q0 ps hne hl hM => ?_
    subst hM
    refine s_search ok (s := s) (kd := kd) (hsM.sub (its_sub q0 ps)) (by simp; omega) (fun A' v C' e => ?_) fun A' C' e hA' hC' => ?_
    · rw [e]
      refine s_t ?_
      refine s_nn ?_
      refine s_cap s fun l1 l2 l3 l4 => ?_
      rw [flatMap_len G.f _ G.f_len] at l1
      have hn : s.n = (A' ++ (k, v) :: C').length := (Nat.eq_of_mul_eq_mul_right (by omega) l1).symm
      have hlen : (A' ++ (k, v) :: C').length = A'.length + (C'.length + 1) := List.length_append
      refine s_ld (b := b) (x := s) ?_
      refine s_idx (s := s) (i := A'.length) ?_
      refine s_ldEN (s := s) (l' := v.1) drop_val v.2.1 ?_
      refine s_stN (b := o) ?_ ok.vz.1 v.2.1 v.2.2
      refine s_ldN (b := o) (off := 0) (l := v.1) (l' := v.1) ?_ (List.take_of_length_le (Nat.le_of_eq v.2.1)) v.2.1
      rw [← e]
      refine s_end (Δ := nodeB G b s kd :: itsR G s (ps.map Prod.fst) :: kpsR G kd ((q0 :: ps.map Prod.snd).map ptr) :: kidsR G d (q0 :: ps.map Prod.snd) :: W) ?_
      obtain ⟨A2, C2, e2⟩ : ∃ A2 C2, psL q0 ps = A2 ++ (k, v) :: C2 := List.append_of_mem ((its_sub q0 ps).subset (by rw [e]; simp))
      refine s_mkS hne hl (cl _ (hfound (A ++ A2) v (C2 ++ C) ?_))
      rw [hL, e2]; simp
    · obtain ⟨l, q, r, rfl, rfl, hK, hL2, hlen⟩ := zip_of (q0 := q0) e
      rw [hK]
      rw [hL2] at hsM hL
      refine s_f ?_
      refine s_nn ?_
      have hkl : ((l.map Prod.fst ++ q :: r.map Prod.snd).map ptr).length = l.length + r.length + 1 := by simp; omega
      refine s_cap kd fun m1 m2 m3 m4 => ?_
      rw [kp_len, hkl] at m1
      refine s_ld (b := b) (x := kd) ?_
      refine s_f ?_ (by simp; omega)
      refine s_ld (b := b) (x := kd) ?_
      refine s_idx (s := kd) (i := l.length) ?_ (by simp)
      refine s_ldE0 (s := kd) (x := ptr q) (by simp) ?_
      refine s_pick (kidsR G d (l.map Prod.fst ++ q :: r.map Prod.snd)) ?_
      refine s_kid ?_
      have hs1 := List.pairwise_append.1 hsM
      have hs2 := List.pairwise_append.1 hs1.1
      have hpre := pre_lt ok l hs2.1 hA'
      have hpost := post_gt ok r hs1.2.1 hC'
      refine s_end (Δ := NodeR G d 2 q.1 q.2 :: valB G o (G.z0 ok.vz) :: kidsR G d (l.map Prod.fst ++ r.map Prod.snd) :: nodeB G b s kd :: itsR G s (ps.map Prod.fst) :: kpsR G kd ((l.map Prod.fst ++ q :: r.map Prod.snd).map ptr) :: W) ?_
      refine hk _ (⟨d, 2, q.1, q.2, kidsR G d (l.map Prod.fst ++ r.map Prod.snd) :: nodeB G b s kd :: itsR G s (ps.map Prod.fst) :: kpsR G kd ((l.map Prod.fst ++ q :: r.map Prod.snd).map ptr) :: W, A ++ preL l, postL r ++ C⟩ : At G) ⟨rfl, ?_, fun x hx => ?_, fun x hx => ?_, fun k' hk' => ?_⟩ (Nat.lt_succ_self _)
      · rw [hL]; simp
      · rcases List.mem_append.1 hx with hx | hx
        · exact hA x hx
        · exact hpre x hx
      · rcases List.mem_append.1 hx with hx | hx
        · exact hpost x hx
        · exact hC x hx
      · refine s_unkid ?_
        rw [← hK]
        refine s_end (Δ := nodeB G b s kd :: itsR G s (ps.map Prod.fst) :: kpsR G kd ((q0 :: ps.map Prod.snd).map ptr) :: kidsR G d (q0 :: ps.map Prod.snd) :: W) ?_
        exact s_mkS hne hl (cl k' hk')
end
end Bt
end Go.Sep
/- Plain forms of functions, and that their code comes to them (package btree). -/
namespace Go.Proofs.Ytfjjocopmknhgaa
open Go Go.Sep
set_option linter.unusedVariables false
set_option linter.unusedSimpArgs false
set_option maxRecDepth 100000
set_option maxHeartbeats 4000000
attribute [local irreducible] G Gp Cx Tx Ex Sx Dx Ox Ax Lx Rx Fx Bx Bj Al Do Ld LdN St StN New CallF Ar DoU Rd Rd2 Pu Cd Ite Fv CallV CallY Ans0 Ans1 Ans2 Ans3 Ans4 Ans5 Ext Dead Dr WithS Sv LdS LdNS RdS Rd2S Nn Idx IdxA IdxS Fld Bld Slc SlcS Cat All LoopK RangeF RangeJ TakeD
namespace F_IRBtree
instance at_174 : AT Try.prog 174 5 := ⟨by kernel_rfl⟩
instance at_36 : AT Try.prog 36 4 := ⟨by kernel_rfl⟩
instance cb_106 : CB Try.prog 106 := ⟨by kernel_rfl⟩
instance cb_108 : CB Try.prog 108 := ⟨by kernel_rfl⟩
instance cb_109 : CB Try.prog 109 := ⟨by kernel_rfl⟩
instance cb_110 : CB Try.prog 110 := ⟨by kernel_rfl⟩
instance cb_116 : CB Try.prog 116 := ⟨by kernel_rfl⟩
instance cb_117 : CB Try.prog 117 := ⟨by kernel_rfl⟩
instance cb_118 : CB Try.prog 118 := ⟨by kernel_rfl⟩
instance cb_119 : CB Try.prog 119 := ⟨by kernel_rfl⟩
instance cb_120 : CB Try.prog 120 := ⟨by kernel_rfl⟩
instance cb_121 : CB Try.prog 121 := ⟨by kernel_rfl⟩
instance cb_122 : CB Try.prog 122 := ⟨by kernel_rfl⟩
instance cb_134 : CB Try.prog 134 := ⟨by kernel_rfl⟩
instance cb_87 : CB Try.prog 87 := ⟨by kernel_rfl⟩
instance ct_164 : CT Try.prog 164 := ⟨by kernel_rfl⟩
instance ct_165 : CT Try.prog 165 := ⟨by kernel_rfl⟩
instance ct_166 : CT Try.prog 166 := ⟨by kernel_rfl⟩
instance ct_3 : CT Try.prog 3 := ⟨by kernel_rfl⟩
instance ct_9 : CT Try.prog 9 := ⟨by kernel_rfl⟩
instance ft_168_0 : FT Try.prog 168 0 0 1 := ⟨by kernel_rfl⟩
instance ft_168_1 : FT Try.prog 168 1 1 1 := ⟨by kernel_rfl⟩
instance ft_170_0 : FT Try.prog 170 0 0 1 := ⟨by kernel_rfl⟩
instance ft_170_1 : FT Try.prog 170 1 1 1 := ⟨by kernel_rfl⟩
instance ft_174_0 : FT Try.prog 174 0 0 1 := ⟨by kernel_rfl⟩
instance ft_174_1 : FT Try.prog 174 1 1 4 := ⟨by kernel_rfl⟩
instance mx : MX Try.prog := ⟨mixed⟩
instance pl_168 : PLT Try.prog 168 [(0, 1), (1, 1)] := ⟨_, Try.underlying168, by kernel_rfl⟩
instance pl_170 : PLT Try.prog 170 [(0, 1), (1, 1)] := ⟨_, Try.underlying170, by kernel_rfl⟩
instance pl_174 : PLT Try.prog 174 [(0, 1), (1, 4)] := ⟨_, Try.underlying174, by kernel_rfl⟩
instance sl_165 : SLT Try.prog 165 174 5 := ⟨by kernel_rfl⟩
instance sl_166 : SLT Try.prog 166 164 1 := ⟨by kernel_rfl⟩
instance sz_164 : SZ Try.prog 164 1 := ⟨by kernel_rfl⟩
instance sz_165 : SZ Try.prog 165 1 := ⟨by kernel_rfl⟩
instance sz_166 : SZ Try.prog 166 1 := ⟨by kernel_rfl⟩
instance sz_174 : SZ Try.prog 174 5 := ⟨by kernel_rfl⟩
instance sz_3 : SZ Try.prog 3 1 := ⟨by kernel_rfl⟩
instance sz_36 : SZ Try.prog 36 4 := ⟨by kernel_rfl⟩
instance un_187 : UN Try.prog 187 (.pointer 174) := ⟨Try.underlying187⟩
instance zt_164 : ZT Try.prog 164 (.pointer none) := ⟨Try.t164, by kernel_rfl, by kernel_rfl⟩
instance zt_168 : ZT Try.prog 168 (.agg #[(Sl.val ⟨none, 0, 0⟩), (Sl.val ⟨none, 0, 0⟩)]) := ⟨Try.t168, by kernel_rfl, by kernel_rfl⟩
instance zt_170 : ZT Try.prog 170 (.agg #[(.pointer none), (.int .i64 0)]) := ⟨Try.t170, by kernel_rfl, by kernel_rfl⟩
instance zt_174 : ZT Try.prog 174 (.agg #[(.string ⟨#[]⟩), (.bool false), (Sl.val ⟨none, 0, 0⟩), (.int .i64 0), (.int .u64 0)]) := ⟨Try.t174, by kernel_rfl, by kernel_rfl⟩
instance zt_36 : ZT Try.prog 36 (.agg #[(.bool false), (Sl.val ⟨none, 0, 0⟩), (.int .i64 0), (.int .u64 0)]) := ⟨Try.t36, by kernel_rfl, by kernel_rfl⟩
end F_IRBtree
def btree_New_string_api_Record  (Q : (Option Addr) → K) : K :=
  New 168 #[(Sl.val ⟨none, 0, 0⟩), (Sl.val ⟨none, 0, 0⟩)] fun t2 =>
  New 170 #[(.pointer (some t2)), (.int .i64 0)] fun t4 =>
  Q (some t4)
theorem btree_New_string_api_Record_ok  (Q : (Option Addr) → K) (w : World) (h : btree_New_string_api_Record  Q w) : btree_New_string_api_Record.call  Q w := by
  exact g_walk 5 h Try.func53
def btree_Tree_string_api_Record_Get.b1 (Q : (Array Value) → Bool → K)  (X1 : (Option Addr) → K) (key1_1 : ByteArray) (value4_1 : Addr) (n6_1 : (Option Addr)) : K :=
  btree_node_string_api_Record_search.call n6_1 key1_1 fun t16x0 t16x1 =>
  Ite t16x1
    (Nn n6_1 fun t21 =>
    Ld t21 Sl.val fun t23 =>
    Idx t23 t16x0 5 fun t25 =>
    LdN (t25.add 1) 4 fun t27 =>
    StN value4_1 4 t27 <|
    LdN value4_1 4 fun r0 =>
    Q r0 true)
    (Nn n6_1 fun t29 =>
    Ld (t29.add 1) Sl.val fun t31 =>
    Ite (decide ((t31.n : Int) = 0))
      (LdN value4_1 4 fun t34 =>
      StN value4_1 4 t34 <|
      LdN value4_1 4 fun r0 =>
      Q r0 false)
      (Ld (t29.add 1) Sl.val fun t38 =>
      Idx t38 t16x0 1 fun t40 =>
      Ld t40 Value.pointer fun t41 =>
      X1 t41))
def btree_Tree_string_api_Record_Get (t0 : (Option Addr)) (key1 : ByteArray) (Q : (Array Value) → Bool → K) : K :=
  New 36 #[(.bool false), (Sl.val ⟨none, 0, 0⟩), (.int .i64 0), (.int .u64 0)] fun value4 =>
  Nn t0 fun t10 =>
  Ld t10 Value.pointer fun t12 =>
  LoopK (α := (Option Addr)) (fun X x => btree_Tree_string_api_Record_Get.b1 Q X key1 value4 x) t12
theorem btree_Tree_string_api_Record_Get_ok (t0 : (Option Addr)) (key1 : ByteArray) (Q : (Array Value) → Bool → K) (w : World) (h : btree_Tree_string_api_Record_Get t0 key1 Q w) : btree_Tree_string_api_Record_Get.call t0 key1 Q w := by
  have hL2 : ∀ (key1_1 : ByteArray) (value4_1 : Addr), LH 2 (fun x : (Option Addr) => [(1, (.string key1_1)), (4, (.pointer (some value4_1))), (6, (.pointer x))]) (fun X x => btree_Tree_string_api_Record_Get.b1 Q X key1_1 value4_1 x) := by intros; exact ⟨⟩
  exact g_walk 42 h Try.func54
def btree_node_string_api_Record_search (n0 : (Option Addr)) (key1 : ByteArray) (Q : Int → Bool → K) : K :=
  Nn n0 fun t7 =>
  Ld t7 Sl.val fun t9 =>
  slices_BinarySearchFunc_s_btree_item_string_api_Record_btree_item_string_api_Record_string.call t9 key1 (.func (.func 107) #[] #[]) fun t11x0 t11x1 =>
  Q t11x0 t11x1
theorem btree_node_string_api_Record_search_ok (n0 : (Option Addr)) (key1 : ByteArray) (Q : Int → Bool → K) (w : World) (h : btree_node_string_api_Record_search n0 key1 Q w) : btree_node_string_api_Record_search.call n0 key1 Q w := by
  exact g_walk 14 h Try.func87
def btree_Tree_string_api_Record_Delete.s2 (Q : (Array Value) → Bool → K)  (value4_2 : Addr) (ok5_2 : Bool) : K :=
  LdN value4_2 4 fun t55 =>
  StN value4_2 4 t55 <|
  LdN value4_2 4 fun r0 =>
  Q r0 ok5_2
def btree_Tree_string_api_Record_Delete.s1 (Q : (Array Value) → Bool → K)  (t0_1 : Addr) (value4_1 : Addr) (ok5_1 : Bool) : K :=
  Ite ok5_1
    (Ld (t0_1.add 1) (Value.int .i64) fun t51 =>
    Ar (IntKind.wrap .i64 (t51 - 1)) fun t52 =>
    St (t0_1.add 1) (.int .i64 t52) <|
    btree_Tree_string_api_Record_Delete.s2 Q value4_1 ok5_1)
    (btree_Tree_string_api_Record_Delete.s2 Q value4_1 ok5_1)
def btree_Tree_string_api_Record_Delete.s3 (Q : (Array Value) → Bool → K)  (t0_3 : Addr) (value4_3 : Addr) (ok5_3 : Bool) (t34_3 : Bool) : K :=
  Ite t34_3
    (Ld t0_3 Value.pointer fun t39 =>
    Nn t39 fun t40 =>
    Ld (t40.add 1) Sl.val fun t42 =>
    Idx t42 0 1 fun t43 =>
    Ld t43 Value.pointer fun t44 =>
    St t0_3 (.pointer t44) <|
    btree_Tree_string_api_Record_Delete.s1 Q t0_3 value4_3 ok5_3)
    (btree_Tree_string_api_Record_Delete.s1 Q t0_3 value4_3 ok5_3)
def btree_Tree_string_api_Record_Delete (t0 : (Option Addr)) (key1 : ByteArray) (Q : (Array Value) → Bool → K) : K :=
  New 36 #[(.bool false), (Sl.val ⟨none, 0, 0⟩), (.int .i64 0), (.int .u64 0)] fun value4 =>
  Nn t0 fun t8 =>
  Ld t8 Value.pointer fun t10 =>
  btree_node_string_api_Record_take.call t10 key1 fun t12x0 t12x1 =>
  StN value4 4 t12x0 <|
  Ld t8 Value.pointer fun t18 =>
  Nn t18 fun t19 =>
  Ld t19 Sl.val fun t21 =>
  Ite (decide ((t21.n : Int) = 0))
    (Ld t8 Value.pointer fun t28 =>
    Nn t28 fun t29 =>
    Ld (t29.add 1) Sl.val fun t31 =>
    btree_Tree_string_api_Record_Delete.s3 Q t8 value4 t12x1 (decide ((t31.n : Int) = 1)))
    (btree_Tree_string_api_Record_Delete.s3 Q t8 value4 t12x1 false)
theorem btree_Tree_string_api_Record_Delete_ok (t0 : (Option Addr)) (key1 : ByteArray) (Q : (Array Value) → Bool → K) (w : World) (h : btree_Tree_string_api_Record_Delete t0 key1 Q w) : btree_Tree_string_api_Record_Delete.call t0 key1 Q w := by
  have hJ6 : JH 6 fun D => ∃ (value4_2 : Addr), D [(4, (.pointer (some value4_2)))] (fun C => ∀ (ok5_2 : Bool), C [(4, (.pointer (some value4_2))), (5, (.bool ok5_2))] (btree_Tree_string_api_Record_Delete.s2 Q value4_2 ok5_2)) := by intros; exact ⟨fun _ ⟨_, h⟩ => ⟨_, _, h⟩⟩
  have hJ4 : JH 4 fun D => ∃ (t0_1 : Addr) (value4_1 : Addr), D [(0, (.pointer (some t0_1))), (4, (.pointer (some value4_1)))] (fun C => ∀ (ok5_1 : Bool), C [(0, (.pointer (some t0_1))), (4, (.pointer (some value4_1))), (5, (.bool ok5_1))] (btree_Tree_string_api_Record_Delete.s1 Q t0_1 value4_1 ok5_1)) := by intros; exact ⟨fun _ ⟨_, _, h⟩ => ⟨_, _, h⟩⟩
  have hJ3 : JH 3 fun D => ∃ (t0_3 : Addr) (value4_3 : Addr), D [(0, (.pointer (some t0_3))), (4, (.pointer (some value4_3)))] (fun C => ∀ (ok5_3 : Bool) (t34_3 : Bool), C [(0, (.pointer (some t0_3))), (4, (.pointer (some value4_3))), (5, (.bool ok5_3)), (34, (.bool t34_3))] (btree_Tree_string_api_Record_Delete.s3 Q t0_3 value4_3 ok5_3 t34_3)) := by intros; exact ⟨fun _ ⟨_, _, h⟩ => ⟨_, _, h⟩⟩
  exact g_walk 57 h Try.func88
def btree_Tree_string_api_Record_Put.s3 (Q : (Array Value) → Bool → K)  (t6_3 : Addr) (old8_3 : Addr) (had9_3 : Bool) : K :=
  LdN old8_3 4 fun t51 =>
  StN t6_3 4 t51 <|
  LdN t6_3 4 fun r0 =>
  Q r0 had9_3
def btree_Tree_string_api_Record_Put.s2 (Q : (Array Value) → Bool → K)  (t0_2 : (Option Addr)) (t6_2 : Addr) (old8_2 : Addr) (had9_2 : Bool) : K :=
  Ite (!had9_2)
    (Nn t0_2 fun t45 =>
    Ld (t45.add 1) (Value.int .i64) fun t47 =>
    Ar (IntKind.wrap .i64 (t47 + 1)) fun t48 =>
    St (t45.add 1) (.int .i64 t48) <|
    btree_Tree_string_api_Record_Put.s3 Q t6_2 old8_2 had9_2)
    (btree_Tree_string_api_Record_Put.s3 Q t6_2 old8_2 had9_2)
def btree_Tree_string_api_Record_Put.s1 (Q : (Array Value) → Bool → K)  (t0_1 : (Option Addr)) (t6_1 : Addr) (old8_1 : Addr) (had9_1 : Bool) (mid10_1 : (Option Addr)) (right11_1 : (Option Addr)) : K :=
  Ite (!(mid10_1).isNone)
    (Dr <| WithS fun S =>
    Nn mid10_1 fun t29 =>
    Nn t0_1 fun t33 =>
    LdNS S t29 5 fun t30 =>
    LdS S t33 Value.pointer fun t35 =>
    All [
      (Bld #[(.string ⟨#[]⟩), (.bool false), (Sl.val ⟨none, 0, 0⟩), (.int .i64 0), (.int .u64 0)] (fun i => some (i * 5, 5)) [(0, (.agg t30))] fun ct31 =>
      New 174 ct31 fun t31 =>
      Sv S <|
      New 164 #[(.pointer t35), (.pointer right11_1)] fun t37 =>
      Sv S <|
      New 168 #[(Sl.val (Sl.mk (some t31) 1 1)), (Sl.val (Sl.mk (some t37) 2 2))] fun t39 =>
      St t33 (.pointer (some t39)) <|
      btree_Tree_string_api_Record_Put.s2 Q (some t33) t6_1 old8_1 had9_1),
      (New 164 #[(.pointer t35), (.pointer right11_1)] fun t37 =>
      Sv S <|
      Bld #[(.string ⟨#[]⟩), (.bool false), (Sl.val ⟨none, 0, 0⟩), (.int .i64 0), (.int .u64 0)] (fun i => some (i * 5, 5)) [(0, (.agg t30))] fun ct31 =>
      New 174 ct31 fun t31 =>
      Sv S <|
      New 168 #[(Sl.val (Sl.mk (some t31) 1 1)), (Sl.val (Sl.mk (some t37) 2 2))] fun t39 =>
      St t33 (.pointer (some t39)) <|
      btree_Tree_string_api_Record_Put.s2 Q (some t33) t6_1 old8_1 had9_1)
      ])
    (btree_Tree_string_api_Record_Put.s2 Q t0_1 t6_1 old8_1 had9_1)
def btree_Tree_string_api_Record_Put (t0 : (Option Addr)) (key1 : ByteArray) (value2 : (Array Value)) (Q : (Array Value) → Bool → K) : K :=
  New 36 value2 fun value5 =>
  New 36 #[(.bool false), (Sl.val ⟨none, 0, 0⟩), (.int .i64 0), (.int .u64 0)] fun t6 =>
  Dr <| WithS fun S =>
  Nn t0 fun t14 =>
  LdS S t14 Value.pointer fun t16 =>
  LdNS S value5 4 fun t18 =>
  Bld #[(.string ⟨#[]⟩), (.bool false), (Sl.val ⟨none, 0, 0⟩), (.int .i64 0), (.int .u64 0)] ([(0, 1), (1, 4)][·]?) [(0, (.string key1)), (1, (.agg t18))] fun t19 =>
  All [
    (btree_node_string_api_Record_put.call t16 t19 fun t20x0 t20x1 t20x2 t20x3 =>
    New 36 #[(.bool false), (Sl.val ⟨none, 0, 0⟩), (.int .i64 0), (.int .u64 0)] fun old8 =>
    StN old8 4 t20x0 <|
    btree_Tree_string_api_Record_Put.s1 Q (some t14) t6 old8 t20x1 t20x2 t20x3),
    (New 36 #[(.bool false), (Sl.val ⟨none, 0, 0⟩), (.int .i64 0), (.int .u64 0)] fun old8 =>
    Sv S <|
    btree_node_string_api_Record_put.call t16 t19 fun t20x0 t20x1 t20x2 t20x3 =>
    StN old8 4 t20x0 <|
    btree_Tree_string_api_Record_Put.s1 Q (some t14) t6 old8 t20x1 t20x2 t20x3)
    ]
theorem btree_Tree_string_api_Record_Put_ok (t0 : (Option Addr)) (key1 : ByteArray) (value2 : (Array Value)) (Q : (Array Value) → Bool → K) (w : World) (h : btree_Tree_string_api_Record_Put t0 key1 value2 Q w) : btree_Tree_string_api_Record_Put.call t0 key1 value2 Q w := by
  have hJ6 : JH 6 fun D => ∃ (t6_3 : Addr) (old8_3 : Addr), D [(6, (.pointer (some t6_3))), (8, (.pointer (some old8_3)))] (fun C => ∀ (had9_3 : Bool), C [(6, (.pointer (some t6_3))), (8, (.pointer (some old8_3))), (9, (.bool had9_3))] (btree_Tree_string_api_Record_Put.s3 Q t6_3 old8_3 had9_3)) := by intros; exact ⟨fun _ ⟨_, _, h⟩ => ⟨_, _, h⟩⟩
  have hJ4 : JH 4 fun D => ∃ (t0_2 : (Option Addr)) (t6_2 : Addr) (old8_2 : Addr), D [(0, (.pointer t0_2)), (6, (.pointer (some t6_2))), (8, (.pointer (some old8_2)))] (fun C => ∀ (had9_2 : Bool), C [(0, (.pointer t0_2)), (6, (.pointer (some t6_2))), (8, (.pointer (some old8_2))), (9, (.bool had9_2))] (btree_Tree_string_api_Record_Put.s2 Q t0_2 t6_2 old8_2 had9_2)) := by intros; exact ⟨fun _ ⟨_, _, _, h⟩ => ⟨_, _, h⟩⟩
  have hD3 : DH 3 2 [12, 15] (.s [0, 1, 2, 5, 6, 7, 9, 3, 8] (.a [(4, 1, .a [(10, 1, .s [11] (.a [(12, 0, .s [13, 14] (.a [(15, 0, .e)]))]))]), (10, 1, .a [(4, 1, .s [11] (.a [(12, 0, .s [13, 14] (.a [(15, 0, .e)]))]))])])) := by intros; exact ⟨⟩
  have hJ2 : JH 2 fun D => ∃ (t0_1 : (Option Addr)) (t6_1 : Addr), D [(0, (.pointer t0_1)), (6, (.pointer (some t6_1)))] (fun C => ∀ (old8_1 : Addr) (had9_1 : Bool) (mid10_1 : (Option Addr)) (right11_1 : (Option Addr)), C [(0, (.pointer t0_1)), (6, (.pointer (some t6_1))), (8, (.pointer (some old8_1))), (9, (.bool had9_1)), (10, (.pointer mid10_1)), (11, (.pointer right11_1))] (btree_Tree_string_api_Record_Put.s1 Q t0_1 t6_1 old8_1 had9_1 mid10_1 right11_1)) := by intros; exact ⟨fun _ ⟨_, _, h⟩ => ⟨_, _, h⟩⟩
  have hD1 : DH 1 2 [7, 14] (.s [0, 1, 2, 4, 3, 5, 6] (.a [(7, 0, .s [8, 9, 10, 11, 12] (.a [(13, 0, .a [(14, 0, .s [15, 16, 17] .e)])])), (13, 1, .a [(7, 0, .s [8, 9, 10, 11, 12] (.a [(14, 0, .s [15, 16, 17] .e)]))])])) := by intros; exact ⟨⟩
  exact g_walk 53 h Try.func89
def btree_node_string_api_Record_search_1 (x0 : (Array Value)) (k1 : ByteArray) (Q : Int → K) : K :=
  New 174 x0 fun x2 =>
  Ld x2 Value.string fun t6 =>
  cmp_Compare_string.call t6 k1 fun t8 =>
  Q t8
theorem btree_node_string_api_Record_search_1_ok (x0 : (Array Value)) (k1 : ByteArray) (Q : Int → K) (w : World) (h : btree_node_string_api_Record_search_1 x0 k1 Q w) : btree_node_string_api_Record_search_1.call x0 k1 Q w := by
  exact g_walk 9 h Try.func107
def btree_node_string_api_Record_take.s1 (Q : (Array Value) → Bool → K)  (value4_1 : Addr) (ok5_1 : Bool) : K :=
  LdN value4_1 4 fun t94 =>
  StN value4_1 4 t94 <|
  LdN value4_1 4 fun r0 =>
  Q r0 ok5_1
def btree_node_string_api_Record_take.s2 (Q : (Array Value) → Bool → K)  (n0_2 : (Option Addr)) (key1_2 : ByteArray) (value4_2 : Addr) (i6_2 : Int) (found7_2 : Bool) (t14_2 : Bool) : K :=
  Ite t14_2
    (Nn n0_2 fun t25 =>
    Ld t25 Sl.val fun t27 =>
    Idx t27 i6_2 5 fun t29 =>
    LdN (t29.add 1) 4 fun t31 =>
    StN value4_2 4 t31 <|
    Ld t25 Sl.val fun t36 =>
    Ar (IntKind.wrap .i64 (i6_2 + 1)) fun t39 =>
    slices_Delete_s_btree_item_string_api_Record_btree_item_string_api_Record.call t36 i6_2 t39 fun t40 =>
    St t25 (Sl.val t40) <|
    LdN value4_2 4 fun t43 =>
    StN value4_2 4 t43 <|
    LdN value4_2 4 fun r0 =>
    Q r0 true)
    (Ite found7_2
      (Nn n0_2 fun t47 =>
      Ld t47 Sl.val fun t49 =>
      Idx t49 i6_2 5 fun t51 =>
      LdN (t51.add 1) 4 fun t53 =>
      StN value4_2 4 t53 <|
      Dr <| WithS fun S =>
      LdS S t47 Sl.val fun t57 =>
      LdS S (t47.add 1) Sl.val fun t62 =>
      Idx t62 i6_2 1 fun t64 =>
      LdS S t64 Value.pointer fun t65 =>
      btree_node_string_api_Record_last.call t65 fun t66 =>
      Sv S <|
      Idx t57 i6_2 5 fun t67 =>
      StN t67 5 t66 <|
      btree_node_string_api_Record_mend.call (some t47) i6_2 <|
      LdN value4_2 4 fun t71 =>
      StN value4_2 4 t71 <|
      LdN value4_2 4 fun r0 =>
      Q r0 true)
      (Nn n0_2 fun t74 =>
      Ld (t74.add 1) Sl.val fun t76 =>
      Ite (decide ((0 : Int) < (t76.n : Int)))
        (Ld (t74.add 1) Sl.val fun t83 =>
        Idx t83 i6_2 1 fun t85 =>
        Ld t85 Value.pointer fun t86 =>
        btree_node_string_api_Record_take.call t86 key1_2 fun t88x0 t88x1 =>
        StN value4_2 4 t88x0 <|
        btree_node_string_api_Record_mend.call (some t74) i6_2 <|
        btree_node_string_api_Record_take.s1 Q value4_2 t88x1)
        (btree_node_string_api_Record_take.s1 Q value4_2 false)))
def btree_node_string_api_Record_take (n0 : (Option Addr)) (key1 : ByteArray) (Q : (Array Value) → Bool → K) : K :=
  New 36 #[(.bool false), (Sl.val ⟨none, 0, 0⟩), (.int .i64 0), (.int .u64 0)] fun value4 =>
  btree_node_string_api_Record_search.call n0 key1 fun t11x0 t11x1 =>
  Ite t11x1
    (Nn n0 fun t18 =>
    Ld (t18.add 1) Sl.val fun t20 =>
    btree_node_string_api_Record_take.s2 Q (some t18) key1 value4 t11x0 true (decide ((t20.n : Int) = 0)))
    (btree_node_string_api_Record_take.s2 Q n0 key1 value4 t11x0 false false)
theorem btree_node_string_api_Record_take_ok (n0 : (Option Addr)) (key1 : ByteArray) (Q : (Array Value) → Bool → K) (w : World) (h : btree_node_string_api_Record_take n0 key1 Q w) : btree_node_string_api_Record_take.call n0 key1 Q w := by
  have hJ14 : JH 14 fun D => ∃ (value4_1 : Addr), D [(4, (.pointer (some value4_1)))] (fun C => ∀ (ok5_1 : Bool), C [(4, (.pointer (some value4_1))), (5, (.bool ok5_1))] (btree_node_string_api_Record_take.s1 Q value4_1 ok5_1)) := by intros; exact ⟨fun _ ⟨_, h⟩ => ⟨_, _, h⟩⟩
  have hD8 : DH 8 2 [14] (.s [0, 1, 2, 4, 5, 6, 7, 9, 3, 8, 10, 11] (.a [(12, 1, .s [13] (.a [(14, 0, .e)]))])) := by intros; exact ⟨⟩
  have hJ3 : JH 3 fun D => ∃ (n0_2 : (Option Addr)) (key1_2 : ByteArray) (value4_2 : Addr) (i6_2 : Int), D [(0, (.pointer n0_2)), (1, (.string key1_2)), (4, (.pointer (some value4_2))), (6, (.int .i64 i6_2))] (fun C => ∀ (found7_2 : Bool) (t14_2 : Bool), C [(0, (.pointer n0_2)), (1, (.string key1_2)), (4, (.pointer (some value4_2))), (5, (.bool false)), (6, (.int .i64 i6_2)), (7, (.bool found7_2)), (14, (.bool t14_2))] (btree_node_string_api_Record_take.s2 Q n0_2 key1_2 value4_2 i6_2 found7_2 t14_2)) := by intros; exact ⟨fun _ ⟨_, _, _, _, h⟩ => ⟨_, _, h⟩⟩
  exact g_walk 96 h Try.func109
def btree_node_string_api_Record_put.s2 (Q : (Array Value) → Bool → (Option Addr) → (Option Addr) → K)  (old4_2 : Addr) (had5_2 : Bool) (right7_2 : Addr) (m12_2 : Addr) : K :=
  LdN old4_2 4 fun t153 =>
  StN old4_2 4 t153 <|
  LdN old4_2 4 fun r0 =>
  Q r0 had5_2 (some m12_2) (some right7_2)
def btree_node_string_api_Record_put.s1 (Q : (Array Value) → Bool → (Option Addr) → (Option Addr) → K)  (n0_1 : (Option Addr)) (old4_1 : Addr) (had5_1 : Bool) : K :=
  Nn n0_1 fun t101 =>
  Ld t101 Sl.val fun t103 =>
  Ite (decide ((t103.n : Int) ≤ 5))
    (LdN old4_1 4 fun t106 =>
    StN old4_1 4 t106 <|
    LdN old4_1 4 fun r0 =>
    Q r0 had5_1 none none)
    (Ld t101 Sl.val fun t111 =>
    Idx t111 2 5 fun t112 =>
    LdN t112 5 fun t113 =>
    New 174 #[(.string ⟨#[]⟩), (.bool false), (Sl.val ⟨none, 0, 0⟩), (.int .i64 0), (.int .u64 0)] fun m12 =>
    StN m12 5 t113 <|
    Ld t101 Sl.val fun t117 =>
    Slc t117 3 (t117.n : Int) (t117.c : Int) 5 fun t118 =>
    slices_Clone_s_btree_item_string_api_Record_btree_item_string_api_Record.call t118 fun t119 =>
    New 168 #[(Sl.val t119), (Sl.val ⟨none, 0, 0⟩)] fun t121 =>
    Ld t101 Sl.val fun t126 =>
    Slc t126 0 2 2 5 fun t127 =>
    St t101 (Sl.val t127) <|
    Ld (t101.add 1) Sl.val fun t133 =>
    Ite (decide ((0 : Int) < (t133.n : Int)))
      (Ld (t101.add 1) Sl.val fun t140 =>
      Slc t140 3 (t140.n : Int) (t140.c : Int) 1 fun t141 =>
      slices_Clone_s_btree_node_string_api_Record_btree_node_string_api_Record.call t141 fun t142 =>
      St (t121.add 1) (Sl.val t142) <|
      Ld (t101.add 1) Sl.val fun t149 =>
      Slc t149 0 3 3 1 fun t150 =>
      St (t101.add 1) (Sl.val t150) <|
      btree_node_string_api_Record_put.s2 Q old4_1 had5_1 t121 m12)
      (btree_node_string_api_Record_put.s2 Q old4_1 had5_1 t121 m12))
def btree_node_string_api_Record_put (n0 : (Option Addr)) (x1 : (Array Value)) (Q : (Array Value) → Bool → (Option Addr) → (Option Addr) → K) : K :=
  New 174 x1 fun x3 =>
  New 36 #[(.bool false), (Sl.val ⟨none, 0, 0⟩), (.int .i64 0), (.int .u64 0)] fun old4 =>
  Ld x3 Value.string fun t16 =>
  btree_node_string_api_Record_search.call n0 t16 fun t17x0 t17x1 =>
  Ite t17x1
    (Nn n0 fun t64 =>
    Ld t64 Sl.val fun t66 =>
    Idx t66 t17x0 5 fun t68 =>
    LdN (t68.add 1) 4 fun t70 =>
    StN old4 4 t70 <|
    Dr <|
    Ld t64 Sl.val fun t74 =>
    LdN (x3.add 1) 4 fun t77 =>
    Idx t74 t17x0 5 fun t78 =>
    StN (t78.add 1) 4 t77 <|
    LdN old4 4 fun t80 =>
    StN old4 4 t80 <|
    LdN old4 4 fun r0 =>
    Q r0 true none none)
    (Nn n0 fun t84 =>
    Ld (t84.add 1) Sl.val fun t86 =>
    Ite (decide ((t86.n : Int) = 0))
      (Dr <| WithS fun S =>
      LdS S t84 Sl.val fun t93 =>
      LdNS S x3 5 fun t95 =>
      Bld #[(.string ⟨#[]⟩), (.bool false), (Sl.val ⟨none, 0, 0⟩), (.int .i64 0), (.int .u64 0)] (fun i => some (i * 5, 5)) [(0, (.agg t95))] fun ct96 =>
      New 174 ct96 fun t96 =>
      Sv S <|
      slices_Insert_s_btree_item_string_api_Record_btree_item_string_api_Record.call t93 t17x0 (Sl.mk (some t96) 1 1) fun t97 =>
      St t84 (Sl.val t97) <|
      btree_node_string_api_Record_put.s1 Q (some t84) old4 false)
      (Dr <|
      Ld (t84.add 1) Sl.val fun t24 =>
      Idx t24 t17x0 1 fun t26 =>
      Ld t26 Value.pointer fun t27 =>
      LdN x3 5 fun t28 =>
      btree_node_string_api_Record_put.call t27 t28 fun t29x0 t29x1 t29x2 t29x3 =>
      StN old4 4 t29x0 <|
      Ite (!(t29x2).isNone)
        (Dr <| WithS fun S =>
        Nn t29x2 fun t43 =>
        LdS S t84 Sl.val fun t40 =>
        LdNS S t43 5 fun t44 =>
        Bld #[(.string ⟨#[]⟩), (.bool false), (Sl.val ⟨none, 0, 0⟩), (.int .i64 0), (.int .u64 0)] (fun i => some (i * 5, 5)) [(0, (.agg t44))] fun ct45 =>
        New 174 ct45 fun t45 =>
        Sv S <|
        slices_Insert_s_btree_item_string_api_Record_btree_item_string_api_Record.call t40 t17x0 (Sl.mk (some t45) 1 1) fun t46 =>
        St t84 (Sl.val t46) <|
        Ld (t84.add 1) Sl.val fun t53 =>
        Ar (IntKind.wrap .i64 (t17x0 + 1)) fun t55 =>
        New 164 #[(.pointer t29x3)] fun t57 =>
        slices_Insert_s_btree_node_string_api_Record_btree_node_string_api_Record.call t53 t55 (Sl.mk (some t57) 1 1) fun t58 =>
        St (t84.add 1) (Sl.val t58) <|
        btree_node_string_api_Record_put.s1 Q (some t84) old4 t29x1)
        (btree_node_string_api_Record_put.s1 Q (some t84) old4 t29x1)))
theorem btree_node_string_api_Record_put_ok (n0 : (Option Addr)) (x1 : (Array Value)) (Q : (Array Value) → Bool → (Option Addr) → (Option Addr) → K) (w : World) (h : btree_node_string_api_Record_put n0 x1 Q w) : btree_node_string_api_Record_put.call n0 x1 Q w := by
  have hJ22 : JH 22 fun D => ∃ (old4_2 : Addr) (right7_2 : Addr) (m12_2 : Addr), D [(4, (.pointer (some old4_2))), (7, (.pointer (some right7_2))), (12, (.pointer (some m12_2)))] (fun C => ∀ (had5_2 : Bool), C [(4, (.pointer (some old4_2))), (5, (.bool had5_2)), (7, (.pointer (some right7_2))), (12, (.pointer (some m12_2)))] (btree_node_string_api_Record_put.s2 Q old4_2 had5_2 right7_2 m12_2)) := by intros; exact ⟨fun _ ⟨_, _, _, h⟩ => ⟨_, _, h⟩⟩
  have hJ14 : JH 14 fun D => ∃ (n0_1 : (Option Addr)) (old4_1 : Addr), D [(0, (.pointer n0_1)), (4, (.pointer (some old4_1)))] (fun C => ∀ (had5_1 : Bool), C [(0, (.pointer n0_1)), (4, (.pointer (some old4_1))), (5, (.bool had5_1))] (btree_node_string_api_Record_put.s1 Q n0_1 old4_1 had5_1)) := by intros; exact ⟨fun _ ⟨_, _, h⟩ => ⟨_, _, h⟩⟩
  have hD10 : DH 10 1 [9] (.s [0, 1, 2, 4, 5, 3, 6, 7, 8] (.a [(9, 0, .e)])) := by intros; exact ⟨⟩
  have hD13 : DH 13 2 [8, 11] (.s [0, 1, 2, 3, 5, 4, 6] (.a [(7, 1, .a [(8, 0, .s [9, 10] (.a [(11, 0, .e)]))])])) := by intros; exact ⟨⟩
  have hD6 : DH 6 2 [10, 13] (.s [0, 1, 2, 3, 5, 6, 7, 4, 8] (.a [(9, 1, .a [(10, 0, .s [11, 12] (.a [(13, 0, .e)]))])])) := by intros; exact ⟨⟩
  have hD4 : DH 4 1 [8, 14] (.s [0, 1, 2, 4, 3, 5, 6, 7] (.a [(8, 0, .s [9, 10, 11, 12, 13] (.a [(14, 0, .s [15, 16, 17] .e)]))])) := by intros; exact ⟨⟩
  exact g_walk 156 h Try.func110
def btree_node_string_api_Record_last (n0 : (Option Addr)) (Q : (Array Value) → K) : K :=
  New 174 #[(.string ⟨#[]⟩), (.bool false), (Sl.val ⟨none, 0, 0⟩), (.int .i64 0), (.int .u64 0)] fun t2 =>
  Nn n0 fun t7 =>
  Ld (t7.add 1) Sl.val fun t9 =>
  Ar (IntKind.wrap .i64 ((t9.n : Int) - 1)) fun t11 =>
  Ite (decide ((0 : Int) ≤ t11))
    (Ld (t7.add 1) Sl.val fun t17 =>
    Idx t17 t11 1 fun t19 =>
    Ld t19 Value.pointer fun t20 =>
    btree_node_string_api_Record_last.call t20 fun t21 =>
    New 174 #[(.string ⟨#[]⟩), (.bool false), (Sl.val ⟨none, 0, 0⟩), (.int .i64 0), (.int .u64 0)] fun x4 =>
    StN x4 5 t21 <|
    btree_node_string_api_Record_mend.call (some t7) t11 <|
    LdN x4 5 fun t25 =>
    StN t2 5 t25 <|
    LdN t2 5 fun r0 =>
    Q r0)
    (Dr <| WithS fun S =>
    LdS S t7 Sl.val fun t29 =>
    LdS S t7 Sl.val fun t33 =>
    Ar (IntKind.wrap .i64 ((t33.n : Int) - 1)) fun t35 =>
    Idx t29 t35 5 fun t36 =>
    LdNS S t36 5 fun t37 =>
    New 174 #[(.string ⟨#[]⟩), (.bool false), (Sl.val ⟨none, 0, 0⟩), (.int .i64 0), (.int .u64 0)] fun x5 =>
    Sv S <|
    StN x5 5 t37 <|
    Dr <|
    Ld t7 Sl.val fun t42 =>
    Ld t7 Sl.val fun t46 =>
    Ar (IntKind.wrap .i64 ((t46.n : Int) - 1)) fun t48 =>
    Slc t42 0 t48 (t42.c : Int) 5 fun t49 =>
    St t7 (Sl.val t49) <|
    LdN x5 5 fun t52 =>
    StN t2 5 t52 <|
    LdN t2 5 fun r0 =>
    Q r0)
theorem btree_node_string_api_Record_last_ok (n0 : (Option Addr)) (Q : (Array Value) → K) (w : World) (h : btree_node_string_api_Record_last n0 Q w) : btree_node_string_api_Record_last.call n0 Q w := by
  have hD7 : DH 7 1 [14] (.s [0, 1, 2, 3, 5, 6, 7, 4, 8, 9, 10, 11, 12, 13] (.a [(14, 0, .e)])) := by intros; exact ⟨⟩
  have hD6 : DH 6 2 [13] (.s [0, 1, 2, 4, 5, 6, 3, 7, 8, 9, 10, 11] (.a [(12, 1, .a [(13, 0, .e)])])) := by intros; exact ⟨⟩
  exact g_walk 53 h Try.func117
def btree_node_string_api_Record_mend.s2 (Q : K)  (n0_2 : Addr) (i1_2 : Int) (kid4_2 : Addr) (t202_2 : Bool) : K :=
  Ite t202_2
    (Ld (n0_2.add 1) Sl.val fun t229 =>
    Ar (IntKind.wrap .i64 (i1_2 + 1)) fun t231 =>
    Idx t229 t231 1 fun t232 =>
    Ld t232 Value.pointer fun t233 =>
    Dr <| WithS fun S =>
    LdS S kid4_2 Sl.val fun t238 =>
    LdS S n0_2 Sl.val fun t242 =>
    Idx t242 i1_2 5 fun t244 =>
    LdNS S t244 5 fun t245 =>
    Bld #[(.string ⟨#[]⟩), (.bool false), (Sl.val ⟨none, 0, 0⟩), (.int .i64 0), (.int .u64 0)] (fun i => some (i * 5, 5)) [(0, (.agg t245))] fun ct246 =>
    New 174 ct246 fun t246 =>
    Sv S <|
    Do Try.prog (Builtin.append_ #[165, 165] 165 #[(Sl.val t238), (Sl.val (Sl.mk (some t246) 1 1))]) Sl.val fun t247 =>
    St kid4_2 (Sl.val t247) <|
    Dr <|
    Nn t233 fun t256 =>
    Ld n0_2 Sl.val fun t253 =>
    Ld t256 Sl.val fun t258 =>
    Idx t258 0 5 fun t259 =>
    LdN t259 5 fun t260 =>
    Idx t253 i1_2 5 fun t261 =>
    StN t261 5 t260 <|
    Ld t256 Sl.val fun t266 =>
    slices_Delete_s_btree_item_string_api_Record_btree_item_string_api_Record.call t266 0 1 fun t267 =>
    St t256 (Sl.val t267) <|
    Ld (t256.add 1) Sl.val fun t273 =>
    Ite (decide ((0 : Int) < (t273.n : Int)))
      (Dr <| WithS fun S =>
      LdS S (kid4_2.add 1) Sl.val fun t280 =>
      LdS S (t256.add 1) Sl.val fun t284 =>
      Idx t284 0 1 fun t285 =>
      LdS S t285 Value.pointer fun t286 =>
      New 164 #[(.pointer t286)] fun t287 =>
      Sv S <|
      Do Try.prog (Builtin.append_ #[166, 166] 166 #[(Sl.val t280), (Sl.val (Sl.mk (some t287) 1 1))]) Sl.val fun t288 =>
      St (kid4_2.add 1) (Sl.val t288) <|
      Ld (t256.add 1) Sl.val fun t295 =>
      slices_Delete_s_btree_node_string_api_Record_btree_node_string_api_Record.call t295 0 1 fun t296 =>
      St (t256.add 1) (Sl.val t296) <|
      Q)
      (Q))
    (Ar (if (1 : Int) > i1_2 then 1 else i1_2) fun t18 =>
    Dr <|
    Ld (n0_2.add 1) Sl.val fun t22 =>
    Ar (IntKind.wrap .i64 (t18 - 1)) fun t24 =>
    Idx t22 t24 1 fun t25 =>
    Ld t25 Value.pointer fun t26 =>
    Ld (n0_2.add 1) Sl.val fun t30 =>
    Idx t30 t18 1 fun t32 =>
    Ld t32 Value.pointer fun t33 =>
    Dr <| WithS fun S =>
    Nn t26 fun t36 =>
    Ar (IntKind.wrap .i64 (t18 - 1)) fun t44 =>
    Nn t33 fun t50 =>
    LdS S t36 Sl.val fun t38 =>
    LdS S n0_2 Sl.val fun t42 =>
    Idx t42 t44 5 fun t45 =>
    LdNS S t45 5 fun t46 =>
    LdS S t50 Sl.val fun t52 =>
    Bld #[(.string ⟨#[]⟩), (.bool false), (Sl.val ⟨none, 0, 0⟩), (.int .i64 0), (.int .u64 0)] (fun i => some (i * 5, 5)) [(0, (.agg t46))] fun ct47 =>
    New 174 ct47 fun t47 =>
    Sv S <|
    Do Try.prog (Builtin.append_ #[165, 165] 165 #[(Sl.val t38), (Sl.val (Sl.mk (some t47) 1 1))]) Sl.val fun t48 =>
    Sv S <|
    Do Try.prog (Builtin.append_ #[165, 165] 165 #[(Sl.val t48), (Sl.val t52)]) Sl.val fun t53 =>
    St t36 (Sl.val t53) <|
    Dr <|
    Ld (t36.add 1) Sl.val fun t60 =>
    Ld (t50.add 1) Sl.val fun t64 =>
    Do Try.prog (Builtin.append_ #[166, 166] 166 #[(Sl.val t60), (Sl.val t64)]) Sl.val fun t65 =>
    St (t36.add 1) (Sl.val t65) <|
    Ld n0_2 Sl.val fun t72 =>
    Ar (IntKind.wrap .i64 (t18 - 1)) fun t74 =>
    slices_Delete_s_btree_item_string_api_Record_btree_item_string_api_Record.call t72 t74 t18 fun t76 =>
    St n0_2 (Sl.val t76) <|
    Ld (n0_2.add 1) Sl.val fun t83 =>
    Ar (IntKind.wrap .i64 (t18 + 1)) fun t86 =>
    slices_Delete_s_btree_node_string_api_Record_btree_node_string_api_Record.call t83 t18 t86 fun t87 =>
    St (n0_2.add 1) (Sl.val t87) <|
    Q)
def btree_node_string_api_Record_mend.s1 (Q : K)  (n0_1 : Addr) (i1_1 : Int) (kid4_1 : Addr) (t97_1 : Bool) : K :=
  Ite t97_1
    (Ld (n0_1.add 1) Sl.val fun t118 =>
    Ar (IntKind.wrap .i64 (i1_1 - 1)) fun t120 =>
    Idx t118 t120 1 fun t121 =>
    Ld t121 Value.pointer fun t122 =>
    Nn t122 fun t124 =>
    Ld t124 Sl.val fun t126 =>
    Ar (IntKind.wrap .i64 ((t126.n : Int) - 1)) fun t128 =>
    Dr <| WithS fun S =>
    Ar (IntKind.wrap .i64 (i1_1 - 1)) fun t139 =>
    LdS S kid4_1 Sl.val fun t133 =>
    LdS S n0_1 Sl.val fun t137 =>
    Idx t137 t139 5 fun t140 =>
    LdNS S t140 5 fun t141 =>
    Bld #[(.string ⟨#[]⟩), (.bool false), (Sl.val ⟨none, 0, 0⟩), (.int .i64 0), (.int .u64 0)] (fun i => some (i * 5, 5)) [(0, (.agg t141))] fun ct142 =>
    New 174 ct142 fun t142 =>
    Sv S <|
    slices_Insert_s_btree_item_string_api_Record_btree_item_string_api_Record.call t133 0 (Sl.mk (some t142) 1 1) fun t143 =>
    St kid4_1 (Sl.val t143) <|
    Dr <|
    Ar (IntKind.wrap .i64 (i1_1 - 1)) fun t151 =>
    Ld n0_1 Sl.val fun t149 =>
    Ld t124 Sl.val fun t155 =>
    Idx t155 t128 5 fun t157 =>
    LdN t157 5 fun t158 =>
    Idx t149 t151 5 fun t159 =>
    StN t159 5 t158 <|
    Ld t124 Sl.val fun t164 =>
    Slc t164 0 t128 (t164.c : Int) 5 fun t166 =>
    St t124 (Sl.val t166) <|
    Ld (t124.add 1) Sl.val fun t172 =>
    Ite (decide ((0 : Int) < (t172.n : Int)))
      (Dr <| WithS fun S =>
      Ar (IntKind.wrap .i64 (t128 + 1)) fun t185 =>
      LdS S (kid4_1.add 1) Sl.val fun t179 =>
      LdS S (t124.add 1) Sl.val fun t183 =>
      Idx t183 t185 1 fun t186 =>
      LdS S t186 Value.pointer fun t187 =>
      New 164 #[(.pointer t187)] fun t188 =>
      Sv S <|
      slices_Insert_s_btree_node_string_api_Record_btree_node_string_api_Record.call t179 0 (Sl.mk (some t188) 1 1) fun t189 =>
      St (kid4_1.add 1) (Sl.val t189) <|
      Ld (t124.add 1) Sl.val fun t196 =>
      Ar (IntKind.wrap .i64 (t128 + 1)) fun t198 =>
      Slc t196 0 t198 (t196.c : Int) 1 fun t199 =>
      St (t124.add 1) (Sl.val t199) <|
      Q)
      (Q))
    (Ar (IntKind.wrap .i64 (i1_1 + 1)) fun t204 =>
    Ld (n0_1.add 1) Sl.val fun t208 =>
    Ite (decide (t204 < (t208.n : Int)))
      (Ld (n0_1.add 1) Sl.val fun t215 =>
      Ar (IntKind.wrap .i64 (i1_1 + 1)) fun t217 =>
      Idx t215 t217 1 fun t218 =>
      Ld t218 Value.pointer fun t219 =>
      Nn t219 fun t220 =>
      Ld t220 Sl.val fun t222 =>
      btree_node_string_api_Record_mend.s2 Q n0_1 i1_1 kid4_1 (decide ((2 : Int) < (t222.n : Int))))
      (btree_node_string_api_Record_mend.s2 Q n0_1 i1_1 kid4_1 false))
def btree_node_string_api_Record_mend (n0 : (Option Addr)) (i1 : Int) (Q : K) : K :=
  Nn n0 fun t11 =>
  Ld (t11.add 1) Sl.val fun t13 =>
  Idx t13 i1 1 fun t15 =>
  Ld t15 Value.pointer fun t16 =>
  Nn t16 fun t92 =>
  Ld t92 Sl.val fun t94 =>
  Ite (decide ((2 : Int) ≤ (t94.n : Int)))
    (Q)
    (Ite (decide ((0 : Int) < i1))
      (Ld (t11.add 1) Sl.val fun t104 =>
      Ar (IntKind.wrap .i64 (i1 - 1)) fun t106 =>
      Idx t104 t106 1 fun t107 =>
      Ld t107 Value.pointer fun t108 =>
      Nn t108 fun t109 =>
      Ld t109 Sl.val fun t111 =>
      btree_node_string_api_Record_mend.s1 Q t11 i1 t92 (decide ((2 : Int) < (t111.n : Int))))
      (btree_node_string_api_Record_mend.s1 Q t11 i1 t92 false))
theorem btree_node_string_api_Record_mend_ok (n0 : (Option Addr)) (i1 : Int) (Q : K) (w : World) (h : btree_node_string_api_Record_mend n0 i1 Q w) : btree_node_string_api_Record_mend.call n0 i1 Q w := by
  have hD15 : DH 15 2 [14, 17] (.s [0, 1, 2, 3, 5, 6, 7, 9, 10, 4, 8, 11, 12] (.a [(13, 1, .a [(14, 0, .s [15, 16] (.a [(17, 0, .e)]))])])) := by intros; exact ⟨⟩
  have hD12 : DH 12 1 [14] (.s [0, 1, 2, 4, 5, 6, 7, 8, 10, 3, 9, 11, 12, 13] (.a [(14, 0, .e)])) := by intros; exact ⟨⟩
  have hD11 : DH 11 2 [14, 17] (.s [0, 1, 2, 3, 5, 6, 7, 9, 10, 4, 8, 11, 12] (.a [(13, 1, .a [(14, 0, .s [15, 16] (.a [(17, 0, .e)]))])])) := by intros; exact ⟨⟩
  have hD23 : DH 23 2 [12, 15] (.s [0, 1, 2, 3, 5, 6, 7, 4, 8, 9, 10] (.a [(11, 1, .a [(12, 0, .s [13, 14] (.a [(15, 0, .e)]))])])) := by intros; exact ⟨⟩
  have hD20 : DH 20 1 [12] (.s [0, 1, 2, 4, 5, 6, 7, 3, 8, 9, 10, 11] (.a [(12, 0, .e)])) := by intros; exact ⟨⟩
  have hD19 : DH 19 2 [13, 16] (.s [0, 1, 2, 3, 5, 6, 7, 9, 4, 8, 10, 11] (.a [(12, 1, .a [(13, 0, .s [14, 15] (.a [(16, 0, .e)]))])])) := by intros; exact ⟨⟩
  have hD4 : DH 4 1 [9, 12] (.s [0, 1, 2, 3, 5, 6, 7, 4, 8] (.a [(9, 0, .s [10, 11] (.a [(12, 0, .e)]))])) := by intros; exact ⟨⟩
  have hD3 : DH 3 2 [19, 22] (.s [0, 1, 2, 3, 5, 6, 7, 9, 10, 15, 16, 17, 4, 8, 11, 12, 18] (.a [(13, 1, .a [(14, 1, .a [(19, 0, .s [20, 21] (.a [(22, 0, .e)]))])])])) := by intros; exact ⟨⟩
  have hJ18 : JH 18 fun D => ∃ (n0_2 : Addr) (i1_2 : Int) (kid4_2 : Addr), D [(0, (.pointer (some n0_2))), (1, (.int .i64 i1_2)), (4, (.pointer (some kid4_2)))] (fun C => ∀ (t202_2 : Bool), C [(0, (.pointer (some n0_2))), (1, (.int .i64 i1_2)), (4, (.pointer (some kid4_2))), (202, (.bool t202_2))] (btree_node_string_api_Record_mend.s2 Q n0_2 i1_2 kid4_2 t202_2)) := by intros; exact ⟨fun _ ⟨_, _, _, h⟩ => ⟨_, _, h⟩⟩
  have hJ9 : JH 9 fun D => ∃ (n0_1 : Addr) (i1_1 : Int) (kid4_1 : Addr), D [(0, (.pointer (some n0_1))), (1, (.int .i64 i1_1)), (4, (.pointer (some kid4_1)))] (fun C => ∀ (t97_1 : Bool), C [(0, (.pointer (some n0_1))), (1, (.int .i64 i1_1)), (4, (.pointer (some kid4_1))), (97, (.bool t97_1))] (btree_node_string_api_Record_mend.s1 Q n0_1 i1_1 kid4_1 t97_1)) := by intros; exact ⟨fun _ ⟨_, _, _, h⟩ => ⟨_, _, h⟩⟩
  exact g_walk 299 h Try.func118
end Go.Proofs.Ytfjjocopmknhgaa
/- Plain forms of functions, and that their code comes to them (package lib_btree). -/
namespace Go.Proofs.Ytfjjocopmknhgaa
open Go Go.Sep
set_option linter.unusedVariables false
set_option linter.unusedSimpArgs false
set_option maxRecDepth 100000
set_option maxHeartbeats 4000000
attribute [local irreducible] G Gp Cx Tx Ex Sx Dx Ox Ax Lx Rx Fx Bx Bj Al Do Ld LdN St StN New CallF Ar DoU Rd Rd2 Pu Cd Ite Fv CallV CallY Ans0 Ans1 Ans2 Ans3 Ans4 Ans5 Ext Dead Dr WithS Sv LdS LdNS RdS Rd2S Nn Idx IdxA IdxS Fld Bld Slc SlcS Cat All LoopK RangeF RangeJ TakeD
namespace F_IRLibBtree
instance at_174 : AT Try.prog 174 5 := ⟨by kernel_rfl⟩
instance cb_136 : CB Try.prog 136 := ⟨by kernel_rfl⟩
instance cb_138 : CB Try.prog 138 := ⟨by kernel_rfl⟩
instance cb_144 : CB Try.prog 144 := ⟨by kernel_rfl⟩
instance cb_145 : CB Try.prog 145 := ⟨by kernel_rfl⟩
instance cb_147 : CB Try.prog 147 := ⟨by kernel_rfl⟩
instance cb_148 : CB Try.prog 148 := ⟨by kernel_rfl⟩
instance ct_164 : CT Try.prog 164 := ⟨by kernel_rfl⟩
instance ext_135 : EXT Try.prog 135 (Extern.SlicesOverlaps.overlaps #[165, 165] #[4]) := ext_of Try.func135 (by kernel_rfl) (by kernel_rfl) (by kernel_rfl) (by kernel_rfl)
instance ext_137 : EXT Try.prog 137 (Extern.SlicesOverlaps.overlaps #[166, 166] #[4]) := ext_of Try.func137 (by kernel_rfl) (by kernel_rfl) (by kernel_rfl) (by kernel_rfl)
instance in_119 : INT Try.prog 119 .u64 := ⟨by kernel_rfl⟩
instance in_3 : INT Try.prog 3 .i64 := ⟨by kernel_rfl⟩
instance mx : MX Try.prog := ⟨mixed⟩
instance sl_165 : SLT Try.prog 165 174 5 := ⟨by kernel_rfl⟩
instance sl_166 : SLT Try.prog 166 164 1 := ⟨by kernel_rfl⟩
instance sz_164 : SZ Try.prog 164 1 := ⟨by kernel_rfl⟩
instance sz_174 : SZ Try.prog 174 5 := ⟨by kernel_rfl⟩
instance un_165 : UN Try.prog 165 (.slice 174) := ⟨Try.underlying165⟩
instance un_166 : UN Try.prog 166 (.slice 164) := ⟨Try.underlying166⟩
instance zt_164 : ZT Try.prog 164 (.pointer none) := ⟨Try.t164, by kernel_rfl, by kernel_rfl⟩
instance zt_174 : ZT Try.prog 174 (.agg #[(.string ⟨#[]⟩), (.bool false), (Sl.val ⟨none, 0, 0⟩), (.int .i64 0), (.int .u64 0)]) := ⟨Try.t174, by kernel_rfl, by kernel_rfl⟩
end F_IRLibBtree
def slices_BinarySearchFunc_s_btree_item_string_api_Record_btree_item_string_api_Record_string.s2 (Q : Int → Bool → K) (X1 : Int → Int → K) (t6_2 : Int) (t7_2 : Bool) : K :=
  Q t6_2 t7_2
def slices_BinarySearchFunc_s_btree_item_string_api_Record_btree_item_string_api_Record_string.b1 (Q : Int → Bool → K)  (X1 : Int → Int → K) (x0_1 : Sl) (target1_1 : ByteArray) (cmp2_1 : Value) (n8_1 : Int) (i9_1 : Int) (j10_1 : Int) : K :=
  Ite (decide (i9_1 < j10_1))
    (Ar (IntKind.wrap .i64 (i9_1 + j10_1)) fun t20 =>
    Ar (IntKind.wrap .u64 t20) fun t21 =>
    Cd (0 ≤ (1 : Int)) <|
    Ar (shrOf .u64 t21 1) fun t22 =>
    Ar (IntKind.wrap .i64 t22) fun t23 =>
    Idx x0_1 t23 5 fun t27 =>
    LdN t27 5 fun t28 =>
    CallV Try.prog cmp2_1 [(.agg t28), (.string target1_1)] <| Ans1 (fun (t30 : Int) => (Value.int .i64) t30) fun t30 =>
    Ite (decide (t30 < 0))
      (Ar (IntKind.wrap .i64 (t23 + 1)) fun t33 =>
      X1 t33 j10_1)
      (X1 i9_1 t23))
    (Ite (decide (i9_1 < n8_1))
      (Idx x0_1 i9_1 5 fun t43 =>
      LdN t43 5 fun t44 =>
      CallV Try.prog cmp2_1 [(.agg t44), (.string target1_1)] <| Ans1 (fun (t46 : Int) => (Value.int .i64) t46) fun t46 =>
      slices_BinarySearchFunc_s_btree_item_string_api_Record_btree_item_string_api_Record_string.s2 Q X1 i9_1 (decide (t46 = 0)))
      (slices_BinarySearchFunc_s_btree_item_string_api_Record_btree_item_string_api_Record_string.s2 Q X1 i9_1 false))
def slices_BinarySearchFunc_s_btree_item_string_api_Record_btree_item_string_api_Record_string (x0 : Sl) (target1 : ByteArray) (cmp2 : Value) (Q : Int → Bool → K) : K :=
  LoopK (α := Int × Int) (fun X x => slices_BinarySearchFunc_s_btree_item_string_api_Record_btree_item_string_api_Record_string.b1 Q (fun i9_1 j10_1 => X (i9_1, j10_1)) x0 target1 cmp2 (x0.n : Int) x.1 x.2) (0, (x0.n : Int))
theorem slices_BinarySearchFunc_s_btree_item_string_api_Record_btree_item_string_api_Record_string_ok (x0 : Sl) (target1 : ByteArray) (cmp2 : Value) (Q : Int → Bool → K) (w : World) (h : slices_BinarySearchFunc_s_btree_item_string_api_Record_btree_item_string_api_Record_string x0 target1 cmp2 Q w) : slices_BinarySearchFunc_s_btree_item_string_api_Record_btree_item_string_api_Record_string.call x0 target1 cmp2 Q w := by
  have hJ1000008 : ∀ (X1 : (Int × Int) → K), XH 3 X1 → JH 1000008 fun D => D [] (fun C => ∀ (t6_2 : Int) (t7_2 : Bool), C [(6, (.int .i64 t6_2)), (7, (.bool t7_2))] (slices_BinarySearchFunc_s_btree_item_string_api_Record_btree_item_string_api_Record_string.s2 Q (fun i9_1 j10_1 => X1 (i9_1, j10_1)) t6_2 t7_2)) := by intros; exact ⟨fun _ h => ⟨_, _, h⟩⟩
  have hL3 : ∀ (x0_1 : Sl) (target1_1 : ByteArray) (cmp2_1 : Value) (n8_1 : Int), LH 3 (fun x : Int × Int => [(0, (Sl.val x0_1)), (1, (.string target1_1)), (2, cmp2_1), (8, (.int .i64 n8_1)), (9, (.int .i64 x.1)), (10, (.int .i64 x.2))]) (fun X x => slices_BinarySearchFunc_s_btree_item_string_api_Record_btree_item_string_api_Record_string.b1 Q (fun i9_1 j10_1 => X (i9_1, j10_1)) x0_1 target1_1 cmp2_1 n8_1 x.1 x.2) := by intros; exact ⟨⟩
  exact g_walk 49 h Try.func106
def slices_Delete_s_btree_item_string_api_Record_btree_item_string_api_Record (s0 : Sl) (i1 : Int) (j2 : Int) (Q : Sl → K) : K :=
  Slc s0 i1 j2 (s0.n : Int) 5 fun t13 =>
  Ite (decide (i1 = j2))
    (Q s0)
    (Dr <|
    Slc s0 0 i1 (s0.c : Int) 5 fun t22 =>
    Slc s0 j2 (s0.n : Int) (s0.c : Int) 5 fun t25 =>
    Do Try.prog (Builtin.append_ #[165, 165] 165 #[(Sl.val t22), (Sl.val t25)]) Sl.val fun t26 =>
    Slc t26 (t26.n : Int) (s0.n : Int) (t26.c : Int) 5 fun t31 =>
    Do Try.prog (Builtin.clear_ #[165] 0 #[(Sl.val t31)]) id fun _ =>
    Q t26)
theorem slices_Delete_s_btree_item_string_api_Record_btree_item_string_api_Record_ok (s0 : Sl) (i1 : Int) (j2 : Int) (Q : Sl → K) (w : World) (h : slices_Delete_s_btree_item_string_api_Record_btree_item_string_api_Record s0 i1 j2 Q w) : slices_Delete_s_btree_item_string_api_Record_btree_item_string_api_Record.call s0 i1 j2 Q w := by
  have hD5 : DH 5 0 [] (.s [0, 1, 2, 3, 4, 5] (.a [(6, 0, .s [7] .e)])) := by intros; exact ⟨⟩
  exact g_walk 33 h Try.func116
def slices_Insert_s_btree_item_string_api_Record_btree_item_string_api_Record (s0 : Sl) (i1 : Int) (v2 : Sl) (Q : Sl → K) : K :=
  Slc s0 i1 (s0.n : Int) (s0.c : Int) 5 fun t12 =>
  Ite (decide ((v2.n : Int) = 0))
    (Q s0)
    (Ite (decide (i1 = (s0.n : Int)))
      (Do Try.prog (Builtin.append_ #[165, 165] 165 #[(Sl.val s0), (Sl.val v2)]) Sl.val fun t25 =>
      Q t25)
      (Ar (IntKind.wrap .i64 ((s0.n : Int) + (v2.n : Int))) fun t28 =>
      Do Try.prog (Builtin.cap_ #[165] 3 #[(Sl.val s0)]) (Value.int .i64) fun t30 =>
      Ite (decide (t30 < t28))
        (Slc s0 0 i1 (s0.c : Int) 5 fun t34 =>
        Ar (IntKind.wrap .i64 ((s0.n : Int) + (v2.n : Int))) fun t37 =>
        Ar (IntKind.wrap .i64 (t37 - i1)) fun t39 =>
        Do Try.prog (Builtin.append_ #[165, 3] 165 #[(Sl.val t34), (.int .i64 t39)]) Sl.val fun t40 =>
        Slc t40 i1 (t40.n : Int) (t40.c : Int) 5 fun t43 =>
        Do Try.prog (Builtin.copy_ #[165, 165] 3 #[(Sl.val t43), (Sl.val v2)]) (Value.int .i64) fun t45 =>
        Dr <|
        Ar (IntKind.wrap .i64 (i1 + (v2.n : Int))) fun t49 =>
        Slc t40 t49 (t40.n : Int) (t40.c : Int) 5 fun t50 =>
        Slc s0 i1 (s0.n : Int) (s0.c : Int) 5 fun t53 =>
        Do Try.prog (Builtin.copy_ #[165, 165] 3 #[(Sl.val t50), (Sl.val t53)]) (Value.int .i64) fun t54 =>
        Q t40)
        (Ar (IntKind.wrap .i64 ((s0.n : Int) + (v2.n : Int))) fun t59 =>
        Slc s0 0 t59 (s0.c : Int) 5 fun t60 =>
        Ar (IntKind.wrap .i64 (i1 + (v2.n : Int))) fun t65 =>
        Slc t60 t65 (t60.n : Int) (t60.c : Int) 5 fun t66 =>
        Rd Try.prog (Extern.SlicesOverlaps.overlaps #[165, 165] #[4] [(Sl.val v2), (Sl.val t66)].toArray) Value.bool fun t67 =>
        Ite (!t67)
          (Dr <|
          Ar (IntKind.wrap .i64 (i1 + (v2.n : Int))) fun t72 =>
          Slc t60 t72 (t60.n : Int) (t60.c : Int) 5 fun t73 =>
          Slc t60 i1 (t60.n : Int) (t60.c : Int) 5 fun t76 =>
          Do Try.prog (Builtin.copy_ #[165, 165] 3 #[(Sl.val t73), (Sl.val t76)]) (Value.int .i64) fun t77 =>
          Slc t60 i1 (t60.n : Int) (t60.c : Int) 5 fun t80 =>
          Do Try.prog (Builtin.copy_ #[165, 165] 3 #[(Sl.val t80), (Sl.val v2)]) (Value.int .i64) fun t82 =>
          Q t60)
          (Slc t60 (s0.n : Int) (t60.n : Int) (t60.c : Int) 5 fun t86 =>
          Do Try.prog (Builtin.copy_ #[165, 165] 3 #[(Sl.val t86), (Sl.val v2)]) (Value.int .i64) fun t88 =>
          Slc t60 i1 (t60.n : Int) (t60.c : Int) 5 fun t91 =>
          slices_rotateRight_btree_item_string_api_Record.call t91 (v2.n : Int) <|
          Q t60))))
theorem slices_Insert_s_btree_item_string_api_Record_btree_item_string_api_Record_ok (s0 : Sl) (i1 : Int) (v2 : Sl) (Q : Sl → K) (w : World) (h : slices_Insert_s_btree_item_string_api_Record_btree_item_string_api_Record s0 i1 v2 Q w) : slices_Insert_s_btree_item_string_api_Record_btree_item_string_api_Record.call s0 i1 v2 Q w := by
  have hD11 : DH 11 0 [] (.s [0, 1, 2, 3, 4, 5, 6, 7] (.a [(8, 0, .e)])) := by intros; exact ⟨⟩
  have hD15 : DH 15 0 [] (.s [0, 1, 2, 3, 4, 5, 6, 7] (.a [(8, 0, .e)])) := by intros; exact ⟨⟩
  exact g_walk 95 h Try.func119
def slices_Insert_s_btree_node_string_api_Record_btree_node_string_api_Record (s0 : Sl) (i1 : Int) (v2 : Sl) (Q : Sl → K) : K :=
  Slc s0 i1 (s0.n : Int) (s0.c : Int) 1 fun t12 =>
  Ite (decide ((v2.n : Int) = 0))
    (Q s0)
    (Ite (decide (i1 = (s0.n : Int)))
      (Do Try.prog (Builtin.append_ #[166, 166] 166 #[(Sl.val s0), (Sl.val v2)]) Sl.val fun t25 =>
      Q t25)
      (Ar (IntKind.wrap .i64 ((s0.n : Int) + (v2.n : Int))) fun t28 =>
      Do Try.prog (Builtin.cap_ #[166] 3 #[(Sl.val s0)]) (Value.int .i64) fun t30 =>
      Ite (decide (t30 < t28))
        (Slc s0 0 i1 (s0.c : Int) 1 fun t34 =>
        Ar (IntKind.wrap .i64 ((s0.n : Int) + (v2.n : Int))) fun t37 =>
        Ar (IntKind.wrap .i64 (t37 - i1)) fun t39 =>
        Do Try.prog (Builtin.append_ #[166, 3] 166 #[(Sl.val t34), (.int .i64 t39)]) Sl.val fun t40 =>
        Slc t40 i1 (t40.n : Int) (t40.c : Int) 1 fun t43 =>
        Do Try.prog (Builtin.copy_ #[166, 166] 3 #[(Sl.val t43), (Sl.val v2)]) (Value.int .i64) fun t45 =>
        Dr <|
        Ar (IntKind.wrap .i64 (i1 + (v2.n : Int))) fun t49 =>
        Slc t40 t49 (t40.n : Int) (t40.c : Int) 1 fun t50 =>
        Slc s0 i1 (s0.n : Int) (s0.c : Int) 1 fun t53 =>
        Do Try.prog (Builtin.copy_ #[166, 166] 3 #[(Sl.val t50), (Sl.val t53)]) (Value.int .i64) fun t54 =>
        Q t40)
        (Ar (IntKind.wrap .i64 ((s0.n : Int) + (v2.n : Int))) fun t59 =>
        Slc s0 0 t59 (s0.c : Int) 1 fun t60 =>
        Ar (IntKind.wrap .i64 (i1 + (v2.n : Int))) fun t65 =>
        Slc t60 t65 (t60.n : Int) (t60.c : Int) 1 fun t66 =>
        Rd Try.prog (Extern.SlicesOverlaps.overlaps #[166, 166] #[4] [(Sl.val v2), (Sl.val t66)].toArray) Value.bool fun t67 =>
        Ite (!t67)
          (Dr <|
          Ar (IntKind.wrap .i64 (i1 + (v2.n : Int))) fun t72 =>
          Slc t60 t72 (t60.n : Int) (t60.c : Int) 1 fun t73 =>
          Slc t60 i1 (t60.n : Int) (t60.c : Int) 1 fun t76 =>
          Do Try.prog (Builtin.copy_ #[166, 166] 3 #[(Sl.val t73), (Sl.val t76)]) (Value.int .i64) fun t77 =>
          Slc t60 i1 (t60.n : Int) (t60.c : Int) 1 fun t80 =>
          Do Try.prog (Builtin.copy_ #[166, 166] 3 #[(Sl.val t80), (Sl.val v2)]) (Value.int .i64) fun t82 =>
          Q t60)
          (Slc t60 (s0.n : Int) (t60.n : Int) (t60.c : Int) 1 fun t86 =>
          Do Try.prog (Builtin.copy_ #[166, 166] 3 #[(Sl.val t86), (Sl.val v2)]) (Value.int .i64) fun t88 =>
          Slc t60 i1 (t60.n : Int) (t60.c : Int) 1 fun t91 =>
          slices_rotateRight_btree_node_string_api_Record.call t91 (v2.n : Int) <|
          Q t60))))
theorem slices_Insert_s_btree_node_string_api_Record_btree_node_string_api_Record_ok (s0 : Sl) (i1 : Int) (v2 : Sl) (Q : Sl → K) (w : World) (h : slices_Insert_s_btree_node_string_api_Record_btree_node_string_api_Record s0 i1 v2 Q w) : slices_Insert_s_btree_node_string_api_Record_btree_node_string_api_Record.call s0 i1 v2 Q w := by
  have hD11 : DH 11 0 [] (.s [0, 1, 2, 3, 4, 5, 6, 7] (.a [(8, 0, .e)])) := by intros; exact ⟨⟩
  have hD15 : DH 15 0 [] (.s [0, 1, 2, 3, 4, 5, 6, 7] (.a [(8, 0, .e)])) := by intros; exact ⟨⟩
  exact g_walk 95 h Try.func120
def slices_Clone_s_btree_item_string_api_Record_btree_item_string_api_Record (s0 : Sl) (Q : Sl → K) : K :=
  Ite ((s0).a.isNone)
    (Q (Sl.mk none 0 0))
    (New 174 #[] fun t5 =>
    Do Try.prog (Builtin.append_ #[165, 165] 165 #[(Sl.val (Sl.mk (some t5) 0 0)), (Sl.val s0)]) Sl.val fun t7 =>
    Q t7)
theorem slices_Clone_s_btree_item_string_api_Record_btree_item_string_api_Record_ok (s0 : Sl) (Q : Sl → K) (w : World) (h : slices_Clone_s_btree_item_string_api_Record_btree_item_string_api_Record s0 Q w) : slices_Clone_s_btree_item_string_api_Record_btree_item_string_api_Record.call s0 Q w := by
  exact g_walk 8 h Try.func121
def slices_Clone_s_btree_node_string_api_Record_btree_node_string_api_Record (s0 : Sl) (Q : Sl → K) : K :=
  Ite ((s0).a.isNone)
    (Q (Sl.mk none 0 0))
    (New 164 #[] fun t5 =>
    Do Try.prog (Builtin.append_ #[166, 166] 166 #[(Sl.val (Sl.mk (some t5) 0 0)), (Sl.val s0)]) Sl.val fun t7 =>
    Q t7)
theorem slices_Clone_s_btree_node_string_api_Record_btree_node_string_api_Record_ok (s0 : Sl) (Q : Sl → K) (w : World) (h : slices_Clone_s_btree_node_string_api_Record_btree_node_string_api_Record s0 Q w) : slices_Clone_s_btree_node_string_api_Record_btree_node_string_api_Record.call s0 Q w := by
  exact g_walk 8 h Try.func122
def slices_Delete_s_btree_node_string_api_Record_btree_node_string_api_Record (s0 : Sl) (i1 : Int) (j2 : Int) (Q : Sl → K) : K :=
  Slc s0 i1 j2 (s0.n : Int) 1 fun t13 =>
  Ite (decide (i1 = j2))
    (Q s0)
    (Dr <|
    Slc s0 0 i1 (s0.c : Int) 1 fun t22 =>
    Slc s0 j2 (s0.n : Int) (s0.c : Int) 1 fun t25 =>
    Do Try.prog (Builtin.append_ #[166, 166] 166 #[(Sl.val t22), (Sl.val t25)]) Sl.val fun t26 =>
    Slc t26 (t26.n : Int) (s0.n : Int) (t26.c : Int) 1 fun t31 =>
    Do Try.prog (Builtin.clear_ #[166] 0 #[(Sl.val t31)]) id fun _ =>
    Q t26)
theorem slices_Delete_s_btree_node_string_api_Record_btree_node_string_api_Record_ok (s0 : Sl) (i1 : Int) (j2 : Int) (Q : Sl → K) (w : World) (h : slices_Delete_s_btree_node_string_api_Record_btree_node_string_api_Record s0 i1 j2 Q w) : slices_Delete_s_btree_node_string_api_Record_btree_node_string_api_Record.call s0 i1 j2 Q w := by
  have hD5 : DH 5 0 [] (.s [0, 1, 2, 3, 4, 5] (.a [(6, 0, .s [7] .e)])) := by intros; exact ⟨⟩
  exact g_walk 33 h Try.func134
def slices_rotateRight_btree_item_string_api_Record (s0 : Sl) (r1 : Int) (Q : K) : K :=
  Ar (IntKind.wrap .i64 ((s0.n : Int) - r1)) fun t8 =>
  slices_rotateLeft_btree_item_string_api_Record.call s0 t8 <|
  Q
theorem slices_rotateRight_btree_item_string_api_Record_ok (s0 : Sl) (r1 : Int) (Q : K) (w : World) (h : slices_rotateRight_btree_item_string_api_Record s0 r1 Q w) : slices_rotateRight_btree_item_string_api_Record.call s0 r1 Q w := by
  exact g_walk 10 h Try.func136
def slices_rotateRight_btree_node_string_api_Record (s0 : Sl) (r1 : Int) (Q : K) : K :=
  Ar (IntKind.wrap .i64 ((s0.n : Int) - r1)) fun t8 =>
  slices_rotateLeft_btree_node_string_api_Record.call s0 t8 <|
  Q
theorem slices_rotateRight_btree_node_string_api_Record_ok (s0 : Sl) (r1 : Int) (Q : K) (w : World) (h : slices_rotateRight_btree_node_string_api_Record s0 r1 Q w) : slices_rotateRight_btree_node_string_api_Record.call s0 r1 Q w := by
  exact g_walk 10 h Try.func138
def slices_rotateLeft_btree_item_string_api_Record (s0 : Sl) (r1 : Int) (Q : K) : K :=
  Slc s0 0 r1 (s0.c : Int) 5 fun t6 =>
  slices_Reverse_s_btree_item_string_api_Record_btree_item_string_api_Record.call t6 <|
  Slc s0 r1 (s0.n : Int) (s0.c : Int) 5 fun t10 =>
  slices_Reverse_s_btree_item_string_api_Record_btree_item_string_api_Record.call t10 <|
  slices_Reverse_s_btree_item_string_api_Record_btree_item_string_api_Record.call s0 <|
  Q
theorem slices_rotateLeft_btree_item_string_api_Record_ok (s0 : Sl) (r1 : Int) (Q : K) (w : World) (h : slices_rotateLeft_btree_item_string_api_Record s0 r1 Q w) : slices_rotateLeft_btree_item_string_api_Record.call s0 r1 Q w := by
  exact g_walk 14 h Try.func144
def slices_rotateLeft_btree_node_string_api_Record (s0 : Sl) (r1 : Int) (Q : K) : K :=
  Slc s0 0 r1 (s0.c : Int) 1 fun t6 =>
  slices_Reverse_s_btree_node_string_api_Record_btree_node_string_api_Record.call t6 <|
  Slc s0 r1 (s0.n : Int) (s0.c : Int) 1 fun t10 =>
  slices_Reverse_s_btree_node_string_api_Record_btree_node_string_api_Record.call t10 <|
  slices_Reverse_s_btree_node_string_api_Record_btree_node_string_api_Record.call s0 <|
  Q
theorem slices_rotateLeft_btree_node_string_api_Record_ok (s0 : Sl) (r1 : Int) (Q : K) (w : World) (h : slices_rotateLeft_btree_node_string_api_Record s0 r1 Q w) : slices_rotateLeft_btree_node_string_api_Record.call s0 r1 Q w := by
  exact g_walk 14 h Try.func145
def slices_Reverse_s_btree_item_string_api_Record_btree_item_string_api_Record.b1 (Q : K)  (X1 : Int → Int → K) (s0_1 : Sl) (i2_1 : Int) (j3_1 : Int) : K :=
  Ite (decide (i2_1 < j3_1))
    (Dr <|
    Idx s0_1 j3_1 5 fun t20 =>
    Idx s0_1 i2_1 5 fun t24 =>
    LdN t20 5 fun t21 =>
    LdN t24 5 fun t25 =>
    Idx s0_1 i2_1 5 fun t26 =>
    StN t26 5 t21 <|
    Idx s0_1 j3_1 5 fun t27 =>
    StN t27 5 t25 <|
    Ar (IntKind.wrap .i64 (i2_1 + 1)) fun t11 =>
    Ar (IntKind.wrap .i64 (j3_1 - 1)) fun t13 =>
    X1 t11 t13)
    (Q)
def slices_Reverse_s_btree_item_string_api_Record_btree_item_string_api_Record (s0 : Sl) (Q : K) : K :=
  Ar (IntKind.wrap .i64 ((s0.n : Int) - 1)) fun t6 =>
  LoopK (α := Int × Int) (fun X x => slices_Reverse_s_btree_item_string_api_Record_btree_item_string_api_Record.b1 Q (fun i2_1 j3_1 => X (i2_1, j3_1)) s0 x.1 x.2) (0, t6)
theorem slices_Reverse_s_btree_item_string_api_Record_btree_item_string_api_Record_ok (s0 : Sl) (Q : K) (w : World) (h : slices_Reverse_s_btree_item_string_api_Record_btree_item_string_api_Record s0 Q w) : slices_Reverse_s_btree_item_string_api_Record_btree_item_string_api_Record.call s0 Q w := by
  have hD3 : DH 3 1 [13, 15] (.s [0, 1, 2, 3, 4, 5, 6, 8, 9, 10, 7, 11, 12] (.a [(13, 0, .s [14] (.a [(15, 0, .e)]))])) := by intros; exact ⟨⟩
  have hL1 : ∀ (s0_1 : Sl), LH 1 (fun x : Int × Int => [(0, (Sl.val s0_1)), (2, (.int .i64 x.1)), (3, (.int .i64 x.2))]) (fun X x => slices_Reverse_s_btree_item_string_api_Record_btree_item_string_api_Record.b1 Q (fun i2_1 j3_1 => X (i2_1, j3_1)) s0_1 x.1 x.2) := by intros; exact ⟨⟩
  exact g_walk 28 h Try.func147
def slices_Reverse_s_btree_node_string_api_Record_btree_node_string_api_Record.b1 (Q : K)  (X1 : Int → Int → K) (s0_1 : Sl) (i2_1 : Int) (j3_1 : Int) : K :=
  Ite (decide (i2_1 < j3_1))
    (Dr <|
    Idx s0_1 j3_1 1 fun t20 =>
    Idx s0_1 i2_1 1 fun t24 =>
    Ld t20 Value.pointer fun t21 =>
    Ld t24 Value.pointer fun t25 =>
    Idx s0_1 i2_1 1 fun t26 =>
    St t26 (.pointer t21) <|
    Idx s0_1 j3_1 1 fun t27 =>
    St t27 (.pointer t25) <|
    Ar (IntKind.wrap .i64 (i2_1 + 1)) fun t11 =>
    Ar (IntKind.wrap .i64 (j3_1 - 1)) fun t13 =>
    X1 t11 t13)
    (Q)
def slices_Reverse_s_btree_node_string_api_Record_btree_node_string_api_Record (s0 : Sl) (Q : K) : K :=
  Ar (IntKind.wrap .i64 ((s0.n : Int) - 1)) fun t6 =>
  LoopK (α := Int × Int) (fun X x => slices_Reverse_s_btree_node_string_api_Record_btree_node_string_api_Record.b1 Q (fun i2_1 j3_1 => X (i2_1, j3_1)) s0 x.1 x.2) (0, t6)
theorem slices_Reverse_s_btree_node_string_api_Record_btree_node_string_api_Record_ok (s0 : Sl) (Q : K) (w : World) (h : slices_Reverse_s_btree_node_string_api_Record_btree_node_string_api_Record s0 Q w) : slices_Reverse_s_btree_node_string_api_Record_btree_node_string_api_Record.call s0 Q w := by
  have hD3 : DH 3 1 [13, 15] (.s [0, 1, 2, 3, 4, 5, 6, 8, 9, 10, 7, 11, 12] (.a [(13, 0, .s [14] (.a [(15, 0, .e)]))])) := by intros; exact ⟨⟩
  have hL1 : ∀ (s0_1 : Sl), LH 1 (fun x : Int × Int => [(0, (Sl.val s0_1)), (2, (.int .i64 x.1)), (3, (.int .i64 x.2))]) (fun X x => slices_Reverse_s_btree_node_string_api_Record_btree_node_string_api_Record.b1 Q (fun i2_1 j3_1 => X (i2_1, j3_1)) s0_1 x.1 x.2) := by intros; exact ⟨⟩
  exact g_walk 28 h Try.func148
end Go.Proofs.Ytfjjocopmknhgaa
/- Plain forms of functions, and that their code comes to them (package lib_cmp). -/
namespace Go.Proofs.Ytfjjocopmknhgaa
open Go Go.Sep
set_option linter.unusedVariables false
set_option linter.unusedSimpArgs false
set_option maxRecDepth 100000
set_option maxHeartbeats 4000000
attribute [local irreducible] G Gp Cx Tx Ex Sx Dx Ox Ax Lx Rx Fx Bx Bj Al Do Ld LdN St StN New CallF Ar DoU Rd Rd2 Pu Cd Ite Fv CallV CallY Ans0 Ans1 Ans2 Ans3 Ans4 Ans5 Ext Dead Dr WithS Sv LdS LdNS RdS Rd2S Nn Idx IdxA IdxS Fld Bld Slc SlcS Cat All LoopK RangeF RangeJ TakeD
namespace F_IRLibCmp
instance cb_115 : CB Try.prog 115 := ⟨by kernel_rfl⟩
instance mx : MX Try.prog := ⟨mixed⟩
end F_IRLibCmp
def cmp_Compare_string (x0 : ByteArray) (y1 : ByteArray) (Q : Int → K) : K :=
  cmp_isNaN_string.call x0 fun t8 =>
  cmp_isNaN_string.call y1 fun t10 =>
  Ite t8
    (Ite t10
      (Q 0)
      (Q (-1)))
    (Ite t10
      (Q 1)
      (Ite (Op.bytesLess x0.toList y1.toList)
        (Q (-1))
        (Ite (!(Op.bytesLess x0.toList y1.toList || x0.toList == y1.toList))
          (Q 1)
          (Q 0))))
theorem cmp_Compare_string_ok (x0 : ByteArray) (y1 : ByteArray) (Q : Int → K) (w : World) (h : cmp_Compare_string x0 y1 Q w) : cmp_Compare_string.call x0 y1 Q w := by
  exact g_walk 20 h Try.func108
def cmp_isNaN_string (x0 : ByteArray) (Q : Bool → K) : K :=
  Q (!(x0.toList == x0.toList))
theorem cmp_isNaN_string_ok (x0 : ByteArray) (Q : Bool → K) (w : World) (h : cmp_isNaN_string x0 Q w) : cmp_isNaN_string.call x0 Q w := by
  exact g_walk 6 h Try.func115
def cmp_Less_string.s1 (Q : Bool → K)  (t4_1 : Bool) : K :=
  Q t4_1
def cmp_Less_string (x0 : ByteArray) (y1 : ByteArray) (Q : Bool → K) : K :=
  cmp_isNaN_string.call x0 fun t6 =>
  Ite t6
    (cmp_isNaN_string.call y1 fun t9 =>
    Ite (!t9)
      (cmp_Less_string.s1 Q true)
      (cmp_Less_string.s1 Q (Op.bytesLess x0.toList y1.toList)))
    (cmp_Less_string.s1 Q (Op.bytesLess x0.toList y1.toList))
theorem cmp_Less_string_ok (x0 : ByteArray) (y1 : ByteArray) (Q : Bool → K) (w : World) (h : cmp_Less_string x0 y1 Q w) : cmp_Less_string.call x0 y1 Q w := by
  have hJ1000001 : JH 1000001 fun D => D [] (fun C => ∀ (t4_1 : Bool), C [(4, (.bool t4_1))] (cmp_Less_string.s1 Q t4_1)) := by intros; exact ⟨fun _ h => ⟨_, _, h⟩⟩
  exact g_walk 17 h Try.func129
end Go.Proofs.Ytfjjocopmknhgaa
/- The B-tree of records by strings is one of Bt's. -/
namespace Go.Proofs.Ytfjjocopmknhgaa
open Go Go.Sep Go.Sep.Bt
set_option linter.unusedSimpArgs false
set_option linter.unusedVariables false
set_option maxRecDepth 100000

noncomputable def btS : BtT ByteArray where
  P := Try.prog
  tI := ty_btree_item_string_api_Record
  tSI := ty_s_btree_item_string_api_Record
  tV := ty_api_Record
  tK := ty_p_btree_node_string_api_Record
  tSK := ty_s_p_btree_node_string_api_Record
  tN := ty_btree_node_string_api_Record
  tT := ty_btree_Tree_string_api_Record
  nv := 4
  kz := .string ⟨#[]⟩
  vz := [.bool false, Sl.val ⟨none, 0, 0⟩, .int .i64 0, .int .u64 0]
  kV := Value.string
  cv := .func (.func 107) #[] #[]
  bsC := slices_BinarySearchFunc_s_btree_item_string_api_Record_btree_item_string_api_Record_string.call
  nsearchC := btree_node_string_api_Record_search.call
  nputC := btree_node_string_api_Record_put.call
  insIC := slices_Insert_s_btree_item_string_api_Record_btree_item_string_api_Record.call
  insKC := slices_Insert_s_btree_node_string_api_Record_btree_node_string_api_Record.call
  cloneIC := slices_Clone_s_btree_item_string_api_Record_btree_item_string_api_Record.call
  cloneKC := slices_Clone_s_btree_node_string_api_Record_btree_node_string_api_Record.call

/-- How strings are compared. -/
def cmpS (a b : ByteArray) : Int := if a.toList < b.toList then -1 else if a.toList = b.toList then 0 else 1
theorem toList_inj {a b : ByteArray} (h : a.toList = b.toList) : a = b := by
  obtain ⟨x, rfl⟩ := bs_of a
  obtain ⟨y, rfl⟩ := bs_of b
  rw [bs_list, bs_list] at h
  rw [h]
theorem cmpS_neg {a b : ByteArray} : cmpS a b < 0 ↔ a.toList < b.toList := by
  unfold cmpS
  split
  · simp [*]
  · split <;> simp [*]
theorem cmpS_zero {a b : ByteArray} : cmpS a b = 0 ↔ a = b := by
  unfold cmpS
  split
  · rename_i h
    simp only [show ¬ ((-1 : Int) = 0) by omega, false_iff]
    rintro rfl; exact List.lt_irrefl _ h
  · split
    · rename_i h; simp [toList_inj h]
    · rename_i h
      simp only [show ¬ ((1 : Int) = 0) by omega, false_iff]
      rintro rfl; exact h rfl
theorem list_tri {x y : List UInt8} (h1 : ¬ x < y) (h2 : ¬ x = y) : y < x := by
  have h4 : y ≤ x := by rw [← List.not_lt]; exact h1
  rcases List.le_iff_lt_or_eq.1 h4 with h5 | h5
  · exact h5
  · exact absurd h5.symm h2
theorem cmpS_pos {a b : ByteArray} : 0 < cmpS a b ↔ b.toList < a.toList := by
  unfold cmpS
  split
  · rename_i h
    simp only [show ¬ (0 < (-1 : Int)) by omega, false_iff]
    exact fun h2 => List.lt_irrefl _ (List.lt_trans h h2)
  · split
    · rename_i h
      simp only [show ¬ (0 < (0 : Int)) by omega, false_iff]
      rw [h]; exact List.lt_irrefl _
    · rename_i h1 h2
      simp only [show 0 < (1 : Int) by omega, true_iff]
      exact list_tri h1 h2
theorem isNaN_spec {B : World} {Γ : List HProp} {x : ByteArray} {q : Bool → K} (h : HG B Γ (q false)) : HG B Γ (cmp_isNaN_string.call x q) := fun w hw => cmp_isNaN_string_ok _ _ _ (by unfold cmp_isNaN_string; simpa using h w hw)
theorem Compare_spec {B : World} {Γ : List HProp} {x y : ByteArray} {q : Int → K} (h : HG B Γ (q (cmpS x y))) : HG B Γ (cmp_Compare_string.call x y q) := fun w hw => by
  refine cmp_Compare_string_ok _ _ _ _ ?_
  refine hg hw ?_
  unfold cmp_Compare_string
  refine isNaN_spec (isNaN_spec ?_)
  refine s_f ?_ rfl
  refine s_f ?_ rfl
  rw [gt_dec, bytesLess_dec]
  refine s_ite (fun h1 => ?_) fun h1 => ?_
  · have e : cmpS x y = -1 := by unfold cmpS; rw [if_pos (by simpa using h1)]
    rw [e] at h; exact h
  refine s_ite (fun h2 => ?_) fun h2 => ?_
  · have h3 : y.toList < x.toList := by simpa using h2
    have e : cmpS x y = 1 := by
      unfold cmpS
      rw [if_neg (by simpa using h1), if_neg fun h4 => by rw [h4] at h3; exact List.lt_irrefl _ h3]
    rw [e] at h; exact h
  · have h3 : ¬ y.toList < x.toList := by simpa using h2
    have e : cmpS x y = 0 := by
      unfold cmpS
      rw [if_neg (by simpa using h1), if_pos (Classical.byContradiction fun h4 => h3 (list_tri (by simpa using h1) h4))]
    rw [e] at h; exact h
theorem btS_ok : BtOk btS cmpS where
  kf := fun _ => rfl
  kzf := rfl
  vz := ⟨rfl, rfl⟩
  TI := by kernel_rfl
  ZI := by kernel_rfl
  TK := by kernel_rfl
  ZK := by kernel_rfl
  tr := fun h1 h2 => cmpS_neg.2 (List.lt_trans (cmpS_neg.1 h1) (cmpS_neg.1 h2))
  eq := cmpS_zero
  sw := by intro a b; rw [cmpS_neg, cmpS_pos]
  cmp := fun a b vs q hl h => by
    refine s_callv ?_
    refine fun w hw => btree_node_string_api_Record_search_1_ok _ _ _ _ ?_
    refine hg hw ?_
    clear hw w
    unfold btree_node_string_api_Record_search_1
    refine s_new fun t => ?_
    refine s_ld (b := t) (x := a) ?_
    refine Compare_spec ?_
    exact s_end h
  bs := fun s k Q w h => slices_BinarySearchFunc_s_btree_item_string_api_Record_btree_item_string_api_Record_string_ok _ _ _ _ _ h
  search := fun n k Q w h => btree_node_string_api_Record_search_ok _ _ _ _ h
  put := fun n x Q w h => btree_node_string_api_Record_put_ok _ _ _ _ h
  insI := ⟨_, _, fun s i v Q w h => slices_Insert_s_btree_item_string_api_Record_btree_item_string_api_Record_ok _ _ _ _ _ h⟩
  insK := ⟨_, _, fun s i v Q w h => slices_Insert_s_btree_node_string_api_Record_btree_node_string_api_Record_ok _ _ _ _ _ h⟩
  cloneI := fun s Q w h => slices_Clone_s_btree_item_string_api_Record_btree_item_string_api_Record_ok _ _ _ h
  cloneK := fun s Q w h => slices_Clone_s_btree_node_string_api_Record_btree_node_string_api_Record_ok _ _ _ h

section
variable {B : World} {Γ : List HProp}
theorem btNew_spec {Q : Option Addr → K} (h : ∀ t, HG B (TreeR btS cmpS t [] :: Γ) (Q (some ⟨t, 0, none⟩))) : HG B Γ (btree_New_string_api_Record.call Q) := fun w hw =>
  btree_New_string_api_Record_ok _ _ (show tnew btS Q w from hg hw (tnew_spec h))
theorem btGet_spec {t : Nat} {L : List btS.It} {k : ByteArray} {Q : Array Value → Bool → K} (hfound : ∀ A v C, L = A ++ (k, v) :: C → HG B (TreeR btS cmpS t L :: Γ) (Q v.1.toArray true)) (hnot : (∀ A C, L = A ++ C → (∀ x ∈ A, cmpS x.1 k < 0) → (∀ x ∈ C, cmpS k x.1 < 0) → HG B (TreeR btS cmpS t L :: Γ) (Q btS.vz.toArray false))) :
    HG B (TreeR btS cmpS t L :: Γ) (btree_Tree_string_api_Record_Get.call (some ⟨t, 0, none⟩) k Q) := fun w hw =>
  btree_Tree_string_api_Record_Get_ok _ _ _ _ (show tget btS (some ⟨t, 0, none⟩) k Q w from hg hw (tget_spec btS_ok hfound hnot))
theorem btPut_spec {t : Nat} {L : List btS.It} {k : ByteArray} {v : Cel btS.nv} {Q : Array Value → Bool → K} (hL : L.length < 1000000000) (h : ∀ L' old had, PutR cmpS (btS.z0 btS_ok.vz) L k v L' old had → HG B (TreeR btS cmpS t L' :: Γ) (Q old.1.toArray had)) :
    HG B (TreeR btS cmpS t L :: Γ) (btree_Tree_string_api_Record_Put.call (some ⟨t, 0, none⟩) k v.1.toArray Q) := fun w hw =>
  btree_Tree_string_api_Record_Put_ok _ _ _ _ _ (show tput btS (some ⟨t, 0, none⟩) k v.1.toArray Q w from hg hw (tput_spec btS_ok hL h))
end
end Go.Proofs.Ytfjjocopmknhgaa
/- bytes.Clone gives the same bytes in memory of one's own. -/
namespace Go.Proofs.Ytfjjocopmknhgaa
open Go Go.Sep
set_option linter.unusedSimpArgs false
set_option linter.unusedVariables false
section
variable {B w : World} {Γ : List HProp}
theorem bytes_Clone_spec {b : Sl} {xs : List UInt8} {k : Sl → K} (h : Holds B Γ w) (hr : ∀ w, Holds B Γ w → RdB w b xs) (hl : xs.length ≤ 1000000000)
    (hk : ∀ s w, Holds B (Bytes ty_uint8 s xs :: Γ) w → s.a.isNone = b.a.isNone → k s w) : bytes_Clone.call b k w := by
  refine bytes_Clone_ok _ _ _ ?_
  unfold bytes_Clone
  refine r_ite (fun hb => ?_) (fun hb => ?_)
  · have hx : xs = [] := by
      have h1 := (hr w h).nil (by simpa using hb)
      have h2 := (hr w h).len
      rw [h1] at h2; simpa using h2
    subst hx
    exact hk _ _ (h.nilSl _ _) (by rw [hb]; rfl)
  · refine r_new h ?_
    clear h
    intro t w h
    try simp only [add_mk, Nat.zero_add, Nat.reduceAdd]
    have hn : b.n = xs.length := by have h2 := (hr w h.tail).len; simpa using h2.symm
    refine r_append (vs := []) (h.imp (blk_SlC rfl rfl)) (by kernel_rfl) (by kernel_rfl) (by' := 1) (by kernel_rfl) zero_ty_uint8 rfl (hr w h.tail) (byteV_flat _) (by simp only [hn]; omega) (by decide) fun s w h hs ha => ?_
    refine hk s w h ?_
    rw [hb]
    have := ha rfl
    cases hh : s.a <;> simp [hh] at this ⊢
end
end Go.Proofs.Ytfjjocopmknhgaa
/- Plain forms of functions, and that their code comes to them (package store). -/
namespace Go.Proofs.Ytfjjocopmknhgaa
open Go Go.Sep
set_option linter.unusedVariables false
set_option linter.unusedSimpArgs false
set_option maxRecDepth 100000
set_option maxHeartbeats 4000000
attribute [local irreducible] G Gp Cx Tx Ex Sx Dx Ox Ax Lx Rx Fx Bx Bj Al Do Ld LdN St StN New CallF Ar DoU Rd Rd2 Pu Cd Ite Fv CallV CallY Ans0 Ans1 Ans2 Ans3 Ans4 Ans5 Ext Dead Dr WithS Sv LdS LdNS RdS Rd2S Nn Idx IdxA IdxS Fld Bld Slc SlcS Cat All LoopK RangeF RangeJ TakeD
namespace F_IRStore
instance at_36 : AT Try.prog 36 4 := ⟨by kernel_rfl⟩
instance cb_14 : CB Try.prog 14 := ⟨by kernel_rfl⟩
instance cb_53 : CB Try.prog 53 := ⟨by kernel_rfl⟩
instance cb_54 : CB Try.prog 54 := ⟨by kernel_rfl⟩
instance cb_55 : CB Try.prog 55 := ⟨by kernel_rfl⟩
instance cb_56 : CB Try.prog 56 := ⟨by kernel_rfl⟩
instance cb_57 : CB Try.prog 57 := ⟨by kernel_rfl⟩
instance cb_88 : CB Try.prog 88 := ⟨by kernel_rfl⟩
instance cb_89 : CB Try.prog 89 := ⟨by kernel_rfl⟩
instance ct_109 : CT Try.prog 109 := ⟨by kernel_rfl⟩
instance ct_3 : CT Try.prog 3 := ⟨by kernel_rfl⟩
instance ct_33 : CT Try.prog 33 := ⟨by kernel_rfl⟩
instance ct_34 : CT Try.prog 34 := ⟨by kernel_rfl⟩
instance ct_4 : CT Try.prog 4 := ⟨by kernel_rfl⟩
instance ft_112_0 : FT Try.prog 112 0 0 1 := ⟨by kernel_rfl⟩
instance ft_112_1 : FT Try.prog 112 1 1 1 := ⟨by kernel_rfl⟩
instance ft_36_0 : FT Try.prog 36 0 0 1 := ⟨by kernel_rfl⟩
instance ft_36_1 : FT Try.prog 36 1 1 1 := ⟨by kernel_rfl⟩
instance ft_36_2 : FT Try.prog 36 2 2 1 := ⟨by kernel_rfl⟩
instance ft_36_3 : FT Try.prog 36 3 3 1 := ⟨by kernel_rfl⟩
instance in_3 : INT Try.prog 3 .i64 := ⟨by kernel_rfl⟩
instance in_5 : INT Try.prog 5 .u8 := ⟨by kernel_rfl⟩
instance mx : MX Try.prog := ⟨mixed⟩
instance pl_112 : PLT Try.prog 112 [(0, 1), (1, 1)] := ⟨_, Try.underlying112, by kernel_rfl⟩
instance st_9 : STT Try.prog 9 := ⟨by kernel_rfl⟩
instance sz_3 : SZ Try.prog 3 1 := ⟨by kernel_rfl⟩
instance sz_33 : SZ Try.prog 33 1 := ⟨by kernel_rfl⟩
instance sz_34 : SZ Try.prog 34 1 := ⟨by kernel_rfl⟩
instance sz_36 : SZ Try.prog 36 4 := ⟨by kernel_rfl⟩
instance sz_4 : SZ Try.prog 4 1 := ⟨by kernel_rfl⟩
instance zt_112 : ZT Try.prog 112 (.agg #[(.int .i64 0), (.pointer none)]) := ⟨Try.t112, by kernel_rfl, by kernel_rfl⟩
instance zt_36 : ZT Try.prog 36 (.agg #[(.bool false), (Sl.val ⟨none, 0, 0⟩), (.int .i64 0), (.int .u64 0)]) := ⟨Try.t36, by kernel_rfl, by kernel_rfl⟩
end F_IRStore
def store_New.s1 (Q : (Option Addr) → Int → K)  (regions0_1 : Int) (t9_1 : Bool) : K :=
  Ite t9_1
    (Q none 1)
    (btree_New_string_api_Record.call  fun t11 =>
    New 112 #[(.int .i64 regions0_1), (.pointer t11)] fun t13 =>
    Q (some t13) 0)
def store_New (regions0 : Int) (Q : (Option Addr) → Int → K) : K :=
  Ite (decide (regions0 < 1))
    (store_New.s1 Q regions0 true)
    (store_New.s1 Q regions0 (decide ((3 : Int) < regions0)))
theorem store_New_ok (regions0 : Int) (Q : (Option Addr) → Int → K) (w : World) (h : store_New regions0 Q w) : store_New.call regions0 Q w := by
  have hJ2 : JH 2 fun D => ∃ (regions0_1 : Int), D [(0, (.int .i64 regions0_1))] (fun C => ∀ (t9_1 : Bool), C [(0, (.int .i64 regions0_1)), (9, (.bool t9_1))] (store_New.s1 Q regions0_1 t9_1)) := by intros; exact ⟨fun _ ⟨_, h⟩ => ⟨_, _, h⟩⟩
  exact g_walk 14 h Try.func13
def store_Store_Get.s1 (Q : (Array Value) → K)  (t4_1 : Addr) (r5_1 : Addr) : K :=
  Ld (r5_1.add 1) Sl.val fun t26 =>
  bytes_Clone.call t26 fun t27 =>
  St (r5_1.add 1) (Sl.val t27) <|
  LdN r5_1 4 fun t29 =>
  StN t4_1 4 t29 <|
  LdN t4_1 4 fun r0 =>
  Q r0
def store_Store_Get (s0 : (Option Addr)) (key1 : ByteArray) (Q : (Array Value) → K) : K :=
  New 36 #[(.bool false), (Sl.val ⟨none, 0, 0⟩), (.int .i64 0), (.int .u64 0)] fun t4 =>
  Nn s0 fun t9 =>
  Ld (t9.add 1) Value.pointer fun t11 =>
  btree_Tree_string_api_Record_Get.call t11 key1 fun t13x0 t13x1 =>
  New 36 #[(.bool false), (Sl.val ⟨none, 0, 0⟩), (.int .i64 0), (.int .u64 0)] fun r5 =>
  StN r5 4 t13x0 <|
  Ite (!t13x1)
    (Ld t9 (Value.int .i64) fun t22 =>
    store_Default.call key1 t22 fun t23 =>
    St (r5.add 2) (.int .i64 t23) <|
    store_Store_Get.s1 Q t4 r5)
    (store_Store_Get.s1 Q t4 r5)
theorem store_Store_Get_ok (s0 : (Option Addr)) (key1 : ByteArray) (Q : (Array Value) → K) (w : World) (h : store_Store_Get s0 key1 Q w) : store_Store_Get.call s0 key1 Q w := by
  have hJ4 : JH 4 fun D => ∃ (t4_1 : Addr) (r5_1 : Addr), D [(4, (.pointer (some t4_1))), (5, (.pointer (some r5_1)))] (fun C => C [(4, (.pointer (some t4_1))), (5, (.pointer (some r5_1)))] (store_Store_Get.s1 Q t4_1 r5_1)) := by intros; exact ⟨fun _ ⟨_, _, h⟩ => ⟨_, _, h⟩⟩
  exact g_walk 30 h Try.func14
def store_Store_Move.s1 (Q : Int → K)  (s0_1 : (Option Addr)) (key1_1 : ByteArray) (home2_1 : Int) (r7_1 : Addr) (t11_1 : Bool) : K :=
  Ite t11_1
    (Q 1)
    (Ld (r7_1.add 3) (Value.int .u64) fun t24 =>
    Ite (decide (t24 = 18446744073709551615))
      (Q 111)
      (St (r7_1.add 2) (.int .i64 home2_1) <|
      Ld (r7_1.add 3) (Value.int .u64) fun t29 =>
      Ar (IntKind.wrap .u64 (t29 + 1)) fun t30 =>
      St (r7_1.add 3) (.int .u64 t30) <|
      LdN r7_1 4 fun t34 =>
      store_Store_set.call s0_1 key1_1 t34 <|
      Q 0))
def store_Store_Move (s0 : (Option Addr)) (key1 : ByteArray) (home2 : Int) (Q : Int → K) : K :=
  store_Store_Get.call s0 key1 fun t10 =>
  New 36 #[(.bool false), (Sl.val ⟨none, 0, 0⟩), (.int .i64 0), (.int .u64 0)] fun r7 =>
  StN r7 4 t10 <|
  Ite (decide (home2 < 0))
    (store_Store_Move.s1 Q s0 key1 home2 r7 true)
    (Nn s0 fun t17 =>
    Ld t17 (Value.int .i64) fun t19 =>
    store_Store_Move.s1 Q (some t17) key1 home2 r7 (decide (t19 ≤ home2)))
theorem store_Store_Move_ok (s0 : (Option Addr)) (key1 : ByteArray) (home2 : Int) (Q : Int → K) (w : World) (h : store_Store_Move s0 key1 home2 Q w) : store_Store_Move.call s0 key1 home2 Q w := by
  have hJ3 : JH 3 fun D => ∃ (s0_1 : (Option Addr)) (key1_1 : ByteArray) (home2_1 : Int) (r7_1 : Addr), D [(0, (.pointer s0_1)), (1, (.string key1_1)), (2, (.int .i64 home2_1)), (7, (.pointer (some r7_1)))] (fun C => ∀ (t11_1 : Bool), C [(0, (.pointer s0_1)), (1, (.string key1_1)), (2, (.int .i64 home2_1)), (7, (.pointer (some r7_1))), (11, (.bool t11_1))] (store_Store_Move.s1 Q s0_1 key1_1 home2_1 r7_1 t11_1)) := by intros; exact ⟨fun _ ⟨_, _, _, _, h⟩ => ⟨_, _, h⟩⟩
  exact g_walk 36 h Try.func15
def store_Store_Put (s0 : (Option Addr)) (key1 : ByteArray) (value2 : Sl) (Q : K) : K :=
  store_Store_Get.call s0 key1 fun t9 =>
  New 36 #[(.bool false), (Sl.val ⟨none, 0, 0⟩), (.int .i64 0), (.int .u64 0)] fun r6 =>
  StN r6 4 t9 <|
  bytes_Clone.call value2 fun t11 =>
  St r6 (.bool true) <|
  St (r6.add 1) (Sl.val t11) <|
  LdN r6 4 fun t16 =>
  store_Store_set.call s0 key1 t16 <|
  Q
theorem store_Store_Put_ok (s0 : (Option Addr)) (key1 : ByteArray) (value2 : Sl) (Q : K) (w : World) (h : store_Store_Put s0 key1 value2 Q w) : store_Store_Put.call s0 key1 value2 Q w := by
  exact g_walk 18 h Try.func38
def store_Default.b1 (Q : Int → K)  (X1 : Int → Int → K) (key0_1 : ByteArray) (regions1_1 : Int) (t10_1 : Int) (sum5_1 : Int) (t11_1 : Int) : K :=
  Ite (decide (t11_1 < t10_1))
    (IdxS key0_1 t11_1 fun t17 =>
    Ar (IntKind.wrap .i64 t17) fun t18 =>
    Ar (IntKind.wrap .i64 (sum5_1 + t18)) fun t19 =>
    Cd (regions1_1 ≠ 0) <|
    Ar (Int.tmod t19 regions1_1) fun t21 =>
    Ar (IntKind.wrap .i64 (t11_1 + 1)) fun t22 =>
    X1 t21 t22)
    (Q sum5_1)
def store_Default (key0 : ByteArray) (regions1 : Int) (Q : Int → K) : K :=
  Ite (decide (regions1 < 1))
    (Q 0)
    (LoopK (α := Int × Int) (fun X x => store_Default.b1 Q (fun sum5_1 t11_1 => X (sum5_1, t11_1)) key0 regions1 (key0.size : Int) x.1 x.2) (0, 0))
theorem store_Default_ok (key0 : ByteArray) (regions1 : Int) (Q : Int → K) (w : World) (h : store_Default key0 regions1 Q w) : store_Default.call key0 regions1 Q w := by
  have hL5 : ∀ (key0_1 : ByteArray) (regions1_1 : Int) (t10_1 : Int), LH 5 (fun x : Int × Int => [(0, (.string key0_1)), (1, (.int .i64 regions1_1)), (5, (.int .i64 x.1)), (10, (.int .i64 t10_1)), (11, (.int .i64 x.2))]) (fun X x => store_Default.b1 Q (fun sum5_1 t11_1 => X (sum5_1, t11_1)) key0_1 regions1_1 t10_1 x.1 x.2) := by intros; exact ⟨⟩
  exact g_walk 24 h Try.func55
def store_Store_set.s1 (Q : K)  (s0_1 : (Option Addr)) (key1_1 : ByteArray) (r5_1 : Addr) (t13_1 : Bool) : K :=
  Ite t13_1
    (Nn s0_1 fun t15 =>
    Ld (t15.add 1) Value.pointer fun t17 =>
    btree_Tree_string_api_Record_Delete.call t17 key1_1 fun t19x0 t19x1 =>
    Q)
    (Dr <|
    Nn s0_1 fun t21 =>
    Ld (t21.add 1) Value.pointer fun t23 =>
    LdN r5_1 4 fun t25 =>
    btree_Tree_string_api_Record_Put.call t23 key1_1 t25 fun t26x0 t26x1 =>
    Q)
def store_Store_set (s0 : (Option Addr)) (key1 : ByteArray) (r2 : (Array Value)) (Q : K) : K :=
  New 36 r2 fun r5 =>
  Ld r5 Value.bool fun t7 =>
  Ite (!t7)
    (Ld (r5.add 3) (Value.int .u64) fun t11 =>
    store_Store_set.s1 Q s0 key1 r5 (decide (t11 = 0)))
    (store_Store_set.s1 Q s0 key1 r5 false)
theorem store_Store_set_ok (s0 : (Option Addr)) (key1 : ByteArray) (r2 : (Array Value)) (Q : K) (w : World) (h : store_Store_set s0 key1 r2 Q w) : store_Store_set.call s0 key1 r2 Q w := by
  have hD3 : DH 3 1 [6] (.s [0, 1, 2, 4, 3, 5] (.a [(6, 0, .e)])) := by intros; exact ⟨⟩
  have hJ2 : JH 2 fun D => ∃ (s0_1 : (Option Addr)) (key1_1 : ByteArray) (r5_1 : Addr), D [(0, (.pointer s0_1)), (1, (.string key1_1)), (5, (.pointer (some r5_1)))] (fun C => ∀ (t13_1 : Bool), C [(0, (.pointer s0_1)), (1, (.string key1_1)), (5, (.pointer (some r5_1))), (13, (.bool t13_1))] (store_Store_set.s1 Q s0_1 key1_1 r5_1 t13_1)) := by intros; exact ⟨fun _ ⟨_, _, _, h⟩ => ⟨_, _, h⟩⟩
  exact g_walk 27 h Try.func57
def store_Store_Delete (s0 : (Option Addr)) (key1 : ByteArray) (Q : K) : K :=
  store_Store_Get.call s0 key1 fun t7 =>
  New 36 #[(.bool false), (Sl.val ⟨none, 0, 0⟩), (.int .i64 0), (.int .u64 0)] fun r4 =>
  StN r4 4 t7 <|
  St r4 (.bool false) <|
  St (r4.add 1) (Sl.val (Sl.mk none 0 0)) <|
  LdN r4 4 fun t12 =>
  store_Store_set.call s0 key1 t12 <|
  Q
theorem store_Store_Delete_ok (s0 : (Option Addr)) (key1 : ByteArray) (Q : K) (w : World) (h : store_Store_Delete s0 key1 Q w) : store_Store_Delete.call s0 key1 Q w := by
  exact g_walk 14 h Try.func102
end Go.Proofs.Ytfjjocopmknhgaa
