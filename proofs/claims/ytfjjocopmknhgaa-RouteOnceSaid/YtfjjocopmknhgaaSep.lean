/- What is owned of the heap: assertions over parts of the heap, side by side. Holds for every world. -/
import Derived.Below
import Derived.Calls
namespace Go.Sep
open Go Go.RowKit

abbrev Hp := Nat → Option Obj
abbrev HProp := Hp → Prop

def Hp.le (h g : Hp) : Prop := ∀ b o, h b = some o → g b = some o
def Hp.disj (h g : Hp) : Prop := ∀ b, h b = none ∨ g b = none
def Hp.one (b : Nat) (o : Obj) : Hp := fun c => if c = b then some o else none
def Hp.or (h g : Hp) : Hp := fun b => match h b with | some o => some o | none => g b

theorem Hp.le_refl (h : Hp) : h.le h := fun _ _ e => e
theorem Hp.le_trans {a b c : Hp} (h : a.le b) (g : b.le c) : a.le c := fun k o e => g k o (h k o e)
theorem Hp.disj_symm {a b : Hp} (h : a.disj b) : b.disj a := fun k => (h k).symm
theorem Hp.disj_le {a b c d : Hp} (h : a.disj b) (hc : c.le a) (hd : d.le b) : c.disj d := fun k => by
  rcases h k with h | h
  · left; cases e : c k with
    | none => rfl
    | some o => have := hc k o e; rw [h] at this; cases this
  · right; cases e : d k with
    | none => rfl
    | some o => have := hd k o e; rw [h] at this; cases this
theorem Hp.le_or_left (a b : Hp) : a.le (a.or b) := fun k o e => by simp [Hp.or, e]
theorem Hp.le_or_right {a b : Hp} (h : a.disj b) : b.le (a.or b) := fun k o e => by
  rcases h k with h | h
  · simp [Hp.or, h, e]
  · rw [h] at e; cases e
theorem Hp.or_le {a b c : Hp} (ha : a.le c) (hb : b.le c) : (a.or b).le c := fun k o e => by
  unfold Hp.or at e
  split at e
  · rename_i x hx; cases e; exact ha _ _ hx
  · exact hb _ _ e
theorem Hp.disj_or {a b c : Hp} (ha : a.disj c) (hb : b.disj c) : (a.or b).disj c := fun k => by
  rcases hb k with h | h
  · rcases ha k with g | g
    · left; simp [Hp.or, g, h]
    · right; exact g
  · right; exact h

def blk (b : Nat) (o : Obj) : HProp := fun h => h b = some o
def pur (p : Prop) : HProp := fun _ => p
def ex {α : Sort _} (A : α → HProp) : HProp := fun h => ∃ x, A x h

def stars : List HProp → HProp
  | [], _ => True
  | A :: Γ, h => ∃ h1 h2, A h1 ∧ stars Γ h2 ∧ h1.le h ∧ h2.le h ∧ h1.disj h2

theorem stars_le {Γ : List HProp} {h g : Hp} (hs : stars Γ h) (hl : h.le g) : stars Γ g := by
  cases Γ with
  | nil => trivial
  | cons A Γ =>
    obtain ⟨h1, h2, a, b, l1, l2, d⟩ := hs
    exact ⟨h1, h2, a, b, Hp.le_trans l1 hl, Hp.le_trans l2 hl, d⟩

theorem stars_tail {A : HProp} {Γ : List HProp} {h : Hp} (hs : stars (A :: Γ) h) : stars Γ h := by
  obtain ⟨h1, h2, _, b, _, l2, _⟩ := hs
  exact stars_le b l2

theorem stars_swap {A B : HProp} {Γ : List HProp} {h : Hp} (hs : stars (A :: B :: Γ) h) : stars (B :: A :: Γ) h := by
  obtain ⟨h1, h2, a, ⟨h3, h4, b, c, l3, l4, d'⟩, l1, l2, d⟩ := hs
  refine ⟨h3, h1.or h4, b, ⟨h1, h4, a, c, Hp.le_or_left _ _, ?_, ?_⟩, Hp.le_trans l3 l2, Hp.or_le l1 (Hp.le_trans l4 l2), ?_⟩
  · exact Hp.le_or_right (Hp.disj_le d (Hp.le_refl _) l4)
  · exact Hp.disj_le d (Hp.le_refl _) l4
  · exact Hp.disj_symm (Hp.disj_or (Hp.disj_le d (Hp.le_refl _) l3) (Hp.disj_symm d'))

theorem stars_cons_imp {A B : HProp} {Γ Δ : List HProp} {h : Hp} (ha : ∀ h, A h → B h) (hg : ∀ h, stars Γ h → stars Δ h) (hs : stars (A :: Γ) h) : stars (B :: Δ) h := by
  obtain ⟨h1, h2, a, b, l1, l2, d⟩ := hs
  exact ⟨h1, h2, ha _ a, hg _ b, l1, l2, d⟩

theorem stars_perm {Γ Δ : List HProp} (hp : Γ.Perm Δ) : ∀ {h : Hp}, stars Γ h → stars Δ h := by
  induction hp with
  | nil => exact fun h => h
  | cons x _ ih => exact fun h => stars_cons_imp (fun _ h => h) (fun _ h => ih h) h
  | swap x y l => exact stars_swap
  | trans _ _ ih1 ih2 => exact fun h => ih2 (ih1 h)

theorem stars_append {Γ Δ : List HProp} : ∀ {h : Hp}, stars (Γ ++ Δ) h ↔ ∃ h1 h2, stars Γ h1 ∧ stars Δ h2 ∧ h1.le h ∧ h2.le h ∧ h1.disj h2 := by
  induction Γ with
  | nil =>
    intro h
    constructor
    · intro hs; exact ⟨fun _ => none, h, trivial, hs, fun _ _ e => (by cases e), Hp.le_refl _, fun _ => .inl rfl⟩
    · rintro ⟨_, h2, _, hs, _, l, _⟩; exact stars_le hs l
  | cons A Γ ih =>
    intro h
    constructor
    · rintro ⟨h1, h2, a, b, l1, l2, d⟩
      obtain ⟨h3, h4, c, e, l3, l4, d'⟩ := ih.1 b
      refine ⟨h1.or h3, h4, ⟨h1, h3, a, c, Hp.le_or_left _ _, Hp.le_or_right (Hp.disj_le d (Hp.le_refl _) l3), Hp.disj_le d (Hp.le_refl _) l3⟩, e, Hp.or_le l1 (Hp.le_trans l3 l2), Hp.le_trans l4 l2, ?_⟩
      exact Hp.disj_or (Hp.disj_le d (Hp.le_refl _) l4) d'
    · rintro ⟨h1, h2, ⟨h3, h4, a, c, l3, l4, d'⟩, b, l1, l2, d⟩
      refine ⟨h3, h4.or h2, a, ih.2 ⟨h4, h2, c, b, Hp.le_or_left _ _, Hp.le_or_right (Hp.disj_le d l4 (Hp.le_refl _)), Hp.disj_le d l4 (Hp.le_refl _)⟩, Hp.le_trans l3 l1, Hp.or_le (Hp.le_trans l4 l1) l2, ?_⟩
      exact Hp.disj_symm (Hp.disj_or (Hp.disj_symm d') (Hp.disj_symm (Hp.disj_le d l3 (Hp.le_refl _))))

/-- The heap from the base world's end on. -/
def own (B w : World) : Hp := fun b => if b < B.heap.size then none else w.heap[b]?

theorem own_some {B w : World} {b : Nat} {o : Obj} (h : own B w b = some o) : B.heap.size ≤ b ∧ w.heap[b]? = some o := by
  unfold own at h
  split at h
  · cases h
  · exact ⟨by omega, h⟩

/-- What holds of the world w: it is the base world B below its end, and behind that it bears what is listed, side by side. -/
structure Holds (B : World) (Γ : List HProp) (w : World) : Prop where
  below : Below B.heap.size B w
  stars : stars Γ (own B w)

section
variable {B w : World} {Γ Δ : List HProp} {A A' : HProp}

theorem Holds.start (B : World) : Holds B [] B := ⟨Below.refl _ _, trivial⟩
theorem Holds.perm (h : Holds B Γ w) (hp : Γ.Perm Δ) : Holds B Δ w := ⟨h.below, stars_perm hp h.stars⟩
theorem Holds.tail (h : Holds B (A :: Γ) w) : Holds B Γ w := ⟨h.below, stars_tail h.stars⟩
theorem Holds.nothing (h : Holds B Γ w) : Holds B [] w := ⟨h.below, trivial⟩
theorem Holds.swap {A A' : HProp} (h : Holds B (A :: A' :: Γ) w) : Holds B (A' :: A :: Γ) w := ⟨h.below, stars_swap h.stars⟩
theorem Holds.imp (h : Holds B (A :: Γ) w) (hi : ∀ h, A h → A' h) : Holds B (A' :: Γ) w := ⟨h.below, stars_cons_imp hi (fun _ h => h) h.stars⟩
theorem Holds.imp_tail (h : Holds B (A :: Γ) w) (hi : ∀ h, Sep.stars Γ h → Sep.stars Δ h) : Holds B (A :: Δ) w := ⟨h.below, stars_cons_imp (fun _ h => h) hi h.stars⟩

theorem perm_pick {α : Type _} : ∀ {l : List α} {i : Nat} {x : α}, l[i]? = some x → l.Perm (x :: l.eraseIdx i)
  | [], i, x, h => by simp at h
  | y :: l, 0, x, h => by simp at h; subst h; simp
  | y :: l, i + 1, x, h => by
    simp only [List.getElem?_cons_succ] at h
    exact ((perm_pick h).cons y).trans (.swap _ _ _)

theorem Holds.pick (i : Nat) (h : Holds B Γ w) (hi : Γ[i]? = some A) : Holds B (A :: Γ.eraseIdx i) w := h.perm (perm_pick hi)

/-- The i-th part is let go. -/
theorem Holds.del (i : Nat) (h : Holds B Γ w) (hi : Γ[i]? = some A) : Holds B (Γ.eraseIdx i) w := (h.pick i hi).tail

theorem perm_put {α : Type _} : ∀ {l : List α} {i : Nat} {x y : α}, l[i]? = some x → (y :: l.eraseIdx i).Perm (l.set i y)
  | [], i, x, y, h => by simp at h
  | z :: l, 0, x, y, h => by simp
  | z :: l, i + 1, x, y, h => by
    simp only [List.getElem?_cons_succ] at h
    exact (List.Perm.swap _ _ _).trans ((perm_put h).cons z)

/-- The i-th part is put back as another one. -/
theorem Holds.put (i : Nat) (hi : Γ[i]? = some A) (h : Holds B (A' :: Γ.eraseIdx i) w) : Holds B (Γ.set i A') w := h.perm (perm_put hi)

theorem Holds.ex {α : Sort _} {F : α → HProp} : Holds B (Sep.ex F :: Γ) w ↔ ∃ x, Holds B (F x :: Γ) w := by
  constructor
  · rintro ⟨hb, h1, h2, ⟨x, a⟩, b, l1, l2, d⟩; exact ⟨x, hb, h1, h2, a, b, l1, l2, d⟩
  · rintro ⟨x, hb, h1, h2, a, b, l1, l2, d⟩; exact ⟨hb, h1, h2, ⟨x, a⟩, b, l1, l2, d⟩

theorem Holds.pur {p : Prop} : Holds B (Sep.pur p :: Γ) w ↔ p ∧ Holds B Γ w := by
  constructor
  · intro h; exact ⟨by obtain ⟨_, _, _, a, _⟩ := h; exact a, h.tail⟩
  · rintro ⟨hp, hb, hs⟩; exact ⟨hb, fun _ => Option.none, _, hp, hs, fun _ _ e => (by cases e), Hp.le_refl _, fun _ => .inl rfl⟩

theorem stars_flat {h : Hp} : Sep.stars (Sep.stars Δ :: Γ) h ↔ Sep.stars (Δ ++ Γ) h := by
  rw [stars_append]; rfl

theorem Holds.flat : Holds B (Sep.stars Δ :: Γ) w ↔ Holds B (Δ ++ Γ) w :=
  ⟨fun h => ⟨h.below, stars_flat.1 h.stars⟩, fun h => ⟨h.below, stars_flat.2 h.stars⟩⟩

/-- Parts are gathered. -/
theorem Holds.snoc (h : Holds B (Sep.stars Δ :: A :: Γ) w) : Holds B (Sep.stars (Δ ++ [A]) :: Γ) w := by
  refine Holds.flat.2 ?_
  have := Holds.flat.1 h
  simpa using this
theorem Holds.starsNil (h : Holds B Γ w) : Holds B (Sep.stars [] :: Γ) w := Holds.flat.2 h

/-- What an assertion says without the heap. -/
theorem Holds.fact {p : Prop} (h : Holds B (A :: Γ) w) (hi : ∀ h, A h → p) : p := by
  obtain ⟨_, _, _, a, _⟩ := h; exact hi _ a

theorem Holds.block {b : Nat} {o : Obj} (h : Holds B (blk b o :: Γ) w) : w.heap[b]? = some o := by
  obtain ⟨_, h1, h2, a, _, l1, _, _⟩ := h
  exact (own_some (l1 _ _ a)).2

theorem Holds.base {b : Nat} {o : Obj} (h : Holds B (blk b o :: Γ) w) : B.heap.size ≤ b := by
  obtain ⟨_, h1, h2, a, _, l1, _, _⟩ := h
  exact (own_some (l1 _ _ a)).1

theorem Holds.apart {b c : Nat} {o p : Obj} (h : Holds B (blk b o :: blk c p :: Γ) w) : b ≠ c := by
  rintro rfl
  obtain ⟨_, h1, h2, a, ⟨h3, h4, a', _, l3, _, _⟩, l1, _, d⟩ := h
  rcases d b with e | e
  · unfold blk at a; rw [e] at a; cases a
  · have := l3 _ _ a'; rw [e] at this; cases this

theorem own_push_le (B w : World) (o : Obj) : (own B w).le (own B { w with heap := w.heap.push o }) := fun b p e => by
  obtain ⟨hb, e⟩ := own_some e
  have hlt : b < w.heap.size := (Array.getElem?_eq_some_iff.1 e).1
  unfold own
  rw [if_neg (by omega)]
  show (w.heap.push o)[b]? = _
  rw [Array.getElem?_push, if_neg (by omega)]; exact e

theorem below_push (h : Below B.heap.size B w) (o : Obj) : Below B.heap.size B { w with heap := w.heap.push o } := h.alloc h.size o

/-- A new block. -/
theorem Holds.alloc (h : Holds B Γ w) (o : Obj) : Holds B (blk w.heap.size o :: Γ) { w with heap := w.heap.push o } := by
  refine ⟨below_push h.below o, Hp.one w.heap.size o, own B w, by simp [blk, Hp.one], h.stars, ?_, own_push_le B w o, ?_⟩
  · intro b p e
    unfold Hp.one at e
    split at e
    · rename_i hb; subst hb; cases e
      unfold own
      rw [if_neg (by have := h.below.size; omega)]
      show (w.heap.push o)[w.heap.size]? = _
      simp
    · cases e
  · intro b
    by_cases hb : b = w.heap.size
    · right; unfold own; split
      · rfl
      · subst hb; simp
    · left; simp [Hp.one, hb]

/-- A block is laid anew. -/
theorem Holds.setBlock {b : Nat} {o o' : Obj} (h : Holds B (blk b o :: Γ) w) {w' : World} (hw : w' = { w with heap := w.heap.setIfInBounds b o' }) : Holds B (blk b o' :: Γ) w' := by
  subst hw
  have hblock := h.block
  have hlt : b < w.heap.size := (Array.getElem?_eq_some_iff.1 hblock).1
  have hbase := h.base
  obtain ⟨hbelow, h1, h2, a, b2, l1, l2, d⟩ := h
  refine ⟨⟨hbelow.os, hbelow.tape, hbelow.output, by simpa using hbelow.size, fun k hk => ?_⟩, Hp.one b o', h2, by simp [blk, Hp.one], b2, ?_, ?_, ?_⟩
  · show (w.heap.setIfInBounds b o')[k]? = _
    rw [Array.getElem?_setIfInBounds_ne (by omega)]; exact hbelow.block k hk
  · intro c p e
    unfold Hp.one at e
    split at e
    · rename_i hc; subst hc; cases e
      unfold own; rw [if_neg (by omega)]
      show (w.heap.setIfInBounds c o')[c]? = _
      simp [hlt]
    · cases e
  · intro c p e
    have hne : c ≠ b := by
      rintro rfl
      rcases d c with e' | e'
      · unfold blk at a; rw [e'] at a; cases a
      · rw [e'] at e; cases e
    obtain ⟨hc, e⟩ := own_some (l2 _ _ e)
    unfold own; rw [if_neg (by omega)]
    show (w.heap.setIfInBounds b o')[c]? = _
    rw [Array.getElem?_setIfInBounds_ne (by omega)]; exact e
  · intro c
    by_cases hc : c = b
    · subst hc
      rcases d c with e' | e'
      · unfold blk at a; rw [e'] at a; cases a
      · right; exact e'
    · left; simp [Hp.one, hc]

/-- A draw, or whatever else leaves the heap. -/
theorem Holds.heap_eq (h : Holds B Γ w) {w' : World} (hh : w'.heap = w.heap) (ho : w'.os = w.os) (ht : w'.tape = w.tape) (hp : w'.output = w.output) : Holds B Γ w' := by
  refine ⟨⟨ho.trans h.below.os, ht.trans h.below.tape, hp.trans h.below.output, by rw [hh]; exact h.below.size, fun k hk => by rw [hh]; exact h.below.block k hk⟩, ?_⟩
  have : own B w' = own B w := by funext b; simp [own, hh]
  rw [this]; exact h.stars

theorem Holds.drew (h : Holds B Γ w) (n : Nat) : Holds B Γ { w with drawn := n } := h.heap_eq rfl rfl rfl rfl

/-- A block of the base world reads as it did. -/
theorem Holds.old (h : Holds B Γ w) {b : Nat} {o : Obj} (hb : B.heap[b]? = some o) : w.heap[b]? = some o := by
  have hlt : b < B.heap.size := (Array.getElem?_eq_some_iff.1 hb).1
  rw [h.below.block b hlt]; exact hb
end
end Go.Sep
