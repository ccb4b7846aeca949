/- A B-tree's node by its depth, and what put does to it. Holds for every program. -/
import Derived.Test.YtfjjocopmknhgaaBt2
namespace Go.Sep
open Go Go.RowKit
set_option linter.unusedSimpArgs false
set_option linter.unusedVariables false
namespace Bt
section
variable {κ : Type} {G : BtT κ} {c : κ → κ → Int} {B : World} {Γ Δ : List HProp}

/-! ### kids and items in turn -/
abbrev Kid (G : BtT κ) := Nat × List G.It
def ptr (q : Kid G) : Option Addr := some ⟨q.1, 0, none⟩
def psL (q0 : Kid G) (ps : List (G.It × Kid G)) : List G.It := q0.2 ++ ps.flatMap fun p => p.1 :: p.2.2
def preL (l : List (Kid G × G.It)) : List G.It := l.flatMap fun p => p.1.2 ++ [p.2]
def postL (r : List (G.It × Kid G)) : List G.It := r.flatMap fun p => p.1 :: p.2.2
theorem zfwd : ∀ (i : Nat) (q0 : Kid G) (ps : List (G.It × Kid G)), i ≤ ps.length → ∃ l q r, l.length = i ∧ ps.map Prod.fst = l.map Prod.snd ++ r.map Prod.fst ∧ q0 :: ps.map Prod.snd = l.map Prod.fst ++ q :: r.map Prod.snd ∧ psL q0 ps = preL l ++ q.2 ++ postL r
  | 0, q0, ps, _ => ⟨[], q0, ps, rfl, rfl, rfl, by simp [psL, preL, postL]⟩
  | i + 1, q0, [], h => by simp at h
  | i + 1, q0, (x, q1) :: ps, h => by
    obtain ⟨l, q, r, h1, h2, h3, h4⟩ := zfwd i q1 ps (by simpa using h)
    refine ⟨(q0, x) :: l, q, r, by simp [h1], by simp [h2], by simp only [List.map_cons, List.cons_append, ← h3], ?_⟩
    have : psL q0 ((x, q1) :: ps) = q0.2 ++ x :: psL q1 ps := by simp [psL]
    rw [this, h4]
    simp [preL]
theorem zback : ∀ (l : List (Kid G × G.It)) (q : Kid G) (r : List (G.It × Kid G)), ∃ q0 ps, ps.length = l.length + r.length ∧ ps.map Prod.fst = l.map Prod.snd ++ r.map Prod.fst ∧ q0 :: ps.map Prod.snd = l.map Prod.fst ++ q :: r.map Prod.snd ∧ psL q0 ps = preL l ++ q.2 ++ postL r
  | [], q, r => ⟨q, r, by simp, rfl, rfl, by simp [psL, preL, postL]⟩
  | (p, x) :: l, q, r => by
    obtain ⟨q0, ps, h1, h2, h3, h4⟩ := zback l q r
    refine ⟨p, (x, q0) :: ps, by simp [h1]; omega, by simp [h2], by simp only [List.map_cons, List.cons_append, ← h3], ?_⟩
    have : psL p ((x, q0) :: ps) = p.2 ++ x :: psL q0 ps := by simp [psL]
    rw [this, h4]
    simp [preL]
theorem Srt.sub {ν : Type} {L M : List (κ × ν)} (h : Srt c L) (hs : M.Sublist L) : Srt c M := List.Pairwise.sublist hs h
theorem pre_lt (ok : BtOk G c) {k : κ} : ∀ (l : List (Kid G × G.It)), Srt c (preL l) → (∀ x ∈ l.map Prod.snd, c x.1 k < 0) → ∀ y ∈ preL l, c y.1 k < 0
  | [], _, _, y, hy => by simp [preL] at hy
  | (p, x) :: l, hs, h, y, hy => by
    have e : preL ((p, x) :: l) = (p.2 ++ [x]) ++ preL l := rfl
    rw [e] at hs hy
    have hx : c x.1 k < 0 := h x (by simp)
    rcases List.mem_append.1 hy with hy | hy
    · rcases List.mem_append.1 hy with hy | hy
      · have h1 := (List.pairwise_append.1 (List.pairwise_append.1 hs).1).2.2 y hy x (by simp)
        exact ok.tr h1 hx
      · rw [List.mem_singleton.1 hy]; exact hx
    · exact pre_lt ok l (List.pairwise_append.1 hs).2.1 (fun z hz => h z (by simp at hz ⊢; exact .inr hz)) y hy
theorem post_gt (ok : BtOk G c) {k : κ} : ∀ (r : List (G.It × Kid G)), Srt c (postL r) → (∀ x ∈ r.map Prod.fst, c k x.1 < 0) → ∀ y ∈ postL r, c k y.1 < 0
  | [], _, _, y, hy => by simp [postL] at hy
  | (x, q) :: r, hs, h, y, hy => by
    have e : postL ((x, q) :: r) = (x :: q.2) ++ postL r := rfl
    rw [e] at hs hy
    have hx : c k x.1 < 0 := h x (by simp)
    rcases List.mem_append.1 hy with hy | hy
    · rcases List.mem_cons.1 hy with rfl | hy
      · exact hx
      · exact ok.tr hx ((List.pairwise_cons.1 (List.pairwise_append.1 hs).1).1 y hy)
    · exact post_gt ok r (List.pairwise_append.1 hs).2.1 (fun z hz => h z (by simp at hz ⊢; exact .inr hz)) y hy
theorem its_sub (q0 : Kid G) : ∀ (ps : List (G.It × Kid G)), (ps.map Prod.fst).Sublist (psL q0 ps)
  | [] => by simp
  | (x, q) :: ps => by
    have : psL q0 ((x, q) :: ps) = q0.2 ++ x :: psL q ps := by simp [psL]
    rw [this, List.map_cons]
    exact ((its_sub q ps).cons_cons x).trans (List.sublist_append_right _ _)

/-! ### what put tells -/
def PutR (c : κ → κ → Int) {ν : Type} (z : ν) (L : List (κ × ν)) (k : κ) (v : ν) (L' : List (κ × ν)) (old : ν) (had : Bool) : Prop :=
  (∃ A C, L = A ++ (k, old) :: C ∧ L' = A ++ (k, v) :: C ∧ had = true) ∨ (∃ A C, L = A ++ C ∧ (∀ x ∈ A, c x.1 k < 0) ∧ (∀ x ∈ C, c k x.1 < 0) ∧ L' = A ++ (k, v) :: C ∧ old = z ∧ had = false)
theorem PutR.mid {ν : Type} {z v old : ν} {A C L L' : List (κ × ν)} {k : κ} {had : Bool} (hA : ∀ x ∈ A, c x.1 k < 0) (hC : ∀ x ∈ C, c k x.1 < 0) (h : PutR c z L k v L' old had) : PutR c z (A ++ L ++ C) k v (A ++ L' ++ C) old had := by
  rcases h with ⟨A', C', rfl, rfl, rfl⟩ | ⟨A', C', rfl, h1, h2, rfl, rfl, rfl⟩
  · exact .inl ⟨A ++ A', C' ++ C, by simp, by simp, rfl⟩
  · refine .inr ⟨A ++ A', C' ++ C, by simp, fun x hx => ?_, fun x hx => ?_, by simp, rfl, rfl⟩
    · rcases List.mem_append.1 hx with hx | hx
      · exact hA x hx
      · exact h1 x hx
    · rcases List.mem_append.1 hx with hx | hx
      · exact h2 x hx
      · exact hC x hx

/-! ### a node -/
def NodeR (G : BtT κ) : Nat → Nat → Nat → List G.It → HProp
  | 0, m, b, L => ex fun s => ex fun kd => Sep.stars [pur ((m = 2 → L ≠ []) ∧ L.length ≤ 5), nodeB G b s kd, itsR G s L, kpsR G kd []]
  | d + 1, m, b, L => ex fun s => ex fun kd => ex fun q0 : Kid G => ex fun ps : List (G.It × Kid G) => Sep.stars [pur ((1 ≤ m → ps ≠ []) ∧ ps.length ≤ 5 ∧ L = psL q0 ps), nodeB G b s kd, itsR G s (ps.map Prod.fst), kpsR G kd ((q0 :: ps.map Prod.snd).map ptr),
      Sep.stars ((q0 :: ps.map Prod.snd).map fun q => NodeR G d 2 q.1 q.2)]
instance (priority := high) own_node {d m b : Nat} {L : List G.It} : Own b (NodeR G d m b L :: Γ) (NodeR G d m b L) Γ := ⟨.refl _⟩
theorem s_node0 {m b : Nat} {L : List G.It} {k : K} (h : ∀ s kd, (m = 2 → L ≠ []) → L.length ≤ 5 → HG B (nodeB G b s kd :: itsR G s L :: kpsR G kd [] :: Γ) k) : HG B (NodeR G 0 m b L :: Γ) k :=
  s_conv (A' := ex fun s => ex fun kd => Sep.stars [pur ((m = 2 → L ≠ []) ∧ L.length ≤ 5), nodeB G b s kd, itsR G s L, kpsR G kd []]) (fun _ h => h) <| s_ex fun s => s_ex fun kd => s_flat <| s_pur fun ⟨h1, h2⟩ => h s kd h1 h2
theorem s_mk0 {m b : Nat} {L : List G.It} {k : K} {s kd : Sl} (h1 : m = 2 → L ≠ []) (h2 : L.length ≤ 5) (h : HG B (NodeR G 0 m b L :: Γ) k) : HG B (nodeB G b s kd :: itsR G s L :: kpsR G kd [] :: Γ) k :=
  s_toPur (p := (m = 2 → L ≠ []) ∧ L.length ≤ 5) ⟨h1, h2⟩ <| s_unflat (Δ := [pur ((m = 2 → L ≠ []) ∧ L.length ≤ 5), nodeB G b s kd, itsR G s L, kpsR G kd []]) <| s_toEx (F := fun kd => Sep.stars [pur ((m = 2 → L ≠ []) ∧ L.length ≤ 5), nodeB G b s kd, itsR G s L, kpsR G kd []]) kd <|
    s_toEx (F := fun s => ex fun kd => Sep.stars [pur ((m = 2 → L ≠ []) ∧ L.length ≤ 5), nodeB G b s kd, itsR G s L, kpsR G kd []]) s <| s_conv (fun _ h => h) h
abbrev kidsR (G : BtT κ) (d : Nat) (ks : List (Kid G)) : HProp := Sep.stars (ks.map fun q => NodeR G d 2 q.1 q.2)
theorem s_nodeS {d m b : Nat} {L : List G.It} {k : K} (h : ∀ s kd q0 ps, (1 ≤ m → ps ≠ []) → ps.length ≤ 5 → L = psL q0 ps → HG B (nodeB G b s kd :: itsR G s (ps.map Prod.fst) :: kpsR G kd ((q0 :: ps.map Prod.snd).map ptr) :: kidsR G d (q0 :: ps.map Prod.snd) :: Γ) k) : HG B (NodeR G (d + 1) m b L :: Γ) k :=
  s_conv (A' := ex fun s => ex fun kd => ex fun q0 : Kid G => ex fun ps : List (G.It × Kid G) => Sep.stars [pur ((1 ≤ m → ps ≠ []) ∧ ps.length ≤ 5 ∧ L = psL q0 ps), nodeB G b s kd, itsR G s (ps.map Prod.fst), kpsR G kd ((q0 :: ps.map Prod.snd).map ptr), kidsR G d (q0 :: ps.map Prod.snd)]) (fun _ h => h) <|
    s_ex fun s => s_ex fun kd => s_ex fun q0 => s_ex fun ps => s_flat <| s_pur fun ⟨h1, h2, h3⟩ => h s kd q0 ps h1 h2 h3
theorem s_mkS {d m b : Nat} {q0 : Kid G} {ps : List (G.It × Kid G)} {k : K} {s kd : Sl} (h1 : 1 ≤ m → ps ≠ []) (h2 : ps.length ≤ 5) (h : HG B (NodeR G (d + 1) m b (psL q0 ps) :: Γ) k) :
    HG B (nodeB G b s kd :: itsR G s (ps.map Prod.fst) :: kpsR G kd ((q0 :: ps.map Prod.snd).map ptr) :: kidsR G d (q0 :: ps.map Prod.snd) :: Γ) k := fun w hw => by
  refine h w ?_
  have h3 : Holds B (Sep.stars [pur ((1 ≤ m → ps ≠ []) ∧ ps.length ≤ 5 ∧ psL q0 ps = psL q0 ps), nodeB G b s kd, itsR G s (ps.map Prod.fst), kpsR G kd ((q0 :: ps.map Prod.snd).map ptr), kidsR G d (q0 :: ps.map Prod.snd)] :: Γ) w := Holds.flat.2 (Holds.pur.2 ⟨⟨h1, h2, rfl⟩, hw⟩)
  exact h3.imp fun g hg => ⟨s, kd, q0, ps, hg⟩
/-- One kid among the kids. -/
theorem kid_perm {d : Nat} {A C : List (Kid G)} {q : Kid G} : (((A ++ q :: C).map fun q => NodeR G d 2 q.1 q.2) ++ Γ).Perm (((A ++ C).map fun q => NodeR G d 2 q.1 q.2) ++ NodeR G d 2 q.1 q.2 :: Γ) := by
  have h2 : ((A ++ q :: C).map fun q => NodeR G d 2 q.1 q.2).Perm (NodeR G d 2 q.1 q.2 :: (A ++ C).map fun q => NodeR G d 2 q.1 q.2) := (List.perm_middle (a := q) (l₁ := A) (l₂ := C)).map _
  refine (h2.append_right Γ).trans ?_
  exact (List.perm_middle (a := NodeR G d 2 q.1 q.2) (l₁ := (A ++ C).map fun q => NodeR G d 2 q.1 q.2) (l₂ := Γ)).symm
theorem s_kid {d : Nat} {A C : List (Kid G)} {q : Kid G} {k : K} (h : HG B (NodeR G d 2 q.1 q.2 :: kidsR G d (A ++ C) :: Γ) k) : HG B (kidsR G d (A ++ q :: C) :: Γ) k := fun w hw =>
  h w (Holds.flat.2 ((Holds.flat.1 hw).perm kid_perm)).swap
theorem s_unkid {d : Nat} {A C : List (Kid G)} {q : Kid G} {k : K} (h : HG B (kidsR G d (A ++ q :: C) :: Γ) k) : HG B (NodeR G d 2 q.1 q.2 :: kidsR G d (A ++ C) :: Γ) k := fun w hw =>
  h w (Holds.flat.2 ((Holds.flat.1 hw.swap).perm kid_perm.symm))
end
end Bt
end Go.Sep
