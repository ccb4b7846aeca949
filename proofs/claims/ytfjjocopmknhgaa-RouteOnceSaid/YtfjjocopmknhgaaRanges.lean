/- Ranges over a function, in a walk: of some variables, left by a jump or not. Holds for every program. -/
import Derived.Test.YtfjjocopmknhgaaWalk3
namespace Go.Sep
open Go
set_option linter.unusedSimpArgs false
set_option linter.unusedVariables false

def jumpC : Exit → Code
  | .exit i => .exit i
  | _ => .ret
/-- A round begins. -/
def BeginR (l : Nat) (r : Loop) (k : K) : K := fun w => w.heap[l]? = some (.loop r) ∧ k (w.putObj l (.loop { r with state := .busy }))
/-- A round is left by a jump. -/
def StopR (l : Nat) (r : Loop) (J : Exit) (k : K) : K := fun w => w.heap[l]? = some (.loop r) ∧ k (w.putObj l (.loop { r with state := .done, pending := some (jumpC J) }))
def YN (kN kJ : K) : Value → K := fun v w => (v = .bool true ∧ kN w) ∨ (v = .bool false ∧ kJ w)
def RangeJ {α : Type} (P : Program) (fv : Value) (J : Exit) (cX : α → List Value) (body : (K → K) → K → K → α → K) (after afterJ : Nat → K) : K := fun w =>
  ∃ g cs, fv = .func (.func g) #[] cs ∧ callable P g = true ∧
    ∀ (r : Loop) (w1 : World), r.state = .ready → r.pending = none → r.defers = w.heap.size → w1 = (w.alloc (.deferred (some []))).alloc (.loop r) →
      (∀ (x : α) (kN kJ : K) (W : World), W.heap[w.heap.size + 1]? = some (.loop r) →
        body (BeginR (w.heap.size + 1) r) (EndR (w.heap.size + 1) { r with state := .busy } kN) (StopR (w.heap.size + 1) { r with state := .busy } J kJ) x W →
        YieldAt Fence.wide 0 P (w.heap.size + 1) (cX x).toArray W (Ret (YN kN kJ))) →
      Calls P g (yv (w.heap.size + 1) :: cs.toList).toArray w1 (Ret fun _ w3 =>
        (w3.heap[w.heap.size + 1]? = some (.loop r) ∧ after w.heap.size (w3.putObj (w.heap.size + 1) (.loop { r with state := .exhausted }))) ∨
        (w3.heap[w.heap.size + 1]? = some (.loop { r with state := .done, pending := some (jumpC J) }) ∧ afterJ w.heap.size (w3.putObj (w.heap.size + 1) (.loop { r with state := .exhausted, pending := some (jumpC J) }))))

def FQ : Exit → Act → World → Prop := fun _ _ _ => False
/-- How a round's body is left. -/
def RQ (J : Exit) (kN kJ : K) : Exit → Act → World → Prop := fun e _ w => match e with
  | .normal => kN w
  | .ret => J = .ret ∧ kJ w
  | .exit i => J = .exit i ∧ kJ w
  | _ => False
def Bx (kb k : K) (r : Option Nat) (P : Program) (body : Code) (Q : Exit → Act → World → Prop) : Act → World → Prop := fun a w => k w ∧ ∀ w, kb w → body.wpIn (fe r) 0 P Q a w
def Bj (BG : K → K) (r : Option Nat) (P : Program) (body : Code) (Q : Exit → Act → World → Prop) : Act → World → Prop := fun a w => ∃ k, BG k w ∧ ∀ w, k w → body.wpIn (fe r) 0 P Q a w
def zipS : List Nat → List Value → List (Nat × Value) → List (Nat × Value)
  | p :: ps, v :: vs, σ => zipS ps vs ((p, v) :: σ)
  | _, _, σ => σ

section
variable {P : Program} {dl : List Deferred} {n : Nat} {σ τ : List (Nat × Value)} {k kb : K} {r : Option Nat} {Q : Exit → Act → World → Prop} {body assign : Code} {a : Act} {w : World}
theorem bx_b (h : G dl n σ kb (Cx r P body Q)) : G dl n σ k (Bx kb k r P body Q) := fun a _ hs hk => ⟨hk, fun w hk => h a w hs hk⟩
theorem bj_b {BG : K → K} (h : G dl n σ k (Cx r P body Q)) : G dl n σ (BG k) (Bj BG r P body Q) := fun a w hs hk => ⟨k, hk, fun w hk => h a w hs hk⟩
theorem rq_n {J : Exit} {kJ : K} : G dl n σ k (Ex (RQ J k kJ) .normal) := fun _ _ _ hk => hk
theorem rq_r {kN : K} : G dl n σ k (Ex (RQ .ret kN k) .ret) := fun _ _ _ hk => ⟨rfl, hk⟩
theorem rq_x {kN : K} {i : Nat} : G dl n σ k (Ex (RQ (.exit i) kN k) (.exit i)) := fun _ _ _ hk => ⟨rfl, hk⟩

theorem zip_slots : ∀ (ps : List Nat) (vs : List Value) (σ : List (Nat × Value)) (t : Array Value), (ps.all fun p => Nat.ble (p + 1) n) = true → Slots { tmps := t, defers := [] } n σ →
    Slots { tmps := (ps.zip vs).foldl (fun t p => t.setIfInBounds p.1 p.2) t, defers := [] } n (zipS ps vs σ)
  | [], _, _, _, _, h => h
  | p :: ps, [], _, _, _, h => h
  | p :: ps, v :: vs, σ, t, hp, h => by
    simp only [List.all_cons, Bool.and_eq_true] at hp
    have h1 := h.put (Nat.le_of_ble_eq_true hp.1) v
    exact zip_slots ps vs _ _ hp.2 h1

theorem cx_rangeJ {α : Type} {g : Operand} {ps : List Tmp} {fv : Value} {J : Exit} {cX : α → List Value} {bk : (K → K) → K → K → α → K} {after afterJ : Nat → K}
    (h1 : ∀ (l : Nat) (BG : K → K) (KN KJ : K) (x : α), G [] n (zipS ps (cX x) σ) (bk BG KN KJ x) (Cx (some l) P assign (Exit.then (Bj BG (some l) P body (RQ J KN KJ)) FQ)))
    (h2 : ∀ D, G (markD D) n σ (after D) (Ex Q .normal)) (h3 : ∀ D, G (markD D) n σ (afterJ D) (Ex Q J)) (hg : ev σ g = some fv := by rfl) (hp : (ps.all fun p => Nat.ble (p + 1) n) = true := by rfl) (hlen : ∀ x, (cX x).length = ps.length := by exact fun _ => rfl) (hJ : J = .ret ∨ ∃ i, J = .exit i := by first | exact .inl rfl | exact .inr ⟨_, rfl⟩) :
    G [] n σ (RangeJ P fv J cX bk after afterJ) (Cx none P (.rangeFunc g ps.toArray assign body) Q) := fun a w hs ⟨gf, cs, hfv, hcb, h⟩ => by
  show (Code.rangeFunc g ps.toArray assign body).wpIn Fence.wide 0 P Q a w
  refine wpIn_rangeFunc fun fn hfn => ?_
  obtain ⟨r, hr⟩ : ∃ r : Loop, r = { state := .ready, pending := none, fn, tmps := a.tmps, params := ps.toArray, assign, body, defers := w.heap.size } := ⟨_, rfl⟩
  have hh := h r _ (by rw [hr]) (by rw [hr]) (by rw [hr]) rfl
  refine ⟨w.heap.size + 1, markD w.heap.size, (w.alloc (.deferred (some []))).alloc (.loop r), { target := .fn (.func gf) cs, args := #[.func (.yield (w.heap.size + 1)) #[] #[]] }, (w.alloc (.deferred (some []))).alloc (.loop r), gf,
    (yv (w.heap.size + 1) :: cs.toList).toArray, (w.alloc (.deferred (some []))).alloc (.loop r), ?_, ?_, fun _ _ => trivial, ?_, (fun h => by cases h), ?_⟩
  · rw [hr]; exact run_enterLoop_outer _ _ _ _ _
  · have he : a.eval g = .func (.func gf) #[] cs := by rw [← hfv]; exact hs.1.ev hg
    simp only [resolve, he]
    simp [go_sem]
  · simp [invoke, run_callFunc hcb]
  · refine callsIn_free free_wide rfl ((hh ?_).mono fun e w3 he => ?_)
    · intro x kN kJ W hl hb
      refine ⟨fn, _, assign, body, (run_yield (P := P) (args := (cX x).toArray) hl (by rw [hr]; simp [hlen])).trans (by rw [hr]), ?_⟩
      refine roundIn_of_wpIn trivial ?_
      have hs1 := zip_slots ps (cX x) σ a.tmps hp (show Slots { tmps := a.tmps, defers := [] } n σ from by have := hs.1; exact this)
      have h4 := h1 (w.heap.size + 1) _ _ _ x { tmps := (ps.zip (cX x)).foldl (fun t p => t.setIfInBounds p.1 p.2) a.tmps, defers := [] } W ⟨hs1, rfl⟩ hb
      have h5 : assign.wpIn (Fence.wide.inRound (w.heap.size + 1)) 0 P (Exit.then (Bj (BeginR (w.heap.size + 1) r) (some (w.heap.size + 1)) P body (RQ J (EndR (w.heap.size + 1) { r with state := .busy } kN) (StopR (w.heap.size + 1) { r with state := .busy } J kJ))) FQ)
          { tmps := (ps.toArray.zip (cX x).toArray).foldl (fun t p => t.setIfInBounds p.1 p.2) a.tmps, defers := [] } W := by
        have : (ps.toArray.zip (cX x).toArray).foldl (fun t p => t.setIfInBounds p.1 p.2) a.tmps = (ps.zip (cX x)).foldl (fun t p => t.setIfInBounds p.1 p.2) a.tmps := by simp
        rw [this]; exact h4
      refine wpIn_mono h5 fun e a2 w2 hq => ?_
      cases e with
      | normal =>
        obtain ⟨kk, hk, hbd⟩ := hq
        refine ⟨_, run_beginRound hk.1 (by rw [hr]), ?_⟩
        refine wpIn_mono (hbd _ hk.2) fun e a3 w3 hq => ?_
        cases e with
        | normal =>
          obtain ⟨h3, h4⟩ := hq
          exact ⟨_, _, run_endRound none h3, .inl ⟨rfl, h4⟩⟩
        | ret =>
          obtain ⟨rfl, h3, h4⟩ := hq
          exact ⟨_, _, run_endRound (some .ret) h3, .inr ⟨rfl, h4⟩⟩
        | exit i =>
          obtain ⟨rfl, h3, h4⟩ := hq
          exact ⟨_, _, run_endRound (some (.exit i)) h3, .inr ⟨rfl, h4⟩⟩
        | goto t => exact hq.elim
        | panic c => exact hq.elim
        | outgrown => exact hq.elim
      | _ => exact hq.elim
    · cases e with
      | returned v =>
        have hn : r.pending = none := by rw [hr]
        rcases he with ⟨h3', h4⟩ | ⟨h3', h4⟩
        · refine ⟨_, _, run_endLoop h3' (by rw [hr]; simp), ?_⟩
          have h5 := h2 _ { a with defers := markD w.heap.size ++ a.defers } _ ⟨hs.1, by simp [hs.2, markD]⟩ h4
          rw [hn] at h5 ⊢
          exact h5
        · refine ⟨_, _, run_endLoop h3' (by simp), ?_⟩
          have h5 := h3 _ { a with defers := markD w.heap.size ++ a.defers } _ ⟨hs.1, by simp [hs.2, markD]⟩ h4
          rcases hJ with rfl | ⟨i, rfl⟩
          · exact wpIn_ret h5
          · exact wpIn_exit h5
      | panicked c => exact he.elim
      | outgrown => exact he.elim

theorem cx_rangeF {α : Type} {g : Operand} {p : Tmp} {fv : Value} {cX : α → Value} {bk : K → α → K} {after : Nat → K}
    (h1 : ∀ (l : Nat) (KN : K) (x : α) (k1 : K), G [] n ((p, cX x) :: σ) k1 (Cx (some l) P assign (Exit.then (Bx (bk KN x) k1 (some l) P body (RQ .normal KN Dead)) FQ)))
    (h2 : ∀ D, G (markD D) n σ (after D) (Ex Q .normal)) (hg : ev σ g = some fv := by rfl) (hp : Nat.ble (p + 1) n = true := by rfl) :
    G [] n σ (RangeF P fv cX bk after) (Cx none P (.rangeFunc g #[p] assign body) Q) := fun a w hs ⟨gf, cs, hfv, hcb, h⟩ => by
  show (Code.rangeFunc g #[p] assign body).wpIn Fence.wide 0 P Q a w
  refine wpIn_rangeFunc fun fn hfn => ?_
  obtain ⟨r, hr⟩ : ∃ r : Loop, r = { state := .ready, pending := none, fn, tmps := a.tmps, params := #[p], assign, body, defers := w.heap.size } := ⟨_, rfl⟩
  have hh := h r _ (by rw [hr]) (by rw [hr]) (by rw [hr]) rfl
  refine ⟨w.heap.size + 1, markD w.heap.size, (w.alloc (.deferred (some []))).alloc (.loop r), { target := .fn (.func gf) cs, args := #[.func (.yield (w.heap.size + 1)) #[] #[]] }, (w.alloc (.deferred (some []))).alloc (.loop r), gf,
    (yv (w.heap.size + 1) :: cs.toList).toArray, (w.alloc (.deferred (some []))).alloc (.loop r), ?_, ?_, fun _ _ => trivial, ?_, (fun h => by cases h), ?_⟩
  · rw [hr]; exact run_enterLoop_outer _ _ _ _ _
  · have he : a.eval g = .func (.func gf) #[] cs := by rw [← hfv]; exact hs.1.ev hg
    simp only [resolve, he]
    simp [go_sem]
  · simp [invoke, run_callFunc hcb]
  · refine callsIn_free free_wide rfl ((hh ?_).mono fun e w3 he => ?_)
    · intro x kN W hl hb
      refine ⟨fn, _, assign, body, (run_yield (P := P) (args := #[cX x]) hl (by rw [hr]; rfl)).trans (by rw [hr]), ?_⟩
      refine roundIn_of_wpIn trivial ?_
      have hs1 : SlotsD [] { tmps := a.tmps.setIfInBounds p (cX x), defers := [] } n ((p, cX x) :: σ) := by
        have := hs.1.put (Nat.le_of_ble_eq_true hp) (cX x)
        exact ⟨this, rfl⟩
      have h4 := h1 (w.heap.size + 1) (EndR (w.heap.size + 1) { r with state := .busy } kN) x (fun w => w = W) _ W hs1 rfl
      refine wpIn_mono (show assign.wpIn (Fence.wide.inRound (w.heap.size + 1)) 0 P _ _ W from by simp only [Cx] at h4; simpa using h4) fun e a2 w2 hq => ?_
      cases e with
      | normal =>
        obtain ⟨rfl, hbd⟩ := hq
        refine ⟨_, run_beginRound hl (by rw [hr]), ?_⟩
        refine wpIn_mono (hbd _ hb) fun e a3 w3 hq => ?_
        cases e with
        | normal =>
          obtain ⟨h3, h4⟩ := hq
          exact ⟨_, _, run_endRound none h3, rfl, h4⟩
        | ret => exact absurd hq.1 (by simp)
        | exit i => exact absurd hq.1 (by simp)
        | _ => exact hq.elim
      | _ => exact hq.elim
    · cases e with
      | returned v =>
        have hn : r.pending = none := by rw [hr]
        obtain ⟨h3, h4⟩ := he
        refine ⟨_, _, run_endLoop h3 (by rw [hr]; simp), ?_⟩
        have h5 := h2 _ { a with defers := markD w.heap.size ++ a.defers } _ ⟨hs.1, by simp [hs.2, markD]⟩ h4
        rw [hn] at h5 ⊢
        exact h5
      | panicked c => exact he.elim
      | outgrown => exact he.elim
end
end Go.Sep
