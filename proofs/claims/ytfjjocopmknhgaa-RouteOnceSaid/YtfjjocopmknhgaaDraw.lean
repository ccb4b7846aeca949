/- A region whose order is drawn, of code that may call yield: what yields the same in every world of S is taken first. Holds for every program. -/
import Derived.Test.YtfjjocopmknhgaaRounds
import Derived.OrdersIn
import Derived.Test.YtfjjocopmknhgaaSteps
namespace Go.Sep
open Go
section
variable {P : Program} {ops : Array Oper} {Q : Exit → Act → World → Prop} {S : World → Prop} {o : Oper} {a : Act} {w w' : World} {v : Value} {fuel : Nat} {listed : Array Bool}
abbrev opW (P : Program) (ops : Array Oper) (Q : Exit → Act → World → Prop) := wpOpIn Fence.wide 0 P ops Q

theorem yi_op {i : Nat} (hi : ops[i]? = some o) (hy : YieldsIf P ops S o v a) {K : Act → World → Prop} (hS : S w) (h : K (a.put o.dst v) w) : opW P ops Q i K a w := by
  unfold opW Go.wpOpIn
  simp only [hi]
  rcases hy with ⟨hw, hv⟩ | ⟨hw, rfl⟩
  · simp only [hw, if_true, Oper.wpIn]
    refine ⟨fun _ _ => trivial, ?_⟩
    show o.uponIn Fence.wide 0 P a K Q ((o.semAt none a.eval).run P w)
    rw [Oper.semAt_none, hv w hS]; exact h
  · simp only [hw, Bool.false_eq_true, if_false]; exact ⟨fun _ _ => trivial, h⟩

theorem opW_put {j : Nat} {oi oj : Oper} (hj : ops[j]? = some oj) (hap : oi.apart ops oj = true) (hsi : ∀ cs b, oi.op ≠ .select cs b) (hsj : ∀ cs b, oj.op ≠ .select cs b)
    (hQ : ∀ c a w, Q (.panic c) (a.put oi.dst v) w → Q (.panic c) a w) {K : Act → World → Prop} (hy : YieldsIf P ops S oi v a) (h : opW P ops Q j K (a.put oi.dst v) w) :
    opW P ops Q j (fun a' w' => YieldsIf P ops S oi v a' ∧ K (a'.put oi.dst v) w') a w := by
  obtain ⟨h1, h2, h3⟩ := Oper.apart_spec hap
  have keep : ∀ (a : Act), YieldsIf P ops S oi v a → ∀ u, YieldsIf P ops S oi v (a.put oj.dst u) := fun a hy u =>
    hy.of_same (execOp_put oi hsi a oj.dst u h3) (wanted_put oi a oj.dst u h3)
  have keepD : ∀ d, YieldsIf P ops S oi v { a with defers := d :: a.defers } := fun d => hy.of_same rfl rfl
  unfold opW wpOpIn at *
  simp only [hj] at *
  rw [wanted_put oj a oi.dst v h1] at h
  split
  · rename_i hw
    simp only [hw, if_true] at h
    unfold Oper.wpIn at *
    refine ⟨fun _ _ => trivial, ?_⟩
    have h := h.2
    have hro : Fence.wide.round = none := rfl
    rw [hro, Oper.semAt_none, execOp_put oj hsj a oi.dst v h1] at h
    rw [hro, Oper.semAt_none]
    generalize (execOp a.eval oj).run P w = r at *
    cases r with
    | ok x w' =>
      cases x <;> simp only [Oper.uponIn] at h ⊢
      case value u => exact ⟨keep a hy u, by rw [← Act.put_comm a v u h2]; exact h⟩
      case skip => exact ⟨keep a hy _, by rw [← Act.put_comm a v undef h2]; exact h⟩
      case defer d =>
        refine ⟨keep _ (keepD d) _, ?_⟩
        rw [← Act.put_comm _ v undef h2, ← Act.put_defers]
        exact h
      case enter f args =>
        refine ⟨h.1, CallsIn.mono h.2 fun e w'' he => ?_⟩
        cases e with
        | returned u => exact ⟨keep a hy u, by rw [← Act.put_comm a v u h2]; exact he⟩
        | panicked c => exact hQ _ _ _ he
        | outgrown => exact he
      case row row args => exact ⟨h.1, RowsIn.mono h.2 fun u w'' he => ⟨keep a hy u, by rw [← Act.put_comm a v u h2]; exact he⟩⟩
      case round l f tmps assign body =>
        refine ⟨h.1, RoundIn.mono h.2 fun e w'' he => ?_⟩
        cases e with
        | returned u => exact ⟨keep a hy u, by rw [← Act.put_comm a v u h2]; exact he⟩
        | panicked c => exact hQ _ _ _ he
        | outgrown => exact he
    | halt x w' =>
      cases x <;> simp only [Oper.uponIn] at h ⊢
      case panic u => exact hQ _ _ _ h
  · rename_i hw
    simp only [hw] at h
    exact ⟨fun _ _ => trivial, keep a hy _, by rw [← Act.put_comm a v undef h2]; exact h.2⟩

/-- Has none of ds come up? -/
def alive (ds : List Nat) (l : Array Bool) : Bool := ds.all fun d => !l.getD d false

/-- Any order from here on; until one of ds has come up S holds behind every operation. -/
def wpAnyD (P : Program) (ops : Array Oper) (Q : Exit → Act → World → Prop) (S : World → Prop) (ds : List Nat) : Nat → Array Bool → Act → World → Prop
  | 0, listed, a, w => Region.ready .any ops listed = [] ∧ Q .normal a w
  | fuel + 1, listed, a, w =>
    (Region.ready .any ops listed = [] → Q .normal a w) ∧
    ∀ i ∈ Region.ready .any ops listed, opW P ops Q i (fun a' w' => (alive ds listed = true → i ∉ ds → S w → S w') ∧ wpAnyD P ops Q S ds fuel (listed.setIfInBounds i true) a' w') a w

variable {ds : List Nat}
theorem wpAnyIn_of_D : ∀ (fuel : Nat) (listed : Array Bool) (a : Act) (w : World), wpAnyD P ops Q S ds fuel listed a w → wpAnyIn Fence.wide 0 P .any ops Q fuel listed a w
  | 0, _, _, _, h => h
  | fuel + 1, _, _, _, h => ⟨h.1, fun i hi => wpOpIn_mono (fun a' w' h' => wpAnyIn_of_D fuel _ a' w' h'.2) (h.2 i hi)⟩

/-- Fewer behind which S is asked no more: more is said. -/
theorem wpAnyD_ds {ds' : List Nat} (hsub : ∀ d ∈ ds', d ∈ ds) : ∀ (fuel : Nat) (listed : Array Bool) (a : Act) (w : World), wpAnyD P ops Q S ds' fuel listed a w → wpAnyD P ops Q S ds fuel listed a w
  | 0, _, _, _, h => h
  | fuel + 1, _, _, _, h => ⟨h.1, fun i hi => wpOpIn_mono (fun a' w' h' => ⟨fun hal hid => h'.1 (List.all_eq_true.2 fun d hd => List.all_eq_true.1 hal d (hsub d hd)) (fun hm => hid (hsub i hm)), wpAnyD_ds hsub fuel _ a' w' h'.2⟩) (h.2 i hi)⟩
theorem alive_set {l : Array Bool} {i : Nat} (hi : i ∉ ds) (h : alive ds l = true) : alive ds (l.setIfInBounds i true) = true := by
  refine List.all_eq_true.2 fun d hd => ?_
  have := List.all_eq_true.1 h d hd
  have hne : i ≠ d := fun e => hi (e ▸ hd)
  rw [getD_set_ne false hne]; exact this

theorem wpAnyD_first {T : World → Prop} {i : Nat} {oi : Oper} (hi : ops[i]? = some oi) (hid : i ∉ ds) (hsel : ∀ (j : Nat) (o : Oper) cs b, ops[j]? = some o → o.op ≠ .select cs b) (hQ : Tight Q) :
    ∀ (fuel : Nat) (listed : Array Bool) (a : Act) (w : World),
      (∀ j oj, ops[j]? = some oj → j ≠ i → listed.getD j true = false → (∀ e ∈ oj.after, Region.binds .any e = true → e.on ≠ i) → oi.apart ops oj = true) →
      ((∀ w, T w) ∨ (T = S ∧ Closed ops listed ∧ ∀ d ∈ ds, ∃ n, reach ops i n d = true)) →
      i ∈ Region.ready .any ops listed → YieldsIf P ops T oi v a → T w →
      wpAnyD P ops Q S ds fuel (listed.setIfInBounds i true) (a.put oi.dst v) w → wpAnyD P ops Q S ds (fuel + 1) listed a w := by
  have hQ' : ∀ c a w, Q (.panic c) (a.put oi.dst v) w → Q (.panic c) a w := fun c a w h => absurd h (hQ c _ w)
  intro fuel
  induction fuel with
  | zero =>
    intro listed a w _ _ hr hy hT H
    refine ⟨fun h => (by rw [h] at hr; cases hr), fun j hj => ?_⟩
    by_cases hji : j = i
    · subst hji; exact yi_op hi hy hT ⟨fun _ _ h => h, H⟩
    · have := ready_mono hj hji
      rw [H.1] at this
      cases this
  | succ fuel ih =>
    intro listed a w hfree hlast hr hy hT H
    refine ⟨fun h => (by rw [h] at hr; cases hr), fun j hj => ?_⟩
    by_cases hji : j = i
    · subst hji; exact yi_op hi hy hT ⟨fun _ _ h => h, H⟩
    · have h1 := H.2 j (ready_mono hj hji)
      obtain ⟨hjun, oj, hoj, hall⟩ := mem_ready.1 hj
      have hi0 : listed.getD i true = false := (mem_ready.1 hr).1
      have hi1 : listed.getD i false = false := by
        rcases Nat.lt_or_ge i listed.size with h' | h'
        · simp [h'] at hi0 ⊢; exact hi0
        · simp [Array.getElem?_eq_none h'] at hi0
      have hnot : ∀ e ∈ oj.after, Region.binds .any e = true → e.on ≠ i := fun e he hb heq => by
        have h1 := hall e he hb
        rw [heq, hi1] at h1
        cases h1
      have hTw : ∀ w', (alive ds listed = true → j ∉ ds → S w → S w') → T w' := fun w' h => by
        rcases hlast with hl | ⟨rfl, hcl, hl⟩
        · exact hl w'
        · refine h (List.all_eq_true.2 fun d hd => ?_) (fun hd => ?_) hT
          · cases hld : listed.getD d false with
            | false => rfl
            | true =>
              obtain ⟨n, hn⟩ := hl d hd
              cases hod : ops[d]? with
              | none => cases n <;> simp [reach, hod] at hn
              | some od =>
                have := reach_listed hcl n d od hod (hcl d od hod hld) hn
                rw [hi1] at this; cases this
          · obtain ⟨n, hn⟩ := hl j hd
            have := reach_listed hcl n j oj hoj hall hn
            rw [hi1] at this; cases this
      have h2 := opW_put hoj (hfree j oj hoj hji hjun hnot) (fun cs b => hsel i oi cs b hi) (fun cs b => hsel j oj cs b hoj) hQ' hy h1
      have hun' : ∀ k, (listed.setIfInBounds j true).getD k true = false → listed.getD k true = false := fun k hun => by
        by_cases hjk : j = k
        · subst hjk; exact hjun
        · rw [getD_set_ne true hjk] at hun; exact hun
      refine wpOpIn_mono (fun a' w' h3 => ⟨fun hal => h3.2.1 (alive_set hid hal), ih (listed.setIfInBounds j true) a' w' (fun k ok hk hki hun hno => hfree k ok hk hki (hun' k hun) hno) ?_ (ready_mono hr (Ne.symm hji)) h3.1 (hTw w' fun hal => h3.2.1 (alive_set hid hal)) ?_⟩) h2
      · rcases hlast with hl | ⟨hTS, hcl, hl⟩
        · exact .inl hl
        · exact .inr ⟨hTS, hcl.put hj, hl⟩
      · rw [Array.setIfInBounds_comm _ _ hji]
        exact h3.2.2
end
end Go.Sep
