/- Steps of a function's code over a frame of which some slots are known. Holds for every program. -/
import Derived.OrdersHeld
import Derived.Still
import Derived.Tactics
import Derived.Laws.Sem
import Derived.KernelRfl
namespace Go.Sep
open Go

structure Sl where
  a : Option Addr
  n : Nat
  c : Nat
abbrev Sl.val (s : Sl) : Value := .slice s.a s.n s.c

/-- A call's end: it returns, and what is asked of the value and the world behind it holds. -/
def Ret (k : Value → World → Prop) : Ending → World → Prop
  | .returned v, w => k v w
  | _, _ => False

def look : List (Nat × Value) → Nat → Option Value
  | [], _ => none
  | (j, v) :: σ, i => match Nat.beq i j with
    | true => some v
    | false => look σ i

theorem look_cons {p : Nat × Value} {σ : List (Nat × Value)} {i : Nat} : look (p :: σ) i = if i = p.1 then some p.2 else look σ i := by
  obtain ⟨j, u⟩ := p
  show (match Nat.beq i j with | true => some u | false => look σ i) = _
  by_cases h : i = j
  · simp [h]
  · have : Nat.beq i j = false := by
      cases hb : Nat.beq i j with
      | false => rfl
      | true => exact absurd (Nat.eq_of_beq_eq_true hb) h
    simp [this, h]

def ev (σ : List (Nat × Value)) : Operand → Option Value
  | .tmp t => look σ t
  | .const v => some v
  | .global g => some (.pointer (some ⟨g, 0, none⟩))
  | .func f => some (.func (.func f) #[] #[])

structure Slots (a : Act) (n : Nat) (σ : List (Nat × Value)) : Prop where
  size : a.tmps.size = n
  defers : a.defers = []
  at' : ∀ i v, look σ i = some v → a.tmps.getD i undef = v

def Sub (σ : List (Nat × Value)) : List (Nat × Value) → Prop
  | [] => True
  | p :: τ => look σ p.1 = some p.2 ∧ Sub σ τ

theorem Sub.look {σ : List (Nat × Value)} : ∀ {τ : List (Nat × Value)}, Sub σ τ → ∀ i v, look τ i = some v → Sep.look σ i = some v
  | [], _, i, v, h => by simp [Sep.look] at h
  | p :: τ, hs, i, v, h => by
    rw [look_cons] at h
    split at h
    · rename_i e; subst e; cases h; exact hs.1
    · exact Sub.look hs.2 i v h

section
variable {a : Act} {n : Nat} {σ τ : List (Nat × Value)}
theorem Slots.to (h : Slots a n σ) (hs : Sub σ τ) : Slots a n τ := ⟨h.size, h.defers, fun i v e => h.at' i v (hs.look i v e)⟩
theorem Slots.ev (h : Slots a n σ) {x : Operand} {v : Value} (hx : Sep.ev σ x = some v) : a.eval x = v := by
  cases x with
  | tmp t => exact h.at' _ _ hx
  | const u => exact Option.some.inj hx
  | global g => exact Option.some.inj hx
  | func f => exact Option.some.inj hx
theorem Slots.put (h : Slots a n σ) {d : Nat} (hd : d < n) (v : Value) : Slots (a.put (some d) v) n ((d, v) :: σ) := by
  refine ⟨by simp [Act.put, h.size], h.defers, fun i u e => ?_⟩
  rw [look_cons] at e
  split at e
  · rename_i hi; simp only at hi; subst hi; cases e
    have : i < a.tmps.size := by rw [h.size]; exact hd
    simp [Act.put, this]
  · rename_i hi
    have := h.at' i u e
    simpa [Act.put, Array.getElem?_setIfInBounds_ne (Ne.symm hi)] using this
theorem Slots.put_none (h : Slots a n σ) (v : Value) : Slots (a.put none v) n σ := h
theorem Slots.init (args : List Value) (n : Nat) (hn : args.length ≤ n) : Slots { tmps := args.toArray ++ Array.replicate (n - args.toArray.size) undef, defers := [] } n (args.zipIdx.map fun p => (p.2, p.1)) := by
  refine ⟨by simp; omega, rfl, fun i v e => ?_⟩
  have key : ∀ (l : List Value) (k i : Nat) (v : Value), look ((l.zipIdx k).map fun p => (p.2, p.1)) i = some v → k ≤ i ∧ l[i - k]? = some v := by
    intro l
    induction l with
    | nil => intro k i v e; simp [look] at e
    | cons x l ih =>
      intro k i v e
      simp only [List.zipIdx_cons, List.map_cons] at e
      rw [look_cons] at e
      split at e
      · rename_i hi; simp only at hi; subst hi; cases e; simp
      · rename_i hi
        obtain ⟨h1, h2⟩ := ih _ _ _ e
        refine ⟨by omega, ?_⟩
        rw [show i - k = (i - (k + 1)) + 1 by omega]; simpa using h2
  obtain ⟨_, h2⟩ := key args 0 i v e
  simp only [Nat.sub_zero] at h2
  have hlt : i < args.length := (List.getElem?_eq_some_iff.1 h2).1
  have h3 := (List.getElem?_eq_some_iff.1 h2).2
  simp [Array.getElem?_append, hlt, h3]
end

section
variable {P : Program} {ops : Array Oper} {Q : Exit → Act → World → Prop} {rest : List Oper} {o : Oper} {a : Act} {n : Nat} {σ : List (Nat × Value)} {w w' : World} {v : Value}

/-- In every frame that bears these slots, in every world, the operation yields v. -/
def Pure (P : Program) (σ : List (Nat × Value)) (o : Oper) (v : Value) : Prop :=
  ∀ (a : Act) (n : Nat), Slots a n σ → ∀ w, (execOp a.eval o).run P w = .ok (.value v) w

def Eff (P : Program) (σ : List (Nat × Value)) (o : Oper) (w : World) (x : Next) (w' : World) : Prop :=
  ∀ (a : Act) (n : Nat), Slots a n σ → (execOp a.eval o).run P w = .ok x w'

theorem Pure.eff (h : Pure P σ o v) (w : World) : Eff P σ o w (.value v) w := fun a n hs => h a n hs w

/-! ### in the text's order -/
theorem t_eff (hs : Slots a n σ) {d : Nat} (hg : o.guard = none) (hd : o.dst = some d) (hn : d < n) (hp : Eff P σ o w (.value v) w')
    (hk : ∀ a, Slots a n ((d, v) :: σ) → wpList P ops Q rest a w') : wpList P ops Q (o :: rest) a w := by
  unfold wpList
  rw [if_pos (by simp [Region.wanted, hg])]
  left
  unfold Oper.wp
  rw [hp a n hs, Oper.upon_value, hd]
  exact hk _ (hs.put hn v)

theorem t_pure (hs : Slots a n σ) {d : Nat} (hg : o.guard = none) (hd : o.dst = some d) (hn : d < n) (hp : Pure P σ o v)
    (hk : ∀ a, Slots a n ((d, v) :: σ) → wpList P ops Q rest a w) : wpList P ops Q (o :: rest) a w :=
  t_eff hs hg hd hn (hp.eff w) hk

theorem t_skip (hs : Slots a n σ) (hg : o.guard = none) (hd : o.dst = none) (hp : Eff P σ o w .skip w')
    (hk : ∀ a, Slots a n σ → wpList P ops Q rest a w') : wpList P ops Q (o :: rest) a w := by
  unfold wpList
  rw [if_pos (by simp [Region.wanted, hg])]
  left
  unfold Oper.wp
  rw [hp a n hs, Oper.upon_skip, hd]
  exact hk _ hs

theorem t_none (hs : Slots a n σ) (hg : o.guard = none) (hd : o.dst = none) (hp : Eff P σ o w (.value v) w')
    (hk : ∀ a, Slots a n σ → wpList P ops Q rest a w') : wpList P ops Q (o :: rest) a w := by
  unfold wpList
  rw [if_pos (by simp [Region.wanted, hg])]
  left
  unfold Oper.wp
  rw [hp a n hs, Oper.upon_value, hd]
  exact hk _ hs

theorem t_call (hs : Slots a n σ) {d : Nat} {f : FuncId} {args : Array Value} {k : Value → World → Prop} (hg : o.guard = none) (hd : o.dst = some d) (hn : d < n) (hp : Eff P σ o w (.enter f args) w')
    (hc : Calls P f args w' (Ret k)) (hk : ∀ v a w, k v w → Slots a n ((d, v) :: σ) → wpList P ops Q rest a w) : wpList P ops Q (o :: rest) a w := by
  unfold wpList
  rw [if_pos (by simp [Region.wanted, hg])]
  left
  unfold Oper.wp
  rw [hp a n hs, Oper.upon_enter]
  refine hc.mono fun e w'' he => ?_
  cases e with
  | returned v => rw [hd]; exact hk v _ w'' he (hs.put hn v)
  | panicked c => exact he.elim
  | outgrown => exact he.elim

theorem t_call_none (hs : Slots a n σ) {f : FuncId} {args : Array Value} {k : Value → World → Prop} (hg : o.guard = none) (hd : o.dst = none) (hp : Eff P σ o w (.enter f args) w')
    (hc : Calls P f args w' (Ret k)) (hk : ∀ v a w, k v w → Slots a n σ → wpList P ops Q rest a w) : wpList P ops Q (o :: rest) a w := by
  unfold wpList
  rw [if_pos (by simp [Region.wanted, hg])]
  left
  unfold Oper.wp
  rw [hp a n hs, Oper.upon_enter]
  refine hc.mono fun e w'' he => ?_
  cases e with
  | returned v => rw [hd]; exact hk v _ w'' he hs
  | panicked c => exact he.elim
  | outgrown => exact he.elim

/-! ### guards -/
def wants (ops : Array Oper) (σ : List (Nat × Value)) (o : Oper) : Option Bool :=
  match o.guard with
  | none => some true
  | some (j, want) => match (ops[j]?).bind (·.dst) with
    | none => some false
    | some t => match look σ t with
      | some v => match v with
        | .bool b => some (b == want)
        | _ => some false
      | none => none

theorem wants_wanted (hs : Slots a n σ) {b : Bool} (h : wants ops σ o = some b) : Region.wanted o (yielded ops a.tmps) = b := by
  unfold wants at h
  unfold Region.wanted
  split at h
  · rename_i hg; simp only [hg]; simpa using h
  · rename_i j want hg
    simp only [hg]
    unfold yielded
    split at h
    · rename_i hd; simp only [Option.some.injEq] at h; subst h
      cases hj : ops[j]? with
      | none => simp
      | some oj => simp [hj] at hd; simp [hd]
    · rename_i t ht
      split at h
      · rename_i v hb
        have := hs.at' _ _ hb
        cases hj : ops[j]? with
        | none => simp [hj] at ht
        | some oj =>
          simp [hj] at ht
          simp only [ht, Option.bind_some]
          cases hx : a.tmps[t]? with
          | none =>
            simp [hx] at this; subst this
            simp [undef] at h; subst h; simp
          | some x =>
            simp [hx] at this; subst this
            cases x <;> simp at h <;> subst h <;> simp
      · cases h

/-- A guarded operation whose guard says yes, as one without a guard. -/
def Oper.bare (o : Oper) : Oper := { o with guard := none }
theorem execOp_bare (ρ : Operand → Value) (o : Oper) : execOp ρ (Sep.Oper.bare o) = execOp ρ o := rfl

theorem t_yes (hs : Slots a n σ) (hw : wants ops σ o = some true) (hk : wpList P ops Q (Sep.Oper.bare o :: rest) a w) : wpList P ops Q (o :: rest) a w := by
  have h1 := wants_wanted hs hw
  unfold wpList at hk ⊢
  rw [if_pos h1]
  rw [if_pos (by simp [Region.wanted, Sep.Oper.bare])] at hk
  exact hk

theorem t_no (hs : Slots a n σ) (hw : wants ops σ o = some false) {d : Nat} (hd : o.dst = some d) (hn : d < n) (hk : ∀ a, Slots a n ((d, undef) :: σ) → wpList P ops Q rest a w) : wpList P ops Q (o :: rest) a w := by
  have h1 := wants_wanted hs hw
  unfold wpList
  rw [if_neg (by rw [h1]; simp), hd]
  exact hk _ (hs.put hn _)

theorem t_no_none (hs : Slots a n σ) (hw : wants ops σ o = some false) (hd : o.dst = none) (hk : ∀ a, Slots a n σ → wpList P ops Q rest a w) : wpList P ops Q (o :: rest) a w := by
  have h1 := wants_wanted hs hw
  unfold wpList
  rw [if_neg (by rw [h1]; simp), hd]
  exact hk _ hs
end

/-! ### whatever order is drawn -/
section
variable {P : Program} {ops : Array Oper} {Q : Exit → Act → World → Prop} {S : World → Prop} {o : Oper} {a : Act} {n : Nat} {σ : List (Nat × Value)} {w w' : World} {v : Value} {fuel : Nat} {listed : Array Bool}

def Any : World → Prop := fun _ => True
theorem Any.intro (w : World) : Any w := trivial
def Is (u : World) : World → Prop := fun x => x = u
theorem Is.intro (u : World) : Is u u := rfl
theorem Is.out {u x : World} (h : Is u x) : x = u := h

/-- No panic is asked of the end. -/
def Tight (Q : Exit → Act → World → Prop) : Prop := ∀ c a w, ¬ Q (.panic c) a w

/-- Any order from here on; behind every operation but those of ds S holds. -/
def wpAnyT (P : Program) (ops : Array Oper) (Q : Exit → Act → World → Prop) (S : World → Prop) (ds : List Nat) : Nat → Array Bool → Act → World → Prop
  | 0, listed, a, w => Region.ready .any ops listed = [] ∧ Q .normal a w
  | fuel + 1, listed, a, w =>
    (Region.ready .any ops listed = [] → Q .normal a w) ∧
    ∀ i ∈ Region.ready .any ops listed, wpOp P ops Q i (fun a' w' => (i ∉ ds → S w → S w') ∧ wpAnyT P ops Q S ds fuel (listed.setIfInBounds i true) a' w') a w

variable {ds : List Nat}

theorem wpAny_of_S : ∀ (fuel : Nat) (listed : Array Bool) (a : Act) (w : World), wpAnyT P ops Q S ds fuel listed a w → wpAny P .any ops Q fuel listed a w
  | 0, _, _, _, h => h
  | fuel + 1, _, _, _, h => ⟨h.1, fun i hi => wpOp_mono (fun a' w' h' => wpAny_of_S fuel _ a' w' h'.2) (h.2 i hi)⟩

/-- Number d comes behind number i, over some steps. -/
def reach (ops : Array Oper) (i : Nat) : Nat → Nat → Bool
  | 0, _ => false
  | n + 1, d => match ops[d]? with
    | some od => od.after.any fun e => Region.binds .any e && (e.on == i || reach ops i n e.on)
    | none => false

/-- What has come up has what it waits for ahead of it. -/
def Closed (ops : Array Oper) (l : Array Bool) : Prop :=
  ∀ (j : Nat) (oj : Oper), ops[j]? = some oj → l.getD j false = true → ∀ e ∈ oj.after, Region.binds .any e = true → l.getD e.on false = true

theorem reach_listed {ops : Array Oper} {l : Array Bool} {i : Nat} (hc : Closed ops l) : ∀ (n d : Nat) (od : Oper), ops[d]? = some od → (∀ e ∈ od.after, Region.binds .any e = true → l.getD e.on false = true) → reach ops i n d = true → l.getD i false = true
  | 0, _, _, _, _, h => by simp [reach] at h
  | n + 1, d, od, hd, hall, h => by
    simp only [reach, hd, Array.any_eq_true'] at h
    obtain ⟨e, he, hb⟩ := h
    simp only [Bool.and_eq_true, Bool.or_eq_true, beq_iff_eq] at hb
    have h1 := hall e he hb.1
    rcases hb.2 with h2 | h2
    · rw [← h2]; exact h1
    · cases ho : ops[e.on]? with
      | none => cases n <;> simp [reach, ho] at h2
      | some oe => exact reach_listed hc n e.on oe ho (hc e.on oe ho h1) h2

theorem Closed.put {ops : Array Oper} {l : Array Bool} (h : Closed ops l) {j : Nat} (hj : j ∈ Region.ready .any ops l) : Closed ops (l.setIfInBounds j true) := by
  intro k ok hk hl e he hb
  obtain ⟨_, oj, hoj, hall⟩ := mem_ready.1 hj
  by_cases hjk : j = k
  · subst hjk; rw [hk] at hoj; cases hoj; exact getD_set_true (hall e he hb)
  · rw [getD_set_ne false hjk] at hl; exact getD_set_true (h k ok hk hl e he hb)

/-- An operation that yields v in every world of T is taken first: T is S, or every world. -/
theorem wpAnyT_first {T : World → Prop} {i : Nat} {oi : Oper} (hi : ops[i]? = some oi) (hsel : ∀ (j : Nat) (o : Oper) cs b, ops[j]? = some o → o.op ≠ .select cs b) (hQ : Tight Q) :
    ∀ (fuel : Nat) (listed : Array Bool) (a : Act) (w : World),
      (∀ j oj, ops[j]? = some oj → j ≠ i → listed.getD j true = false → (∀ e ∈ oj.after, Region.binds .any e = true → e.on ≠ i) → oi.apart ops oj = true) →
      ((∀ w, T w) ∨ (T = S ∧ Closed ops listed ∧ ∀ j, j ≠ i → j ∈ ds → listed.getD j true = false → ∃ n, reach ops i n j = true)) →
      i ∈ Region.ready .any ops listed → YieldsIf P ops T oi v a → T w →
      wpAnyT P ops Q S ds fuel (listed.setIfInBounds i true) (a.put oi.dst v) w → wpAnyT P ops Q S ds (fuel + 1) listed a w := by
  have hQ' : ∀ c a w, Q (.panic c) (a.put oi.dst v) w → Q (.panic c) a w := fun c a w h => absurd h (hQ c _ w)
  intro fuel
  induction fuel with
  | zero =>
    intro listed a w _ _ hr hy hT H
    refine ⟨fun h => (by rw [h] at hr; cases hr), fun j hj => ?_⟩
    by_cases hji : j = i
    · subst hji; exact hy.wpOp hi hT ⟨fun _ h => h, H⟩
    · have := ready_mono hj hji
      rw [H.1] at this
      cases this
  | succ fuel ih =>
    intro listed a w hfree hlast hr hy hT H
    refine ⟨fun h => (by rw [h] at hr; cases hr), fun j hj => ?_⟩
    by_cases hji : j = i
    · subst hji; exact hy.wpOp hi hT ⟨fun _ h => h, H⟩
    · have h1 := H.2 j (ready_mono hj hji)
      obtain ⟨hjun, oj, hoj, hall⟩ := mem_ready.1 hj
      have hnot : ∀ e ∈ oj.after, Region.binds .any e = true → e.on ≠ i := fun e he hb heq => by
        have h1 := hall e he hb
        have h0 := (mem_ready.1 hr).1
        rw [heq] at h1
        rcases Nat.lt_or_ge i listed.size with h' | h'
        · simp [h'] at h0 h1; rw [h0] at h1; cases h1
        · simp [Array.getElem?_eq_none h'] at h1
      have hTw : ∀ w', (j ∉ ds → S w → S w') → T w' := fun w' h => by
        rcases hlast with hl | ⟨rfl, hcl, hl⟩
        · exact hl w'
        · by_cases hd : j ∈ ds
          · obtain ⟨n, hn⟩ := hl j hji hd hjun
            have h1 := reach_listed hcl n j oj hoj hall hn
            have h0 := (mem_ready.1 hr).1
            rcases Nat.lt_or_ge i listed.size with h' | h'
            · simp [h'] at h0 h1; rw [h0] at h1; cases h1
            · simp [Array.getElem?_eq_none h'] at h1
          · exact h hd hT
      have h2 := wpOp_putIf hoj (hfree j oj hoj hji hjun hnot) (fun cs b => hsel i oi cs b hi) (fun cs b => hsel j oj cs b hoj) hQ' hy h1
      have hun' : ∀ k, (listed.setIfInBounds j true).getD k true = false → listed.getD k true = false := fun k hun => by
        by_cases hjk : j = k
        · subst hjk; exact hjun
        · rw [getD_set_ne true hjk] at hun; exact hun
      refine wpOp_mono (fun a' w' h3 => ⟨h3.2.1, ih (listed.setIfInBounds j true) a' w' (fun k ok hk hki hun hno => hfree k ok hk hki (hun' k hun) hno)
        (hlast.imp id fun ⟨e, hcl, hl⟩ => ⟨e, hcl.put hj, fun k hki hd hun => hl k hki hd (hun' k hun)⟩) (ready_mono hr (Ne.symm hji)) h3.1 (hTw w' h3.2.1) ?_⟩) h2
      rw [Array.setIfInBounds_comm _ _ hji]
      exact h3.2.2

/-- The checks of a step, in one: number i may be taken first; behind it l' has come up. -/
def takeB (ops : Array Oper) (l l' : Array Bool) (i : Nat) : Bool :=
  Region.noSelect ops && Region.free .any ops l i && (Region.ready .any ops l).contains i && (l.setIfInBounds i true == l')

def lastB (ops : Array Oper) (ds : List Nat) (l : Array Bool) (i : Nat) : Bool :=
  ((List.range ops.size).all fun j => match ops[j]? with
    | some oj => !l.getD j false || oj.after.all fun e => !Region.binds .any e || l.getD e.on false
    | none => true) &&
  ds.all fun d => d == i || l.getD d true || reach ops i ops.size d

theorem takeB_spec {l l' : Array Bool} {i : Nat} {oi : Oper} (hi : ops[i]? = some oi) (h : takeB ops l l' i = true) :
    (∀ (j : Nat) (o : Oper) cs b, ops[j]? = some o → o.op ≠ .select cs b) ∧
    (∀ j oj, ops[j]? = some oj → j ≠ i → l.getD j true = false → (∀ e ∈ oj.after, Region.binds .any e = true → e.on ≠ i) → oi.apart ops oj = true) ∧
    i ∈ Region.ready .any ops l ∧ l.setIfInBounds i true = l' := by
  simp only [takeB, Bool.and_eq_true, beq_iff_eq] at h
  obtain ⟨⟨⟨h1, h2⟩, h3⟩, h4⟩ := h
  exact ⟨Region.noSelect_spec h1, Region.free_spec hi h2, by simpa using h3, h4⟩

theorem lastB_spec {l : Array Bool} {i : Nat} (h : lastB ops ds l i = true) : Closed ops l ∧ ∀ j, j ≠ i → j ∈ ds → l.getD j true = false → ∃ n, reach ops i n j = true := by
  simp only [lastB, Bool.and_eq_true] at h
  refine ⟨fun j oj hj hl e he hb => ?_, fun j hji hd hun => ?_⟩
  · have h1 := List.all_eq_true.1 h.1 j (by simpa using (Array.getElem?_eq_some_iff.1 hj).1)
    simp only [hj, hl, Bool.not_true, Bool.false_or, Array.all_eq_true_iff_forall_mem] at h1
    have h2 := h1 e he
    simpa [hb] using h2
  · have h1 := List.all_eq_true.1 h.2 j hd
    simp only [hun, Bool.or_eq_true, beq_iff_eq, hji, false_or, Bool.false_eq_true] at h1
    exact ⟨_, h1⟩

/-! ### the moves -/
theorem d_start {id k : Nat} (l : Array Bool) (hm : P.follows .mixedOrders = true) (hn : ops.size = k) (hl : Array.replicate k false = l)
    (h : wpAnyT P ops Q S ds k l a { w with drawn := w.drawn + 1 }) : (Code.region id ops true).wp P Q a w := by
  subst hn; subst hl
  exact wp_region_any hm (wpAny_of_S _ _ _ _ h)

/-- An operation that yields whatever the world. -/
theorem d_pure {l : Array Bool} (hs : Slots a n σ) {d i : Nat} (l' : Array Bool) (hi : ops[i]? = some o) (hw : wants ops σ o = some true) (hd : o.dst = some d) (hn : d < n) (hc : takeB ops l l' i = true) (hQ : Tight Q) (hp : Pure P σ o v)
    (hk : ∀ a, Slots a n ((d, v) :: σ) → wpAnyT P ops Q S ds fuel l' a w) : wpAnyT P ops Q S ds (fuel + 1) l a w := by
  obtain ⟨h1, h2, h3, rfl⟩ := takeB_spec hi hc
  refine wpAnyT_first (T := fun _ => True) (v := v) hi h1 hQ fuel l a w h2 (.inl fun _ => trivial) h3 (.inl ⟨wants_wanted hs hw, fun w _ => hp a n hs w⟩) trivial ?_
  rw [hd]; exact hk _ (hs.put hn v)

/-- An operation that does not run, as its guard says no. -/
theorem d_no {l : Array Bool} (hs : Slots a n σ) {d i : Nat} (l' : Array Bool) (hi : ops[i]? = some o) (hw : wants ops σ o = some false) (hd : o.dst = some d) (hn : d < n) (hc : takeB ops l l' i = true) (hQ : Tight Q)
    (hk : ∀ a, Slots a n ((d, undef) :: σ) → wpAnyT P ops Q S ds fuel l' a w) : wpAnyT P ops Q S ds (fuel + 1) l a w := by
  obtain ⟨h1, h2, h3, rfl⟩ := takeB_spec hi hc
  refine wpAnyT_first (T := fun _ => True) (v := undef) hi h1 hQ fuel l a w h2 (.inl fun _ => trivial) h3 (.inr ⟨wants_wanted hs hw, rfl⟩) trivial ?_
  rw [hd]; exact hk _ (hs.put hn _)

theorem d_no_none {l : Array Bool} (hs : Slots a n σ) {i : Nat} (l' : Array Bool) (hi : ops[i]? = some o) (hw : wants ops σ o = some false) (hd : o.dst = none) (hc : takeB ops l l' i = true) (hQ : Tight Q)
    (hk : ∀ a, Slots a n σ → wpAnyT P ops Q S ds fuel l' a w) : wpAnyT P ops Q S ds (fuel + 1) l a w := by
  obtain ⟨h1, h2, h3, rfl⟩ := takeB_spec hi hc
  refine wpAnyT_first (T := fun _ => True) (v := undef) hi h1 hQ fuel l a w h2 (.inl fun _ => trivial) h3 (.inr ⟨wants_wanted hs hw, rfl⟩) trivial ?_
  rw [hd]; exact hk _ hs

/-- An operation that reads: it yields v in every world of S. -/
theorem d_read {l : Array Bool} (hs : Slots a n σ) {d i : Nat} (l' : Array Bool) (hi : ops[i]? = some o) (hw : wants ops σ o = some true) (hd : o.dst = some d) (hn : d < n) (hc : takeB ops l l' i = true) (hl : lastB ops ds l i = true) (hQ : Tight Q) (hS : S w)
    (hp : ∀ w, S w → Eff P σ o w (.value v) w) (hk : ∀ a, Slots a n ((d, v) :: σ) → wpAnyT P ops Q S ds fuel l' a w) : wpAnyT P ops Q S ds (fuel + 1) l a w := by
  obtain ⟨h1, h2, h3, rfl⟩ := takeB_spec hi hc
  refine wpAnyT_first (T := S) (v := v) hi h1 hQ fuel l a w h2 (.inr ⟨rfl, lastB_spec hl⟩) h3 (.inl ⟨wants_wanted hs hw, fun w h => hp w h a n hs⟩) hS ?_
  rw [hd]; exact hk _ (hs.put hn v)

/-- Whichever of those that may come up. -/
def AllS (P : Program) (ops : Array Oper) (Q : Exit → Act → World → Prop) (S : World → Prop) (ds : List Nat) (fuel : Nat) (l : Array Bool) (a : Act) (w : World) (rs : List Nat) : Prop :=
  ∀ i ∈ rs, wpOp P ops Q i (fun a' w' => (i ∉ ds → S w → S w') ∧ wpAnyT P ops Q S ds fuel (l.setIfInBounds i true) a' w') a w
theorem AllS.nil {l : Array Bool} : AllS P ops Q S ds fuel l a w [] := fun _ h => by cases h
theorem AllS.cons {l : Array Bool} {i : Nat} {rs : List Nat} (h : wpOp P ops Q i (fun a' w' => (i ∉ ds → S w → S w') ∧ wpAnyT P ops Q S ds fuel (l.setIfInBounds i true) a' w') a w)
    (hs : AllS P ops Q S ds fuel l a w rs) : AllS P ops Q S ds fuel l a w (i :: rs) := fun j hj => by
  rcases List.mem_cons.1 hj with rfl | hj
  · exact h
  · exact hs j hj
theorem d_all {l : Array Bool} (rs : List Nat) (hr : Region.ready .any ops l = rs) (hne : rs ≠ []) (h : AllS P ops Q S ds fuel l a w rs) : wpAnyT P ops Q S ds (fuel + 1) l a w :=
  ⟨fun h0 => absurd (hr ▸ h0) hne, hr ▸ h⟩
theorem d_done {l : Array Bool} (hr : Region.ready .any ops l = []) (h : Q .normal a w) : ∀ fuel, wpAnyT P ops Q S ds fuel l a w
  | 0 => ⟨hr, h⟩
  | _ + 1 => ⟨fun _ => h, by rw [hr]; simp⟩

theorem d_eff {l : Array Bool} (hs : Slots a n σ) {d i : Nat} (l' : Array Bool) (hi : ops[i]? = some o) (hw : wants ops σ o = some true) (hd : o.dst = some d) (hn : d < n) (hl : l.setIfInBounds i true = l')
    (hp : Eff P σ o w (.value v) w') (hS : i ∉ ds → S w → S w') (hk : ∀ a, Slots a n ((d, v) :: σ) → wpAnyT P ops Q S ds fuel l' a w') :
    wpOp P ops Q i (fun a' w' => (i ∉ ds → S w → S w') ∧ wpAnyT P ops Q S ds fuel (l.setIfInBounds i true) a' w') a w := by
  unfold wpOp
  simp only [hi, wants_wanted hs hw, if_true]
  left
  unfold Oper.wp
  rw [hp a n hs, Oper.upon_value, hd, hl]
  exact ⟨hS, hk _ (hs.put hn v)⟩

theorem d_eff_none {l : Array Bool} (hs : Slots a n σ) {i : Nat} (l' : Array Bool) (hi : ops[i]? = some o) (hw : wants ops σ o = some true) (hd : o.dst = none) (hl : l.setIfInBounds i true = l')
    (hp : Eff P σ o w (.value v) w') (hS : i ∉ ds → S w → S w') (hk : ∀ a, Slots a n σ → wpAnyT P ops Q S ds fuel l' a w') :
    wpOp P ops Q i (fun a' w' => (i ∉ ds → S w → S w') ∧ wpAnyT P ops Q S ds fuel (l.setIfInBounds i true) a' w') a w := by
  unfold wpOp
  simp only [hi, wants_wanted hs hw, if_true]
  left
  unfold Oper.wp
  rw [hp a n hs, Oper.upon_value, hd, hl]
  exact ⟨hS, hk _ hs⟩

theorem d_skip {l : Array Bool} (hs : Slots a n σ) {i : Nat} (l' : Array Bool) (hi : ops[i]? = some o) (hw : wants ops σ o = some true) (hd : o.dst = none) (hl : l.setIfInBounds i true = l')
    (hp : Eff P σ o w .skip w') (hS : i ∉ ds → S w → S w') (hk : ∀ a, Slots a n σ → wpAnyT P ops Q S ds fuel l' a w') :
    wpOp P ops Q i (fun a' w' => (i ∉ ds → S w → S w') ∧ wpAnyT P ops Q S ds fuel (l.setIfInBounds i true) a' w') a w := by
  unfold wpOp
  simp only [hi, wants_wanted hs hw, if_true]
  left
  unfold Oper.wp
  rw [hp a n hs, Oper.upon_skip, hd, hl]
  exact ⟨hS, hk _ hs⟩

theorem d_call {l : Array Bool} (hs : Slots a n σ) {d i : Nat} {f : FuncId} {args : Array Value} {k : Value → World → Prop} (l' : Array Bool) (hi : ops[i]? = some o) (hw : wants ops σ o = some true) (hd : o.dst = some d) (hn : d < n) (hl : l.setIfInBounds i true = l')
    (hp : Eff P σ o w (.enter f args) w') (hc : Calls P f args w' (Ret k)) (hS : ∀ v w'', k v w'' → i ∉ ds → S w → S w'') (hk : ∀ v a w, k v w → Slots a n ((d, v) :: σ) → wpAnyT P ops Q S ds fuel l' a w) :
    wpOp P ops Q i (fun a' w' => (i ∉ ds → S w → S w') ∧ wpAnyT P ops Q S ds fuel (l.setIfInBounds i true) a' w') a w := by
  unfold wpOp
  simp only [hi, wants_wanted hs hw, if_true]
  left
  unfold Oper.wp
  rw [hp a n hs, Oper.upon_enter]
  refine hc.mono fun e w'' he => ?_
  cases e with
  | returned v => rw [hd, hl]; exact ⟨hS v w'' he, hk v _ w'' he (hs.put hn v)⟩
  | panicked c => exact he.elim
  | outgrown => exact he.elim

theorem d_call_none {l : Array Bool} (hs : Slots a n σ) {i : Nat} {f : FuncId} {args : Array Value} {k : Value → World → Prop} (l' : Array Bool) (hi : ops[i]? = some o) (hw : wants ops σ o = some true) (hd : o.dst = none) (hl : l.setIfInBounds i true = l')
    (hp : Eff P σ o w (.enter f args) w') (hc : Calls P f args w' (Ret k)) (hS : ∀ v w'', k v w'' → i ∉ ds → S w → S w'') (hk : ∀ v a w, k v w → Slots a n σ → wpAnyT P ops Q S ds fuel l' a w) :
    wpOp P ops Q i (fun a' w' => (i ∉ ds → S w → S w') ∧ wpAnyT P ops Q S ds fuel (l.setIfInBounds i true) a' w') a w := by
  unfold wpOp
  simp only [hi, wants_wanted hs hw, if_true]
  left
  unfold Oper.wp
  rw [hp a n hs, Oper.upon_enter]
  refine hc.mono fun e w'' he => ?_
  cases e with
  | returned v => rw [hd, hl]; exact ⟨hS v w'' he, hk v _ w'' he hs⟩
  | panicked c => exact he.elim
  | outgrown => exact he.elim
end

/-! ### a region that only reads: the text's order -/
section
variable {P : Program} {ops : Array Oper} {Q : Act → Prop} {rest : List Oper} {o : Oper} {a : Act} {n : Nat} {σ : List (Nat × Value)} {w : World} {v : Value}
theorem s_eff (hs : Slots a n σ) {d : Nat} (hg : o.guard = none) (hd : o.dst = some d) (hn : d < n) (hp : Eff P σ o w (.value v) w)
    (hk : ∀ a, Slots a n ((d, v) :: σ) → wpStill P ops w Q rest a) : wpStill P ops w Q (o :: rest) a := by
  unfold wpStill
  rw [if_pos (by simp [Region.wanted, hg])]
  unfold Oper.still
  rw [hp a n hs, Oper.stillUpon_value, hd]
  exact hk _ (hs.put hn v)
theorem s_pure (hs : Slots a n σ) {d : Nat} (hg : o.guard = none) (hd : o.dst = some d) (hn : d < n) (hp : Pure P σ o v)
    (hk : ∀ a, Slots a n ((d, v) :: σ) → wpStill P ops w Q rest a) : wpStill P ops w Q (o :: rest) a := s_eff hs hg hd hn (hp.eff w) hk
theorem s_yes (hs : Slots a n σ) (hw : wants ops σ o = some true) (hk : wpStill P ops w Q (Sep.Oper.bare o :: rest) a) : wpStill P ops w Q (o :: rest) a := by
  have h1 := wants_wanted hs hw
  unfold wpStill at hk ⊢
  rw [if_pos h1]
  rw [if_pos (by simp [Region.wanted, Sep.Oper.bare])] at hk
  exact hk
theorem s_no (hs : Slots a n σ) (hw : wants ops σ o = some false) {d : Nat} (hd : o.dst = some d) (hn : d < n) (hk : ∀ a, Slots a n ((d, undef) :: σ) → wpStill P ops w Q rest a) : wpStill P ops w Q (o :: rest) a := by
  have h1 := wants_wanted hs hw
  unfold wpStill
  rw [if_neg (by rw [h1]; simp), hd]
  exact hk _ (hs.put hn _)
theorem s_start {l : List Oper} {id : Nat} {Q : Exit → Act → World → Prop} {w' : World} (hm : P.follows .mixedOrders = true) (hB : Region.lexB .any l.toArray = true) (hw : w' = { w with drawn := w.drawn + 1 })
    (h : wpStill P l.toArray w' (fun a' => Q .normal a' w') l a) : (Code.region id l.toArray true).wp P Q a w := by
  subst hw; exact wp_region_still_lit hm hB h
end

theorem split_bool {p : Prop} (b : Bool) (h1 : b = true → p) (h2 : b = false → p) : p := by
  cases b
  · exact h2 rfl
  · exact h1 rfl

/-! ### the code's own moves -/
section
variable {P : Program} {Q : Exit → Act → World → Prop} {a : Act} {n : Nat} {σ : List (Nat × Value)} {w : World}

theorem c_cond {c : Operand} {x y : Code} {t : Bool} (hs : Slots a n σ) (hc : ev σ c = some (.bool t)) (h1 : t = true → x.wp P Q a w) (h2 : t = false → y.wp P Q a w) : (Code.cond c x y).wp P Q a w :=
  wp_cond_split (hs.ev hc) h1 h2

/-- A loop by a relation on what its slots hold. -/
theorem c_loop {α : Type} {c : Code} (I : α → World → Prop) (μ : α → World → Nat) (F : α → Act → Prop) (x : α) (h0 : I x w) (hF : F x a)
    (round : ∀ x a w, I x w → F x a → c.wp P (Exit.then (fun a' w' => ∃ x', F x' a' ∧ I x' w' ∧ μ x' w' < μ x w) Q) a w) : (Code.loop c).wp P Q a w := by
  intro b k cs
  have key : ∀ n x a w, μ x w = n → I x w → F x a → ∃ e a' w', Q e a' w' ∧ Arrives P (lone (b.at a (.code c :: .inLoop c :: k)) cs w) b k cs e a' w' := by
    intro n
    induction n using Nat.strongRecOn with
    | _ n ih =>
      intro x a w hn hI hF
      obtain ⟨e, a₁, w₁, hq, harr⟩ := round x a w hI hF b (.inLoop c :: k) cs
      cases e with
      | normal =>
        obtain ⟨x', hF', hI', hlt⟩ := hq
        obtain ⟨e₂, a₂, w₂, hq₂, harr₂⟩ := ih (μ x' w₁) (hn ▸ hlt) x' a₁ w₁ rfl hI' hF'
        exact ⟨e₂, a₂, w₂, hq₂, .of_steps (Steps.trans harr (.one step_inLoop)) harr₂⟩
      | exit id => exact ⟨_, a₁, w₁, hq, .pass (x := .inLoop c) rfl (fun _ _ => .inl (by simp)) harr⟩
      | goto l => exact ⟨_, a₁, w₁, hq, .pass (x := .inLoop c) rfl (fun _ _ => .inl (by simp)) harr⟩
      | ret => exact ⟨_, a₁, w₁, hq, .pass (x := .inLoop c) rfl (fun _ _ => .inl (by simp)) harr⟩
      | panic ch => exact ⟨_, a₁, w₁, hq, .pass (x := .inLoop c) rfl (fun _ _ => .inl (by simp)) harr⟩
      | outgrown => exact ⟨_, a₁, w₁, hq, .pass (x := .inLoop c) rfl (fun _ _ => .inl (by simp)) harr⟩
  obtain ⟨e, a', w', hq, harr⟩ := key _ x a w rfl h0 hF
  exact ⟨e, a', w', hq, .of_steps (.one step_loop) harr⟩

/-- What a loop is worth: some relation holds at each head, and a measure falls. -/
def LoopK {α : Type} (body : (α → World → Prop) → α → World → Prop) (x : α) (w : World) : Prop :=
  ∃ (I : α → World → Prop) (μ : α → World → Nat), I x w ∧ ∀ x w, I x w → body (fun x' w' => I x' w' ∧ μ x' w' < μ x w) x w

theorem LoopK.of {α : Type} {body : (α → World → Prop) → α → World → Prop} {x : α} {w : World} (I : α → World → Prop) (μ : α → World → Nat) (h0 : I x w)
    (h : ∀ x w, I x w → body (fun x' w' => I x' w' ∧ μ x' w' < μ x w) x w) : LoopK body x w := ⟨I, μ, h0, h⟩

theorem f_start {f : FuncId} {fn : Func} {c : Code} {args : List Value} {R : Value → World → Prop} (hf : P.funcs[f]? = some fn) (hb : fn.body = some c) (hn : args.length ≤ fn.ntmps)
    (h : ∀ a, Slots a fn.ntmps (args.zipIdx.map fun p => (p.2, p.1)) → c.wp P (bodyPost P fn (Ret R)) a w) : Calls P f args.toArray w (Ret R) :=
  calls_of_wp hf hb (h _ (Slots.init args _ hn))

theorem tight_body {fn : Func} {R : Value → World → Prop} : Tight (bodyPost P fn (Ret R)) := fun _ _ _ h => h.2.elim

theorem f_ret {fn : Func} {R : Value → World → Prop} {v : Value} (hs : Slots a n σ) (hr : ∀ a, Slots a n σ → (results fn a.tmps).run P w = .ok v w) (h : R v w) : bodyPost P fn (Ret R) .ret a w :=
  ⟨hs.defers, v, hr a hs, h⟩
theorem f_end {fn : Func} {R : Value → World → Prop} {v : Value} (hs : Slots a n σ) (hr : ∀ a, Slots a n σ → (results fn a.tmps).run P w = .ok v w) (h : R v w) : bodyPost P fn (Ret R) .normal a w :=
  ⟨hs.defers, v, hr a hs, h⟩
end
end Go.Sep
