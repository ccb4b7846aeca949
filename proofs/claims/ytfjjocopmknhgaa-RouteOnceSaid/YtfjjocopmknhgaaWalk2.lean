/- The steps of a walk: from known slots and a word of the plain form. Holds for every program. -/
import Derived.Test.YtfjjocopmknhgaaWalk
namespace Go.Sep
open Go
set_option linter.unusedSimpArgs false
set_option linter.unusedVariables false

/-- From these slots, and the plain form k, X holds. -/
def G (dl : List Deferred) (n : Nat) (σ : List (Nat × Value)) (k : K) (X : Act → World → Prop) : Prop := ∀ a w, SlotsD dl a n σ → k w → X a w
abbrev fe : Option Nat → Fence
  | none => Fence.wide
  | some l => Fence.wide.inRound l
def Cx (r : Option Nat) (P : Program) (c : Code) (Q : Exit → Act → World → Prop) : Act → World → Prop := fun a w => c.wpIn (fe r) 0 P Q a w
def Tx (r : Option Nat) (P : Program) (ops : Array Oper) (Q : Exit → Act → World → Prop) (l : List Oper) : Act → World → Prop := fun a w => wpListIn (fe r) 0 P ops Q l a w
def Ex (Q : Exit → Act → World → Prop) (e : Exit) : Act → World → Prop := fun a w => Q e a w
def isDef : Op → Bool
  | .defer _ => true
  | _ => false
theorem isDef_ne {o : Oper} (h : isDef o.op = false) : ∀ c, o.op ≠ .defer c := fun c hc => by rw [hc] at h; cases h
theorem fe_free : ∀ r, Free (fe r)
  | none => free_wide
  | some l => free_wide.round l
theorem fe_alive : ∀ r, (fe r).alive = false
  | none => rfl
  | some _ => rfl
theorem fe_depth : ∀ r, (fe r).depth = none
  | none => rfl
  | some _ => rfl

section
variable {P : Program} {dl : List Deferred} {n : Nat} {σ τ : List (Nat × Value)} {k : K} {X : Act → World → Prop} {r : Option Nat} {ops : Array Oper} {Q : Exit → Act → World → Prop} {l : List Oper} {o : Oper} {a : Act} {w w' : World} {v : Value}

/-! ### one operation -/
theorem op_value {K1 : Act → World → Prop} (hs : SlotsD dl a n σ) (nd : isDef o.op = false) (hp : Eff P σ o w (.value v) w') (h : K1 (a.put o.dst v) w') : o.wpIn (fe r) 0 P a w K1 Q := by
  refine ⟨fun f _ => (fe_free r).fn f, ?_⟩
  rw [Oper.semAt_eq _ _ _ (isDef_ne nd)]
  have h1 : (execOp a.eval o).run P w = .ok (.value v) w' := hp { a with defers := [] } n hs.1
  rw [h1, Oper.uponIn_value]; exact h
theorem op_skip {K1 : Act → World → Prop} (hs : SlotsD dl a n σ) (nd : isDef o.op = false) (hp : Eff P σ o w .skip w') (h : K1 (a.put o.dst undef) w') : o.wpIn (fe r) 0 P a w K1 Q := by
  refine ⟨fun f _ => (fe_free r).fn f, ?_⟩
  rw [Oper.semAt_eq _ _ _ (isDef_ne nd)]
  have h1 : (execOp a.eval o).run P w = .ok .skip w' := hp { a with defers := [] } n hs.1
  rw [h1, Oper.uponIn_skip]; exact h
theorem op_call {K1 : Act → World → Prop} {f : FuncId} {args : Array Value} {kk : Value → K} (hs : SlotsD dl a n σ) (nd : isDef o.op = false) (hp : Eff P σ o w (.enter f args) w') (hc : Calls P f args w' (Ret kk))
    (h : ∀ v w, kk v w → K1 (a.put o.dst v) w) : o.wpIn (fe r) 0 P a w K1 Q := by
  refine ⟨fun f _ => (fe_free r).fn f, ?_⟩
  rw [Oper.semAt_eq _ _ _ (isDef_ne nd)]
  have h1 : (execOp a.eval o).run P w = .ok (.enter f args) w' := hp { a with defers := [] } n hs.1
  rw [h1, Oper.uponIn_enter]
  refine ⟨(fun h => by rw [fe_depth r] at h; cases h), callsIn_free (fe_free r) (fe_alive r) (hc.mono fun e w'' he => ?_)⟩
  cases e with
  | returned v => exact h v _ he
  | panicked c => exact he.elim
  | outgrown => exact he.elim
theorem op_yield {K1 : Act → World → Prop} {y : Nat} {args : Array Value} {kk : Value → K} (hs : SlotsD dl a n σ) (nd : isDef o.op = false) (hp : ∀ (x : Next), (Instr.yield y args).run P w = .ok x w → Eff P σ o w x w) (hc : YieldAt Fence.wide 0 P y args w (Ret kk))
    (h : ∀ v w, kk v w → K1 (a.put o.dst v) w) : o.wpIn Fence.wide 0 P a w K1 Q := by
  obtain ⟨fn, tmps, as, bd, hy, hr⟩ := hc
  refine ⟨fun f _ => trivial, ?_⟩
  rw [Oper.semAt_eq _ _ _ (isDef_ne nd)]
  have h1 : (execOp a.eval o).run P w = .ok (.round y fn tmps as bd) w := hp _ hy { a with defers := [] } n hs.1
  rw [h1, Oper.uponIn_round]
  refine ⟨(fun h => by cases h), roundIn_free (hr.mono fun e w'' he => ?_)⟩
  cases e with
  | returned v => exact h v _ he
  | panicked c => exact he.elim
  | outgrown => exact he.elim

/-! ### in the text's order -/
theorem t_run (hs : SlotsD dl a n σ) (hw : wants ops σ o = some true) (h : o.wpIn (fe r) 0 P a w (wpListIn (fe r) 0 P ops Q l) Q) : wpListIn (fe r) 0 P ops Q (o :: l) a w := by
  unfold wpListIn
  rw [if_pos (wants_wanted hs.1 hw)]; exact h
theorem tx_p {d : Nat} (h : G dl n ((d, v) :: σ) k (Tx r P ops Q l)) (hd : o.dst = some d := by rfl) (hw : wants ops σ o = some true := by rfl) (hp : Pure P σ o v := by exact pu_auto) (hn : Nat.ble (d + 1) n = true := by rfl) (nd : isDef o.op = false := by rfl) :
    G dl n σ k (Tx r P ops Q (o :: l)) := fun a w hs hk => t_run hs hw (op_value hs nd (hp.eff w) (by rw [hd]; exact h _ w (hs.put (Nat.le_of_ble_eq_true hn) v) hk))
theorem tx_no {d : Nat} (h : G dl n ((d, undef) :: σ) k (Tx r P ops Q l)) (hd : o.dst = some d := by rfl) (hw : wants ops σ o = some false := by rfl) (hn : Nat.ble (d + 1) n = true := by rfl) : G dl n σ k (Tx r P ops Q (o :: l)) := fun a w hs hk => by
  show wpListIn (fe r) 0 P ops Q (o :: l) a w
  unfold wpListIn
  rw [if_neg (by rw [wants_wanted hs.1 hw]; simp), hd]
  exact ⟨fun f _ => (fe_free r).fn f, h _ w (hs.put (Nat.le_of_ble_eq_true hn) _) hk⟩
theorem tx_no' (h : G dl n σ k (Tx r P ops Q l)) (hd : o.dst = none := by rfl) (hw : wants ops σ o = some false := by rfl) : G dl n σ k (Tx r P ops Q (o :: l)) := fun a w hs hk => by
  show wpListIn (fe r) 0 P ops Q (o :: l) a w
  unfold wpListIn
  rw [if_neg (by rw [wants_wanted hs.1 hw]; simp), hd]
  exact ⟨fun f _ => (fe_free r).fn f, h _ w hs hk⟩
section
variable {α : Type} {vx : α → Value} {k' : α → K}
theorem WP.wr {σ : List (Nat × Value)} (h : WP P σ o k vx k') : WR P σ o k vx k' := fun w hk => by obtain ⟨x, hp, h⟩ := h w hk; exact ⟨x, hp.eff w, h⟩
theorem WR.we {σ : List (Nat × Value)} (h : WR P σ o k vx k') : WE P σ o k vx k' := fun w hk => by obtain ⟨x, hp, h⟩ := h w hk; exact ⟨x, w, hp, h⟩
theorem tx_e0 {d : Nat} (he : WE P σ o k vx k') (h : ∀ x, G dl n ((d, vx x) :: σ) (k' x) (Tx r P ops Q l)) (hd : o.dst = some d) (hw : wants ops σ o = some true) (hn : Nat.ble (d + 1) n = true) (nd : isDef o.op = false) : G dl n σ k (Tx r P ops Q (o :: l)) := fun a w hs hk => by
  obtain ⟨x, w', hp, h'⟩ := he w hk
  exact t_run hs hw (op_value hs nd hp (by rw [hd]; exact h x _ w' (hs.put (Nat.le_of_ble_eq_true hn) _) h'))
theorem tx_wp {d : Nat} (h : ∀ x, G dl n ((d, vx x) :: σ) (k' x) (Tx r P ops Q l)) (hd : o.dst = some d := by rfl) (hw : wants ops σ o = some true := by rfl) (hp : WP P σ o k vx k' := by exact wp_auto) (hn : Nat.ble (d + 1) n = true := by rfl) (nd : isDef o.op = false := by rfl) : G dl n σ k (Tx r P ops Q (o :: l)) := tx_e0 hp.wr.we h hd hw hn nd
theorem tx_wr {d : Nat} (h : ∀ x, G dl n ((d, vx x) :: σ) (k' x) (Tx r P ops Q l)) (hd : o.dst = some d := by rfl) (hw : wants ops σ o = some true := by rfl) (hp : WR P σ o k vx k' := by exact wr_auto) (hn : Nat.ble (d + 1) n = true := by rfl) (nd : isDef o.op = false := by rfl) : G dl n σ k (Tx r P ops Q (o :: l)) := tx_e0 hp.we h hd hw hn nd
theorem tx_we {d : Nat} (h : ∀ x, G dl n ((d, vx x) :: σ) (k' x) (Tx r P ops Q l)) (hd : o.dst = some d := by rfl) (hw : wants ops σ o = some true := by rfl) (hp : WE P σ o k vx k' := by exact we_auto) (hn : Nat.ble (d + 1) n = true := by rfl) (nd : isDef o.op = false := by rfl) : G dl n σ k (Tx r P ops Q (o :: l)) := tx_e0 hp h hd hw hn nd
theorem tx_wen (h : ∀ x, G dl n σ (k' x) (Tx r P ops Q l)) (hd : o.dst = none := by rfl) (hw : wants ops σ o = some true := by rfl) (hp : WE P σ o k vx k' := by exact we_auto) (nd : isDef o.op = false := by rfl) : G dl n σ k (Tx r P ops Q (o :: l)) := fun a w hs hk => by
  obtain ⟨x, w', hp, h'⟩ := hp w hk
  exact t_run hs hw (op_value hs nd hp (by rw [hd]; exact h x _ w' hs h'))
end
theorem tx_wk {k' : K} (h : G dl n σ k' (Tx r P ops Q l)) (hd : o.dst = none := by rfl) (hw : wants ops σ o = some true := by rfl) (hp : WK P σ o k k' := by exact wk_auto) (nd : isDef o.op = false := by rfl) : G dl n σ k (Tx r P ops Q (o :: l)) := fun a w hs hk => by
  obtain ⟨w', hp, h'⟩ := hp w hk
  exact t_run hs hw (op_skip hs nd hp (by rw [hd]; exact h _ w' hs h'))
theorem tx_wc {d : Nat} {kk : Value → K} (h : ∀ u, G dl n ((d, u) :: σ) (kk u) (Tx r P ops Q l)) (hd : o.dst = some d := by rfl) (hw : wants ops σ o = some true := by rfl) (hp : WC P σ o k kk := by exact wc_auto) (hn : Nat.ble (d + 1) n = true := by rfl) (nd : isDef o.op = false := by rfl) : G dl n σ k (Tx r P ops Q (o :: l)) := fun a w hs hk => by
  obtain ⟨f, args, w', hp, hc⟩ := hp w hk
  exact t_run hs hw (op_call hs nd hp hc fun v w h' => by rw [hd]; exact h v _ w (hs.put (Nat.le_of_ble_eq_true hn) _) h')
theorem tx_wcn {kk : Value → K} (h : ∀ u, G dl n σ (kk u) (Tx r P ops Q l)) (hd : o.dst = none := by rfl) (hw : wants ops σ o = some true := by rfl) (hp : WC P σ o k kk := by exact wc_auto) (nd : isDef o.op = false := by rfl) : G dl n σ k (Tx r P ops Q (o :: l)) := fun a w hs hk => by
  obtain ⟨f, args, w', hp, hc⟩ := hp w hk
  exact t_run hs hw (op_call hs nd hp hc fun v w h' => by rw [hd]; exact h v _ w hs h')
theorem tx_wy {d : Nat} {kk : Value → K} (h : ∀ u, G dl n ((d, u) :: σ) (kk u) (Tx none P ops Q l)) (hd : o.dst = some d := by rfl) (hw : wants ops σ o = some true := by rfl) (hp : WY P σ o k kk := by exact wy_y rfl rfl rfl) (hn : Nat.ble (d + 1) n = true := by rfl) (nd : isDef o.op = false := by rfl) : G dl n σ k (Tx none P ops Q (o :: l)) := fun a w hs hk => by
  obtain ⟨y, args, hp, hc⟩ := hp w hk
  exact t_run (r := none) hs hw (op_yield hs nd hp hc fun v w h' => by rw [hd]; exact h v _ w (hs.put (Nat.le_of_ble_eq_true hn) _) h')
theorem tx_nil (h : G dl n σ k (Ex Q .normal)) : G dl n σ k (Tx r P ops Q []) := fun a w hs hk => h a w hs hk

/-! ### answers -/
section
variable {α β γ δ ε : Type} {d : Nat} {u : Value}
theorem an_0 {v0 : Value} (h : G dl n ((d, v0) :: σ) k X) : G dl n ((d, u) :: σ) (Ans0 v0 k u) X := fun a w hs ⟨hu, hk⟩ => h a w (hu ▸ hs) hk
theorem an_1 {c : α → Value} {k : α → K} (h : ∀ x, G dl n ((d, c x) :: σ) (k x) X) : G dl n ((d, u) :: σ) (Ans1 c k u) X := fun a w hs ⟨x, hu, hk⟩ => h x a w (hu ▸ hs) hk
theorem an_2 {c : α → β → Value} {k : α → β → K} (h : ∀ x y, G dl n ((d, c x y) :: σ) (k x y) X) : G dl n ((d, u) :: σ) (Ans2 c k u) X := fun a w hs ⟨x, y, hu, hk⟩ => h x y a w (hu ▸ hs) hk
theorem an_3 {c : α → β → γ → Value} {k : α → β → γ → K} (h : ∀ x y z, G dl n ((d, c x y z) :: σ) (k x y z) X) : G dl n ((d, u) :: σ) (Ans3 c k u) X := fun a w hs ⟨x, y, z, hu, hk⟩ => h x y z a w (hu ▸ hs) hk
theorem an_4 {c : α → β → γ → δ → Value} {k : α → β → γ → δ → K} (h : ∀ x y z t, G dl n ((d, c x y z t) :: σ) (k x y z t) X) : G dl n ((d, u) :: σ) (Ans4 c k u) X := fun a w hs ⟨x, y, z, t, hu, hk⟩ => h x y z t a w (hu ▸ hs) hk
theorem an_5 {c : α → β → γ → δ → ε → Value} {k : α → β → γ → δ → ε → K} (h : ∀ x y z t s, G dl n ((d, c x y z t s) :: σ) (k x y z t s) X) : G dl n ((d, u) :: σ) (Ans5 c k u) X := fun a w hs ⟨x, y, z, t, s, hu, hk⟩ => h x y z t s a w (hu ▸ hs) hk
-- where no slot bears the answer
theorem am_0 {v0 : Value} (h : G dl n σ k X) : G dl n σ (Ans0 v0 k u) X := fun a w hs ⟨_, hk⟩ => h a w hs hk
theorem am_1 {c : α → Value} {k : α → K} (h : ∀ x, G dl n σ (k x) X) : G dl n σ (Ans1 c k u) X := fun a w hs ⟨x, _, hk⟩ => h x a w hs hk
theorem am_2 {c : α → β → Value} {k : α → β → K} (h : ∀ x y, G dl n σ (k x y) X) : G dl n σ (Ans2 c k u) X := fun a w hs ⟨x, y, _, hk⟩ => h x y a w hs hk
end

/-! ### words without an operation -/
/-- What an operation's guard looks at. -/
def gslot (ops : Array Oper) (σ : List (Nat × Value)) (o : Oper) : Option Value := match o.guard with
  | none => none
  | some (j, _) => match (ops[j]?).bind (·.dst) with
    | none => none
    | some t => look σ t
theorem tx_ite {b : Bool} {x y : K} (h1 : b = true → G dl n σ x (Tx r P ops Q (o :: l))) (h2 : b = false → G dl n σ y (Tx r P ops Q (o :: l))) (hg : gslot ops σ o = some (.bool b) := by rfl) : G dl n σ (Ite b x y) (Tx r P ops Q (o :: l)) := fun a w hs hk => by
  cases b
  · exact h2 rfl a w hs (hk.2 rfl)
  · exact h1 rfl a w hs (hk.1 rfl)
theorem gx_fold (h : ∀ a w, SlotsD dl a n σ → k w → X a w) : G dl n σ k X := h
theorem gx_nn {p : Option Addr} {kp : Addr → K} (h : ∀ a, p = some a → G dl n σ (kp a) X) : G dl n σ (Nn p kp) X := fun a w hs ⟨b, hb, hk⟩ => h b hb a w hs hk
theorem gx_fv {f : Value} {kf : FuncId → Array Value → Array Value → K} (h : ∀ g fs cs, f = .func (.func g) fs cs → CB P g → G dl n σ (kf g fs cs) X) : G dl n σ (Fv P f kf) X := fun a w hs ⟨g, fs, cs, hf, hc, hk⟩ => h g fs cs hf ⟨hc⟩ a w hs hk
theorem gx_dead : G dl n σ Dead X := fun _ _ _ hk => hk.elim
/-- The same, as a predicate of slots and plain forms. -/
def Gp (dl : List Deferred) (n : Nat) (X : Act → World → Prop) (τ : List (Nat × Value)) (k : K) : Prop := G dl n τ k X
theorem gp_in (h : G dl n σ k X) : Gp dl n X σ k := h
theorem sub_auto (h : Sub σ τ := by repeat (first | exact trivial | refine ⟨rfl, ?_⟩)) : Sub σ τ := h
theorem gx_jump (h : Gp dl n X τ k := by apply_assumption) (hs : Sub σ τ := by exact sub_auto) : G dl n σ k X := fun a w hs' hk => h a w (hs'.to hs) hk
theorem gx_unf (h : G dl n σ k X) : ∀ a w, SlotsD dl a n σ → k w → X a w := h
theorem gx_sub (h : G dl n τ k X) (hs : Sub σ τ) : G dl n σ k X := fun a w hs' hk => h a w (hs'.to hs) hk

/-! ### code -/
def firstTwo (a b : Nat) : Nat := match Nat.beq a 1000000 with
  | true => b
  | false => a
def firstReg : Code → Nat
  | .region id _ _ => id
  | .seq x y => firstTwo (firstReg x) (firstReg y)
  | .cond _ x y => firstTwo (firstReg x) (firstReg y)
  | .block _ c => firstReg c
  | .loop c => firstReg c
  | .scope c => firstReg c
  | .rangeFunc _ _ a _ => firstReg a
  | _ => 1000000
def lastReg : Code → Nat
  | .region id _ _ => id
  | .seq x y => firstTwo (lastReg y) (lastReg x)
  | .cond _ x y => firstTwo (lastReg y) (lastReg x)
  | .block _ c => lastReg c
  | .loop c => lastReg c
  | .scope c => lastReg c
  | .rangeFunc _ _ _ b => lastReg b
  | _ => 1000000
/-- The number by which a seq's hint is found. -/
def seqKey (x y : Code) : Nat := firstTwo (firstReg y) (1000000 + lastReg x)
/-- A hint: how the code that begins with region id goes on, as a plain form of its own. -/
structure JH (id : Nat) (H : (List (Nat × Value) → ((List (Nat × Value) → K → Prop) → Prop) → Prop) → Prop) : Prop where
  h : ∀ D, H D → ∃ pre C, D pre C
/-- A hint: what a loop's slots bear. -/
structure LH (id : Nat) {α : Type} (S : α → List (Nat × Value)) (body : (α → K) → α → K) : Prop
/-- The continuation of a loop. -/
structure XH (id : Nat) {α : Type} (X : α → K) : Prop

variable {x y c : Code} {id : Nat}
theorem cx_seq (h : G dl n σ k (Cx r P x (Exit.then (Cx r P y Q) Q))) : G dl n σ k (Cx r P (.seq x y) Q) := fun a w hs hk => wpIn_seq (h a w hs hk)
def Jp (dl : List Deferred) (n : Nat) (σ : List (Nat × Value)) (k : K) (r : Option Nat) (P : Program) (x y : Code) (Q : Exit → Act → World → Prop) (pre : List (Nat × Value)) (C : (List (Nat × Value) → K → Prop) → Prop) : Prop :=
  Sub σ pre ∧ C (Gp dl n (Cx r P y Q)) ∧ ∀ Kc, C (Gp dl n Kc) → G dl n σ k (Cx r P x (Exit.then Kc Q))
theorem ex_i {α : Sort _} {p : α → Prop} {x : α} (h : p x) : ∃ x, p x := ⟨x, h⟩
theorem cx_join {H : (List (Nat × Value) → ((List (Nat × Value) → K → Prop) → Prop) → Prop) → Prop} (h : H (Jp dl n σ k r P x y Q)) (hi : seqKey x y = id := by rfl) (hh : JH id H := by first | assumption | (apply_assumption <;> assumption)) : G dl n σ k (Cx r P (.seq x y) Q) := fun a w hs hk => by
  obtain ⟨pre, C, _, h1, h2⟩ := hh.h _ h
  exact wpIn_seq (h2 _ h1 a w hs hk)
theorem cx_skip (h : G dl n σ k (Ex Q .normal)) : G dl n σ k (Cx r P .skip Q) := fun a w hs hk => wpIn_skip (h a w hs hk)
theorem cx_label {i : Nat} (h : G dl n σ k (Ex Q .normal)) : G dl n σ k (Cx r P (.label i) Q) := fun a w hs hk => wpIn_label (h a w hs hk)
theorem cx_exit {i : Nat} (h : G dl n σ k (Ex Q (.exit i))) : G dl n σ k (Cx r P (.exit i) Q) := fun a w hs hk => wpIn_exit (h a w hs hk)
theorem cx_ret (h : G dl n σ k (Ex Q .ret)) : G dl n σ k (Cx r P .ret Q) := fun a w hs hk => wpIn_ret (h a w hs hk)
theorem cx_block {i : Nat} (h : G dl n σ k (Cx r P c (Exit.inBlock i Q))) : G dl n σ k (Cx r P (.block i c) Q) := fun a w hs hk => wpIn_block (h a w hs hk)
theorem cx_cond {e : Operand} {b : Bool} {kx ky : K} (h1 : G dl n σ kx (Cx r P x Q)) (h2 : G dl n σ ky (Cx r P y Q)) (he : ev σ e = some (.bool b) := by rfl) : G dl n σ (Ite b kx ky) (Cx r P (.cond e x y) Q) := fun a w hs hk =>
  wpIn_cond_split (hs.1.ev he) (fun hb => h1 a w hs (hk.1 hb)) (fun hb => h2 a w hs (hk.2 hb))
theorem cx_cond_t {e : Operand} (h : G dl n σ k (Cx r P x Q)) (he : ev σ e = some (.bool true) := by rfl) : G dl n σ k (Cx r P (.cond e x y) Q) := fun a w hs hk => wpIn_cond_true (hs.1.ev he) (h a w hs hk)
theorem cx_cond_f {e : Operand} (h : G dl n σ k (Cx r P y Q)) (he : ev σ e = some (.bool false) := by rfl) : G dl n σ k (Cx r P (.cond e x y) Q) := fun a w hs hk => wpIn_cond_false (hs.1.ev he) (h a w hs hk)
theorem cx_reg {i : Nat} (h : G dl n σ k (Tx r P l.toArray Q l)) : G dl n σ k (Cx r P (.region i l.toArray false) Q) := fun a w hs hk => wpIn_region_lit (h a w hs hk)
def Lx (dl : List Deferred) (n : Nat) {α : Type} (S : α → List (Nat × Value)) (X : α → K) : Act → World → Prop := fun a w => ∃ x, SlotsD dl a n (S x) ∧ X x w
theorem cx_loop {α : Type} {body : (α → K) → α → K} {x0 : α} {S : α → List (Nat × Value)} (h : ∀ X : α → K, XH id X → ∀ x, G dl n (S x) (body X x) (Cx r P c (Exit.then (Lx dl n S X) Q))) (hi : firstReg c = id := by rfl) (hh : LH id S body := by first | assumption | (apply_assumption <;> assumption)) (h0 : Sub σ (S x0) := by exact sub_auto) :
    G dl n σ (LoopK body x0) (Cx r P (.loop c) Q) := fun a w hs ⟨I, μ, hI, hr⟩ => by
  refine cI_loop I μ (fun x a => SlotsD dl a n (S x)) x0 hI (hs.to h0) fun x a w hI hG => ?_
  refine wpIn_mono (h _ ⟨⟩ x a w hG (hr x w hI)) fun e a w hq => ?_
  cases e with
  | normal => exact hq
  | _ => exact hq
theorem lx_end {α : Type} {S : α → List (Nat × Value)} {X : α → K} {x : α} (hk : k = X x := by rfl) (h0 : Sub σ (S x) := by exact sub_auto) : G dl n σ k (Lx dl n S X) := fun a w hs h => ⟨x, hs.to h0, hk ▸ h⟩

theorem ex_then {Kc : Act → World → Prop} (h : G dl n σ k Kc) : G dl n σ k (Ex (Exit.then Kc Q) .normal) := h
theorem ex_then_x {Kc : Act → World → Prop} {i : Nat} (h : G dl n σ k (Ex Q (.exit i))) : G dl n σ k (Ex (Exit.then Kc Q) (.exit i)) := h
theorem ex_then_r {Kc : Act → World → Prop} (h : G dl n σ k (Ex Q .ret)) : G dl n σ k (Ex (Exit.then Kc Q) .ret) := h
theorem ex_blk {i : Nat} (h : G dl n σ k (Ex Q .normal)) : G dl n σ k (Ex (Exit.inBlock i Q) .normal) := h
theorem ex_blk_r {i : Nat} (h : G dl n σ k (Ex Q .ret)) : G dl n σ k (Ex (Exit.inBlock i Q) .ret) := h
theorem ex_blk_x {i : Nat} (h : G dl n σ k (Ex Q .normal)) : G dl n σ k (Ex (Exit.inBlock i Q) (.exit i)) := fun a w hs hk => by
  show Exit.inBlock i Q (.exit i) a w
  simp only [Exit.inBlock, if_true]; exact h a w hs hk
theorem ex_blk_y {i j : Nat} (h : G dl n σ k (Ex Q (.exit j))) (hij : Nat.beq j i = false := by rfl) : G dl n σ k (Ex (Exit.inBlock i Q) (.exit j)) := fun a w hs hk => by
  show Exit.inBlock i Q (.exit j) a w
  have : j ≠ i := fun e => by rw [e, Nat.beq_refl] at hij; cases hij
  simp only [Exit.inBlock, this, if_false]; exact h a w hs hk

/-! ### a function's end -/
def fin : List Value → Value
  | [v] => v
  | l => .tuple l.toArray
theorem fin_eq (l : List Value) : fin l = if h : l.toArray.size = 1 then l.toArray[0] else .tuple l.toArray := by
  cases l with
  | nil => rfl
  | cons v l => cases l <;> rfl
/-- The results are read, one after the other. -/
def Rx (P : Program) (kk : Value → K) (rs : List ResultVar) (vs : List Value) : Act → World → Prop := fun a w => ∃ us, (List.mapM (resSem a.tmps) rs).run P w = .ok us w ∧ kk (fin (vs ++ us)) w
theorem rx_run {fn : Func} {kk : Value → K} (h : Rx P kk fn.results.toList [] a w) : ∃ v, (results fn a.tmps).run P w = .ok v w ∧ kk v w := by
  obtain ⟨us, h1, h2⟩ := h
  refine ⟨fin us, ?_, h2⟩
  rw [results_eq, ← Array.toArray_toList (xs := fn.results), Array.mapM_eq_mapM_toList]
  simp only [Array.toArray_toList]
  simp only [Sem.run_bind, Sem.run_map, h1, Result.andThen, Sem.run_pure]
  rw [fin_eq]
theorem ex_ret {fn : Func} {kk : Value → K} {rs : List ResultVar} (h : G [] n σ k (Rx P kk rs [])) (hr : fn.results = rs.toArray := by rfl) : G [] n σ k (Ex (bodyPostT P fn (Ret kk)) .ret) := fun a w hs hk => by
  obtain ⟨v, h1, h2⟩ := rx_run (fn := fn) (by rw [hr]; exact h a w hs hk)
  show LeavesInM Fence.wide 0 P fn a.tmps (Ret kk) a.defers .returning w
  rw [hs.2]
  exact ⟨v, h1, h2⟩
theorem ex_end {fn : Func} {kk : Value → K} (h : G dl n σ k (Ex (bodyPostT P fn (Ret kk)) .ret)) : G dl n σ k (Ex (bodyPostT P fn (Ret kk)) .normal) := h
theorem ex_retM {fn : Func} {kk : Value → K} {D : Nat} {rs : List ResultVar} (h : G (markD D) n σ k (Rx P kk rs [])) (hr : fn.results = rs.toArray := by rfl) : G (markD D) n σ (TakeD D k) (Ex (bodyPostT P fn (Ret kk)) .ret) := fun a w hs hk => by
  obtain ⟨v, h1, h2⟩ := rx_run (fn := fn) (by rw [hr]; exact h a _ hs hk.2)
  show LeavesInM Fence.wide 0 P fn a.tmps (Ret kk) a.defers .returning w
  rw [hs.2]
  exact ⟨by simp, .inl ⟨D, _, rfl, run_takeDeferred hk.1, v, h1, h2⟩⟩
theorem rx_tmp {kk : Value → K} {t : Nat} {rs : List ResultVar} {vs : List Value} (h : G dl n σ k (Rx P kk rs (vs ++ [v]))) (ht : look σ t = some v := by rfl) : G dl n σ k (Rx P kk (.tmp t :: rs) vs) := fun a w hs hk => by
  obtain ⟨us, h1, h2⟩ := h a w hs hk
  refine ⟨v :: us, ?_, by simpa using h2⟩
  rw [List.mapM_cons]
  have h3 : (resSem a.tmps (.tmp t)).run P w = .ok v w := run_resAt (a := { a with defers := [] }) hs.1 (r := .tmp t) ht
  simp only [Sem.run_bind, h3, h1, Sem.run_pure, Result.andThen]
theorem rx_cell {α : Type} {c : α → Value} {kx : α → K} {kk : Value → K} {t T : Nat} {b : Addr} {rs : List ResultVar} {vs : List Value} [cl : CT P T] (h : ∀ x, G dl n σ (kx x) (Rx P kk rs (vs ++ [c x]))) (ht : look σ t = some (.pointer (some b)) := by rfl) : G dl n σ (Ld b c kx) (Rx P kk (.cell t T :: rs) vs) := fun a w hs ⟨x, hv, hk⟩ => by
  obtain ⟨us, h1, h2⟩ := h x a w hs hk
  refine ⟨c x :: us, ?_, by simpa using h2⟩
  rw [List.mapM_cons]
  have h3 : (resSem a.tmps (.cell t T)).run P w = .ok (c x) w := run_resAt (a := { a with defers := [] }) hs.1 (r := .cell t T) ⟨_, ht, run_loadVar cl.h hv⟩
  simp only [Sem.run_bind, h3, h1, Sem.run_pure, Result.andThen]
theorem rx_cellN {kx : Array Value → K} {kk : Value → K} {t T m : Nat} {b : Addr} {rs : List ResultVar} {vs : List Value} [cl : AT P T m] (h : ∀ x, G dl n σ (kx x) (Rx P kk rs (vs ++ [.agg x]))) (ht : look σ t = some (.pointer (some b)) := by rfl) : G dl n σ (LdN b m kx) (Rx P kk (.cell t T :: rs) vs) := fun a w hs ⟨x, hn, hv, hk⟩ => by
  obtain ⟨us, h1, h2⟩ := h x a w hs hk
  refine ⟨.agg x :: us, ?_, by simpa using h2⟩
  rw [List.mapM_cons]
  have h3 : (resSem a.tmps (.cell t T)).run P w = .ok (.agg x) w := run_resAt (a := { a with defers := [] }) hs.1 (r := .cell t T) ⟨_, ht, run_loadVarN cl.h hn hv⟩
  simp only [Sem.run_bind, h3, h1, Sem.run_pure, Result.andThen]
def Fx (k : K) : Act → World → Prop := fun _ w => k w
theorem rx_nil {kk : Value → K} {vs : List Value} (h : G dl n σ k (Fx (kk (fin vs)))) : G dl n σ k (Rx P kk [] vs) := fun a w hs hk => ⟨[], by simp, by rw [List.append_nil]; exact h a w hs hk⟩
section
variable {α β γ δ ε : Type} {u : Value}
theorem fx_0 {v0 : Value} {q : K} (hk : k = q := by rfl) (hu : u = v0 := by rfl) : G dl n σ k (Fx (Ans0 v0 q u)) := fun _ w _ h => ⟨hu, hk ▸ h⟩
theorem fx_1 {c : α → Value} {q : α → K} {x : α} (hk : k = q x := by rfl) (hu : u = c x := by rfl) : G dl n σ k (Fx (Ans1 c q u)) := fun _ w _ h => ⟨x, hu, hk ▸ h⟩
theorem fx_2 {c : α → β → Value} {q : α → β → K} {x : α} {y : β} (hk : k = q x y := by rfl) (hu : u = c x y := by rfl) : G dl n σ k (Fx (Ans2 c q u)) := fun _ w _ h => ⟨x, y, hu, hk ▸ h⟩
theorem fx_3 {c : α → β → γ → Value} {q : α → β → γ → K} {x : α} {y : β} {z : γ} (hk : k = q x y z := by rfl) (hu : u = c x y z := by rfl) : G dl n σ k (Fx (Ans3 c q u)) := fun _ w _ h => ⟨x, y, z, hu, hk ▸ h⟩
theorem fx_4 {c : α → β → γ → δ → Value} {q : α → β → γ → δ → K} {x : α} {y : β} {z : γ} {t : δ} (hk : k = q x y z t := by rfl) (hu : u = c x y z t := by rfl) : G dl n σ k (Fx (Ans4 c q u)) := fun _ w _ h => ⟨x, y, z, t, hu, hk ▸ h⟩
theorem fx_5 {c : α → β → γ → δ → ε → Value} {q : α → β → γ → δ → ε → K} {x : α} {y : β} {z : γ} {t : δ} {s : ε} (hk : k = q x y z t s := by rfl) (hu : u = c x y z t s := by rfl) : G dl n σ k (Fx (Ans5 c q u)) := fun _ w _ h => ⟨x, y, z, t, s, hu, hk ▸ h⟩
end
end
/-- The first slots of a function: its arguments. -/
def numb : Nat → List Value → List (Nat × Value)
  | _, [] => []
  | i, v :: vs => (i, v) :: numb (i + 1) vs
theorem numb_eq (l : List Value) (i : Nat) : ((l.zipIdx i).map fun p => (p.2, p.1)) = numb i l := by
  induction l generalizing i with
  | nil => rfl
  | cons v l ih => simp [numb, List.zipIdx_cons, ih]
theorem g_start {P : Program} {f : FuncId} {fn : Func} {c : Code} {args : List Value} {kk : Value → K} {k : K} (n : Nat) {w : World} (hk : k w) (hf : P.funcs[f]? = some fn) (h : G [] n (numb 0 args) k (Cx none P c (bodyPostT P fn (Ret kk)))) (hb : fn.body = some c := by rfl) (hn : fn.ntmps = n := by rfl) (hl : Nat.ble args.length n = true := by rfl) :
    CallF P f args.toArray kk w := by
  subst hn
  refine fI_start hf hb (Nat.le_of_ble_eq_true hl) fun a hs => h a w (by rw [← numb_eq]; exact hs) hk
end Go.Sep
