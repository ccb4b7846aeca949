/- Ranges over a function: steps of code that calls yield, and of a round's body. Holds for every program. -/
import Derived.Test.YtfjjocopmknhgaaEffs
import Derived.Test.YtfjjocopmknhgaaRules
import Derived.RangeFuncRecord
import Derived.RangeFuncSeq
import Derived.RangeFuncCalls
import Derived.TacticsIn
namespace Go.Sep
open Go
set_option linter.unusedSimpArgs false
set_option linter.unusedVariables false

/-- A frame of which some slots are known, and what calls are deferred. -/
def SlotsD (ds : List Deferred) (a : Act) (n : Nat) (σ : List (Nat × Value)) : Prop := Slots { a with defers := [] } n σ ∧ a.defers = ds

section
variable {P : Program} {ops : Array Oper} {Q : Exit → Act → World → Prop} {rest : List Oper} {o : Oper} {a : Act} {n m : Nat} {σ τ : List (Nat × Value)} {w w' : World} {v : Value} {F : Fence} {ds : List Deferred}

theorem Slots.D (h : Slots a n σ) : SlotsD [] a n σ := by
  obtain ⟨t, d⟩ := a
  have := h.defers
  simp only at this
  subst this
  exact ⟨h, rfl⟩
theorem SlotsD.nil (h : SlotsD [] a n σ) : Slots a n σ := by
  obtain ⟨t, d⟩ := a
  obtain ⟨h1, h2⟩ := h
  simp only at h2
  subst h2
  exact h1
theorem SlotsD.to (h : SlotsD ds a n σ) (hs : Sub σ τ) : SlotsD ds a n τ := ⟨h.1.to hs, h.2⟩
theorem SlotsD.put (h : SlotsD ds a n σ) {d : Nat} (hd : d < n) (v : Value) : SlotsD ds (a.put (some d) v) n ((d, v) :: σ) := by
  have h1 := h.1.put hd v
  exact ⟨h1, h.2⟩

/-- A fence that lets all in. -/
structure Free (F : Fence) : Prop where
  fn : ∀ f, F.fn f
  depth : F.depth = none
theorem free_wide : Free Fence.wide := ⟨fun _ => trivial, rfl⟩
theorem Free.round (h : Free F) (l : Nat) : Free (F.inRound l) := ⟨h.fn, h.depth⟩

theorem tI_eff (hF : Free F) (hs : SlotsD ds a n σ) {d : Nat} (hg : o.guard = none) (hd : o.dst = some d) (hn : d < n) (ho : ∀ c, o.op ≠ .defer c) (hp : Eff P σ o w (.value v) w')
    (hk : ∀ a, SlotsD ds a n ((d, v) :: σ) → wpListIn F m P ops Q rest a w') : wpListIn F m P ops Q (o :: rest) a w := by
  unfold wpListIn
  rw [if_pos (by simp [Region.wanted, hg])]
  refine ⟨fun f _ => hF.fn f, ?_⟩
  rw [Oper.semAt_eq _ _ _ ho]
  have h1 : (execOp a.eval o).run P w = .ok (.value v) w' := hp { a with defers := [] } n hs.1
  rw [h1, Oper.uponIn_value, hd]
  exact hk _ (hs.put hn v)
theorem tI_pure (hF : Free F) (hs : SlotsD ds a n σ) {d : Nat} (hg : o.guard = none) (hd : o.dst = some d) (hn : d < n) (ho : ∀ c, o.op ≠ .defer c) (hp : Sep.Pure P σ o v)
    (hk : ∀ a, SlotsD ds a n ((d, v) :: σ) → wpListIn F m P ops Q rest a w) : wpListIn F m P ops Q (o :: rest) a w :=
  tI_eff hF hs hg hd hn ho (hp.eff w) hk
theorem tI_none (hF : Free F) (hs : SlotsD ds a n σ) (hg : o.guard = none) (hd : o.dst = none) (ho : ∀ c, o.op ≠ .defer c) (hp : Eff P σ o w (.value v) w')
    (hk : ∀ a, SlotsD ds a n σ → wpListIn F m P ops Q rest a w') : wpListIn F m P ops Q (o :: rest) a w := by
  unfold wpListIn
  rw [if_pos (by simp [Region.wanted, hg])]
  refine ⟨fun f _ => hF.fn f, ?_⟩
  rw [Oper.semAt_eq _ _ _ ho]
  have h1 : (execOp a.eval o).run P w = .ok (.value v) w' := hp { a with defers := [] } n hs.1
  rw [h1, Oper.uponIn_value, hd]
  exact hk _ hs
theorem tI_skip (hF : Free F) (hs : SlotsD ds a n σ) (hg : o.guard = none) (hd : o.dst = none) (ho : ∀ c, o.op ≠ .defer c) (hp : Eff P σ o w .skip w')
    (hk : ∀ a, SlotsD ds a n σ → wpListIn F m P ops Q rest a w') : wpListIn F m P ops Q (o :: rest) a w := by
  unfold wpListIn
  rw [if_pos (by simp [Region.wanted, hg])]
  refine ⟨fun f _ => hF.fn f, ?_⟩
  rw [Oper.semAt_eq _ _ _ ho]
  have h1 : (execOp a.eval o).run P w = .ok .skip w' := hp { a with defers := [] } n hs.1
  rw [h1, Oper.uponIn_skip, hd]
  exact hk _ hs

/-- A fence that lets all in asks no more than none. -/
theorem callsIn_free (hF : Free F) {f : FuncId} {args : Array Value} {R : Ending → World → Prop} (ha : F.alive = false) (h : Calls P f args w R) : CallsIn F m P f args w R := by
  obtain ⟨h1, h2⟩ := (callsIn_wide (n := m)).2 h
  refine ⟨hF.fn f, fun cs hr => ?_⟩
  obtain ⟨e, w', fr, r, s, x⟩ := h2 cs (fun d hd => by cases hd)
  refine ⟨e, w', fr, r, ?_, x⟩
  have key : Machine.fenced P Fence.wide = Machine.fenced P F := by
    funext mm
    unfold Machine.fenced
    simp [Fence.wide, ha, hF.fn, Fence.room, hF.depth]
  rwa [key] at s

theorem tI_call (hF : Free F) (hal : F.alive = false) (hs : SlotsD ds a n σ) {d : Nat} {f : FuncId} {args : Array Value} {k : Value → World → Prop} (hg : o.guard = none) (hd : o.dst = some d) (hn : d < n) (ho : ∀ c, o.op ≠ .defer c) (hp : Eff P σ o w (.enter f args) w')
    (hc : Calls P f args w' (Ret k)) (hk : ∀ v a w, k v w → SlotsD ds a n ((d, v) :: σ) → wpListIn F m P ops Q rest a w) : wpListIn F m P ops Q (o :: rest) a w := by
  unfold wpListIn
  rw [if_pos (by simp [Region.wanted, hg])]
  refine ⟨fun f _ => hF.fn f, ?_⟩
  rw [Oper.semAt_eq _ _ _ ho]
  have h1 : (execOp a.eval o).run P w = .ok (.enter f args) w' := hp { a with defers := [] } n hs.1
  rw [h1, Oper.uponIn_enter]
  refine ⟨(fun h => by rw [hF.depth] at h; cases h), callsIn_free hF hal (hc.mono fun e w'' he => ?_)⟩
  cases e with
  | returned v => rw [hd]; exact hk v _ w'' he (hs.put hn v)
  | panicked c => exact he.elim
  | outgrown => exact he.elim

theorem roundIn_free {m' l : Nat} {f : FuncId} {tmps : Array Value} {assign body : Code} {R : Ending → World → Prop} (h : RoundIn Fence.wide m P l f tmps assign body w R) : RoundIn Fence.wide m' P l f tmps assign body w R :=
  ⟨h.1, fun c cs _ => h.2 c cs (fun d hd => by cases hd)⟩

/-- A call of yield, in an iterator. -/
theorem tI_yield (hs : SlotsD ds a n σ) {d l : Nat} {args : Array Value} {k : Value → World → Prop} (hg : o.guard = none) (hd : o.dst = some d) (hn : d < n) (ho : ∀ c, o.op ≠ .defer c)
    (hp : ∀ (x : Next), (Instr.yield l args).run P w = .ok x w → Eff P σ o w x w)
    (hc : YieldAt Fence.wide 0 P l args w (Ret k)) (hk : ∀ v a w, k v w → SlotsD ds a n ((d, v) :: σ) → wpListIn Fence.wide m P ops Q rest a w) : wpListIn Fence.wide m P ops Q (o :: rest) a w := by
  obtain ⟨fn, tmps, as, bd, hy, hr⟩ := hc
  unfold wpListIn
  rw [if_pos (by simp [Region.wanted, hg])]
  refine ⟨fun f _ => trivial, ?_⟩
  rw [Oper.semAt_eq _ _ _ ho]
  have h1 : (execOp a.eval o).run P w = .ok (.round l fn tmps as bd) w := hp _ hy { a with defers := [] } n hs.1
  rw [h1, Oper.uponIn_round]
  refine ⟨(fun h => by cases h), roundIn_free (hr.mono fun e w'' he => ?_)⟩
  cases e with
  | returned v => rw [hd]; exact hk v _ w'' he (hs.put hn v)
  | panicked c => exact he.elim
  | outgrown => exact he.elim

theorem cI_cond {c : Operand} {x y : Code} {t : Bool} (hs : SlotsD ds a n σ) (hc : ev σ c = some (.bool t)) (h1 : t = true → x.wpIn F m P Q a w) (h2 : t = false → y.wpIn F m P Q a w) : (Code.cond c x y).wpIn F m P Q a w :=
  wpIn_cond_split (hs.1.ev hc) h1 h2

theorem cI_loop {α : Type} {c : Code} (I : α → World → Prop) (μ : α → World → Nat) (G : α → Act → Prop) (x : α) (h0 : I x w) (hG : G x a)
    (h : ∀ x a w, I x w → G x a → c.wpIn F m P (Exit.then (fun a' w' => ∃ x', G x' a' ∧ I x' w' ∧ μ x' w' < μ x w) Q) a w) : (Code.loop c).wpIn F m P Q a w := by
  classical
  let R : Act → World → Nat → Prop := fun a w k => ∃ x, I x w ∧ G x a ∧ μ x w = k
  have key : ∀ k a w, R a w k → (Code.loop c).wpIn F m P Q a w := by
    intro k0 a0 w0 hR0
    intro b kk cs hro hb hr
    have key2 : ∀ j a w, R a w j → ∃ e a' w', Q e a' w' ∧ ArrivesIn (Machine.fenced P F) P (lone (b.atR a (.code c :: .inLoop c :: kk)) cs w) b kk cs e a' w' := by
      intro j
      induction j using Nat.strongRecOn with
      | _ j ih =>
        rintro a w ⟨x, hI, hGx, hμ⟩
        obtain ⟨e, a₁, w₁, hq, harr⟩ := h x a w hI hGx b (.inLoop c :: kk) cs hro hb hr
        cases e with
        | normal =>
          obtain ⟨x', hG', hI', hlt⟩ := hq
          obtain ⟨e₂, a₂, w₂, hq₂, harr₂⟩ := ih (μ x' w₁) (hμ ▸ hlt) a₁ w₁ ⟨x', hI', hG', rfl⟩
          exact ⟨e₂, a₂, w₂, hq₂, .of_steps (StepsIn.trans harr (.one (fenced_calm hb hr rfl) stepR_inLoop)) harr₂⟩
        | exit id => exact ⟨_, a₁, w₁, hq, .pass (x := .inLoop c) rfl (fun _ _ => .inl (by simp)) harr⟩
        | goto l => exact ⟨_, a₁, w₁, hq, .pass (x := .inLoop c) rfl (fun _ _ => .inl (by simp)) harr⟩
        | ret => exact ⟨_, a₁, w₁, hq, .pass (x := .inLoop c) rfl (fun _ _ => .inl (by simp)) harr⟩
        | panic ch => exact ⟨_, a₁, w₁, hq, .pass (x := .inLoop c) rfl (fun _ _ => .inl (by simp)) harr⟩
        | outgrown => exact ⟨_, a₁, w₁, hq, .pass (x := .inLoop c) rfl (fun _ _ => .inl (by simp)) harr⟩
    obtain ⟨e, a', w', hq, harr⟩ := key2 k0 a0 w0 hR0
    exact ⟨e, a', w', hq, .of_steps (.one (fenced_calm hb hr rfl) stepR_loop) harr⟩
  exact key _ a w ⟨x, h0, hG, rfl⟩

abbrev yv (l : Nat) : Value := .func (.yield l) #[] #[]
/-- A call of yield. -/
def CallY (P : Program) (f : Value) (args : List Value) (k : Value → K) : K := fun w => ∃ l, f = .func (.yield l) #[] #[] ∧ YieldAt Fence.wide 0 P l args.toArray w (Ret k)
theorem e_yield {l : Nat} {x : Operand} {xs : Array Operand} {ts : Array TypeId} {vs : List Value} (ho : o.op = .call { callee := .value x, args := xs, argTypes := ts }) (hx : ev σ x = some (.func (.yield l) #[] #[])) (hv : evs σ xs.toList = some vs) :
    ∀ (y : Next), (Instr.yield l vs.toArray).run P w = .ok y w → Eff P σ o w y w := fun y hy a _ hs => by
  have h1 : xs.map a.eval = vs.toArray := by apply Array.ext'; simpa using evs_spec hs hv
  simp [execOp, ho, resolve, hs.ev hx, h1, Deferred.ofValue, invoke, hy]

def markD (D : Nat) : List Deferred := [{ target := .collected D, args := #[] }]
/-- A round has ended: the loop is ready for the next one. -/
def EndR (l : Nat) (r : Loop) (k : K) : K := fun w => w.heap[l]? = some (.loop r) ∧ k (w.putObj l (.loop { r with state := .ready, pending := none }))
def TakeD (D : Nat) (k : K) : K := fun w => w.heap[D]? = some (.deferred (some [])) ∧ k (w.putObj D (.deferred none))
/-- A range over a function: what it calls yield with comes to the body. -/
def RangeF {α : Type} (P : Program) (fv : Value) (cX : α → Value) (body : K → α → K) (after : Nat → K) : K := fun w =>
  ∃ g cs, fv = .func (.func g) #[] cs ∧ callable P g = true ∧
    ∀ (r : Loop) (w1 : World), r.state = .ready → r.pending = none → r.defers = w.heap.size → w1 = (w.alloc (.deferred (some []))).alloc (.loop r) →
      (∀ (x : α) (k : K) (W : World), W.heap[w.heap.size + 1]? = some (.loop r) →
        body (EndR (w.heap.size + 1) { r with state := .busy } k) x (W.putObj (w.heap.size + 1) (.loop { r with state := .busy })) →
        YieldAt Fence.wide 0 P (w.heap.size + 1) #[cX x] W (Ret fun v w' => v = .bool true ∧ k w')) →
      Calls P g (yv (w.heap.size + 1) :: cs.toList).toArray w1 (Ret fun _ w3 => w3.heap[w.heap.size + 1]? = some (.loop r) ∧ after w.heap.size (w3.putObj (w.heap.size + 1) (.loop { r with state := .exhausted })))

theorem SlotsD.init (args : List Value) (n : Nat) (hn : args.length ≤ n) : SlotsD [] { tmps := args.toArray ++ Array.replicate (n - args.toArray.size) undef, defers := [] } n (args.zipIdx.map fun p => (p.2, p.1)) := (Slots.init args n hn).D

theorem c_range {α : Type} {g : Operand} {p : Tmp} {assign body : Code} {fv : Value} {cX : α → Value} {bodyK : K → α → K} {after : Nat → K} {σ2 : α → List (Nat × Value)} (hs : SlotsD [] a n σ) (hg : ev σ g = some fv) (hp : p < n)
    (h : RangeF P fv cX bodyK after w)
    (hassign : ∀ (l : Nat) (x : α) (k : Act → World → Prop) (a : Act) (w : World), SlotsD [] a n ((p, cX x) :: σ) → (∀ a, SlotsD [] a n (σ2 x) → k a w) → assign.wpIn (Fence.wide.inRound l) 0 P (Exit.then k (fun _ _ _ => False)) a w)
    (hbody : ∀ (l : Nat) (x : α) (k : K) (a : Act) (w : World), SlotsD [] a n (σ2 x) → bodyK k x w → body.wpIn (Fence.wide.inRound l) 0 P (Exit.then (fun _ w => k w) (fun _ _ _ => False)) a w)
    (hafter : ∀ (D : Nat) (a : Act) (w : World), SlotsD (markD D) a n σ → after D w → Q .normal a w) : (Code.rangeFunc g #[p] assign body).wpIn Fence.wide 0 P Q a w := by
  obtain ⟨gf, cs, hfv, hcb, h⟩ := h
  refine wpIn_rangeFunc fun fn hfn => ?_
  obtain ⟨r, hr⟩ : ∃ r : Loop, r = { state := .ready, pending := none, fn, tmps := a.tmps, params := #[p], assign, body, defers := w.heap.size } := ⟨_, rfl⟩
  have h2 := h r _ (by rw [hr]) (by rw [hr]) (by rw [hr]) rfl
  refine ⟨w.heap.size + 1, markD w.heap.size, (w.alloc (.deferred (some []))).alloc (.loop r), { target := .fn (.func gf) cs, args := #[.func (.yield (w.heap.size + 1)) #[] #[]] }, (w.alloc (.deferred (some []))).alloc (.loop r), gf,
    (yv (w.heap.size + 1) :: cs.toList).toArray, (w.alloc (.deferred (some []))).alloc (.loop r), ?_, ?_, fun _ _ => trivial, ?_, (fun h => by cases h), ?_⟩
  · rw [hr]; exact run_enterLoop_outer _ _ _ _ _
  · have he : a.eval g = .func (.func gf) #[] cs := by rw [← hfv]; exact hs.1.ev hg
    simp only [resolve, he]
    simp [go_sem]
  · simp [invoke, run_callFunc hcb]
  · refine callsIn_free free_wide rfl ((h2 ?_).mono fun e w3 he => ?_)
    · intro x k W hl hb
      refine ⟨fn, _, assign, body, (run_yield (P := P) (args := #[cX x]) hl (by rw [hr]; rfl)).trans (by rw [hr]), ?_⟩
      refine roundIn_of_wpIn trivial ?_
      have hs1 : SlotsD [] { tmps := a.tmps.setIfInBounds p (cX x), defers := [] } n ((p, cX x) :: σ) := by
        have := hs.1.put hp (cX x)
        exact ⟨this, rfl⟩
      refine hassign _ x _ _ W (by simpa using hs1) fun a1 hs2 => ?_
      refine ⟨_, run_beginRound hl (by rw [hr]), ?_⟩
      refine wpIn_mono (hbody _ x _ a1 _ hs2 hb) fun e a w hq => ?_
      cases e with
      | normal =>
        obtain ⟨h3, h4⟩ := hq
        exact ⟨_, _, run_endRound none h3, rfl, h4⟩
      | _ => exact hq.elim
    · cases e with
      | returned v =>
        obtain ⟨h3, h4⟩ := he
        refine ⟨_, _, run_endLoop h3 (by rw [hr]; simp), ?_⟩
        have hn : r.pending = none := by rw [hr]
        have h5 := hafter _ { a with defers := markD w.heap.size ++ a.defers } _ ⟨hs.1, by simp [hs.2, markD]⟩ h4
        rw [hn] at h5 ⊢
        exact h5
      | panicked c => exact he.elim
      | outgrown => exact he.elim

/-- How a function that ranges over a function, or is an iterator, ends. -/
def bodyPostT (P : Program) (fn : Func) (R : Ending → World → Prop) : Exit → Act → World → Prop
  | .normal, a, w | .ret, a, w => LeavesInM Fence.wide 0 P fn a.tmps R a.defers .returning w
  | _, _, _ => False
theorem tight_bodyT {fn : Func} {R : Ending → World → Prop} : Tight (bodyPostT P fn R) := fun _ _ _ h => h
theorem fI_start {f : FuncId} {fn : Func} {c : Code} {args : List Value} {R : Value → World → Prop} (hf : P.funcs[f]? = some fn) (hb : fn.body = some c) (hn : args.length ≤ fn.ntmps)
    (h : ∀ a, SlotsD [] a fn.ntmps (args.zipIdx.map fun p => (p.2, p.1)) → c.wpIn Fence.wide 0 P (bodyPostT P fn (Ret R)) a w) : Calls P f args.toArray w (Ret R) := by
  refine callsIn_wide.1 (callsIn_of_wp_marks (n := 0) hf hb trivial ?_)
  refine wpIn_mono (h _ (SlotsD.init args _ hn)) fun e a w hq => ?_
  cases e with
  | normal => exact hq
  | ret => exact hq
  | _ => exact hq.elim
theorem fI_ret {fn : Func} {R : Value → World → Prop} {v : Value} (hs : SlotsD [] a n σ) (hr : ∀ a, Slots a n σ → (results fn a.tmps).run P w = .ok v w) (h : R v w) : bodyPostT P fn (Ret R) .ret a w := by
  show LeavesInM Fence.wide 0 P fn a.tmps (Ret R) a.defers .returning w
  rw [hs.2]
  exact ⟨v, hr _ hs.nil, h⟩
theorem fI_end {fn : Func} {R : Value → World → Prop} {v : Value} (hs : SlotsD [] a n σ) (hr : ∀ a, Slots a n σ → (results fn a.tmps).run P w = .ok v w) (h : R v w) : bodyPostT P fn (Ret R) .normal a w := fI_ret hs hr h
theorem fI_retM {fn : Func} {R : Value → World → Prop} {v : Value} {D : Nat} (hs : SlotsD (markD D) a n σ) (hr : ∀ a w, Slots a n σ → (results fn a.tmps).run P w = .ok v w) (h : TakeD D (R v) w) : bodyPostT P fn (Ret R) .ret a w := by
  show LeavesInM Fence.wide 0 P fn a.tmps (Ret R) a.defers .returning w
  rw [hs.2]
  exact ⟨by simp, .inl ⟨D, _, rfl, run_takeDeferred h.1, v, hr { a with defers := [] } _ hs.1, h.2⟩⟩
theorem fI_endM {fn : Func} {R : Value → World → Prop} {v : Value} {D : Nat} (hs : SlotsD (markD D) a n σ) (hr : ∀ a w, Slots a n σ → (results fn a.tmps).run P w = .ok v w) (h : TakeD D (R v) w) : bodyPostT P fn (Ret R) .normal a w := fI_retM hs hr h
end

/-! ### the same side by side -/
section
variable {P : Program} {B w : World} {Γ : List HProp}
theorem putObj_setObj {l : Nat} {o o' : Obj} (h : Holds B (blk l o :: Γ) w) : Holds B (blk l o' :: Γ) (w.putObj l o') := h.setBlock rfl
theorem r_endR {l : Nat} {r : Loop} {k : K} (h : Holds B (blk l (.loop r) :: Γ) w) (hk : ∀ w, Holds B (blk l (.loop { r with state := .ready, pending := none }) :: Γ) w → k w) : EndR l r k w := ⟨h.block, hk _ (putObj_setObj h)⟩
theorem r_takeD {D : Nat} {k : K} (h : Holds B (blk D (.deferred (some [])) :: Γ) w) (hk : ∀ w, Holds B Γ w → k w) : TakeD D k w := ⟨h.block, hk _ (putObj_setObj (o' := .deferred none) h).tail⟩
theorem r_rangeF {α : Type} {fv : Value} {cX : α → Value} {body : K → α → K} {after : Nat → K} {g : FuncId} {cs : Array Value} (h : Holds B Γ w) (hf : fv = .func (.func g) #[] cs) (hc : callable P g = true)
    (hk : ∀ (D l : Nat) (r : Loop) (w : World), r.state = .ready → r.pending = none → Holds B (blk l (.loop r) :: blk D (.deferred (some [])) :: Γ) w →
      (∀ (x : α) (k : K) (W : World) (Δ : List HProp), Holds B (blk l (.loop r) :: Δ) W → (∀ W, Holds B (blk l (.loop { r with state := .busy }) :: Δ) W → body (EndR l { r with state := .busy } k) x W) →
        CallY P (.func (.yield l) #[] #[]) [cX x] (fun v w => v = .bool true ∧ k w) W) →
      Calls P g (yv l :: cs.toList).toArray w (Ret fun _ w3 => ∃ Δ, Holds B (blk l (.loop r) :: Δ) w3 ∧ ∀ w, Holds B Δ w → after D w)) : RangeF P fv cX body after w := by
  refine ⟨g, cs, hf, hc, fun r w1 h1 h2 h3 hw hy => ?_⟩
  have h4 := h.alloc (.deferred (some []))
  have h5 := h4.alloc (.loop r)
  have e : ({ w with heap := w.heap.push (.deferred (some [])) } : World).heap.size = w.heap.size + 1 := by simp
  rw [e] at h5
  subst hw
  refine (hk w.heap.size (w.heap.size + 1) r _ h1 h2 h5 fun x k W Δ hW hb => ?_).mono fun e w3 he => ?_
  · exact ⟨_, rfl, hy x k W hW.block (hb _ (putObj_setObj hW))⟩
  · cases e with
    | returned v =>
      obtain ⟨Δ, h6, h7⟩ := he
      exact ⟨h6.block, h7 _ (putObj_setObj h6).tail⟩
    | panicked c => exact he.elim
    | outgrown => exact he.elim
end
theorem ret_mono {P : Program} {f : FuncId} {args : Array Value} {w : World} {k k' : Value → World → Prop} (h : Calls P f args w (Ret k)) (hk : ∀ v w, k v w → k' v w) : Calls P f args w (Ret k') :=
  h.mono fun e w he => by
    cases e with
    | returned v => exact hk _ _ he
    | panicked c => exact he.elim
    | outgrown => exact he.elim
theorem callY_mono {P : Program} {f : Value} {args : List Value} {w : World} {k k' : Value → K} (h : CallY P f args k w) (hk : ∀ v w, k v w → k' v w) : CallY P f args k' w := by
  obtain ⟨l, hl, fn, tm, sg, bd, hy, hr⟩ := h
  refine ⟨l, hl, fn, tm, sg, bd, hy, hr.mono fun e w he => ?_⟩
  cases e with
  | returned v => exact hk _ _ he
  | panicked c => exact he.elim
  | outgrown => exact he.elim
end Go.Sep
