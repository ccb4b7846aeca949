/- The steps of a walk in a region whose order is drawn; the whole walk. Holds for every program. -/
import Derived.Test.YtfjjocopmknhgaaWalk2
namespace Go.Sep
open Go
set_option linter.unusedSimpArgs false
set_option linter.unusedVariables false

/-- In which order a drawn region is walked: some numbers one behind the other; whichever of several (0: one behind which S is asked no more, 1: S holds behind it, 2: it reads); by a guard. -/
inductive Scr where
  | e
  | s (l : List Nat) (t : Scr)
  | a (l : List (Nat × Nat × Scr))
  | i (x y : Scr)
/-- A hint: how a drawn region is walked: 0: no reads ahead, 1: all reads ahead of all else, 2: with an S. -/
structure DH (id mode : Nat) (ds : List Nat) (t : Scr) : Prop
def lst (n : Nat) (done : List Nat) : Array Bool := (Array.range n).map fun i => done.contains i
theorem lst_set (n i : Nat) (done : List Nat) : (lst n done).setIfInBounds i true = lst n (i :: done) := by
  apply Array.ext
  · simp [lst]
  · intro j h1 h2
    have h3 : j < (lst n done).size := by simpa using h1
    rw [Array.getElem_setIfInBounds h3]
    by_cases h : i = j
    · subst h; simp [lst]
    · have h' : ¬ j = i := fun e => h e.symm
      simp [lst, h, h']
theorem lst_nil (n : Nat) : Array.replicate n false = lst n [] := by
  apply Array.ext
  · simp [lst]
  · intro j h1 h2; simp [lst]
def Dx (P : Program) (ops : Array Oper) (Q : Exit → Act → World → Prop) (S : World → Prop) (ds done : List Nat) (t : Scr) : Act → World → Prop := fun a w => Tight Q → wpAnyD P ops Q S ds (ops.size - done.length) (lst ops.size done) a w
def Al (S : World → Prop) (k : K) : K := fun w => S w ∧ k w
/-- Number i comes up, whatever it does. -/
def Ox (P : Program) (ops : Array Oper) (Q : Exit → Act → World → Prop) (S : World → Prop) (ds done : List Nat) (i tag : Nat) (t : Scr) : Act → World → Prop := fun a w => Tight Q →
  opW P ops Q i (fun a' w' => (alive ds (lst ops.size done) = true → i ∉ ds → S w → S w') ∧ wpAnyD P ops Q S ds (ops.size - done.length - 1) (lst ops.size (i :: done)) a' w') a w
def Ax (P : Program) (ops : Array Oper) (Q : Exit → Act → World → Prop) (S : World → Prop) (ds done : List Nat) (l : List (Nat × Nat × Scr)) : Act → World → Prop := fun a w => ∀ p ∈ l, Ox P ops Q S ds done p.1 p.2.1 p.2.2 a w

def takeC (ops : Array Oper) (ds done : List Nat) (i : Nat) : Bool :=
  Region.noSelect ops && Region.free .any ops (lst ops.size done) i && (Region.ready .any ops (lst ops.size done)).contains i && !ds.contains i && Nat.ble (done.length + 1) ops.size
def closedB (ops : Array Oper) (l : Array Bool) : Bool :=
  (List.range ops.size).all fun j => match ops[j]? with
    | some oj => !l.getD j false || oj.after.all fun e => !Region.binds .any e || l.getD e.on false
    | none => true
def readC (ops : Array Oper) (ds done : List Nat) (i : Nat) : Bool := takeC ops ds done i && closedB ops (lst ops.size done) && ds.all fun d => reach ops i ops.size d
theorem closedB_spec {ops : Array Oper} {l : Array Bool} (h : closedB ops l = true) : Closed ops l := fun j oj hj hl e he hb => by
  have h1 := List.all_eq_true.1 h j (by simpa using (Array.getElem?_eq_some_iff.1 hj).1)
  simp only [hj, hl, Bool.not_true, Bool.false_or, Array.all_eq_true_iff_forall_mem] at h1
  have h2 := h1 e he
  simpa [hb] using h2
theorem tight_then {Q : Exit → Act → World → Prop} {K : Act → World → Prop} (h : Tight Q) : Tight (Exit.then K Q) := fun c a w hc => h c a w hc
theorem tight_blk {Q : Exit → Act → World → Prop} {i : Nat} (h : Tight Q) : Tight (Exit.inBlock i Q) := fun c a w hc => h c a w hc
theorem tight_auto {Q : Exit → Act → World → Prop} (h : Tight Q := by repeat (first | refine tight_then ?_ | refine tight_blk ?_ | exact tight_bodyT)) : Tight Q := h

section
variable {P : Program} {dl : List Deferred} {n : Nat} {σ τ : List (Nat × Value)} {k : K} {X : Act → World → Prop} {ops : Array Oper} {Q : Exit → Act → World → Prop} {l : List Oper} {o : Oper} {v : Value} {S : World → Prop} {ds done : List Nat} {i : Nat} {is : List Nat} {t : Scr}

theorem dx_first {T : World → Prop} (hi : ops[i]? = some o) (hc : takeC ops ds done i = true) (hT : (∀ w, T w) ∨ (T = S ∧ readC ops ds done i = true)) (hQ : Tight Q) {a : Act} {w : World} (hy : YieldsIf P ops T o v a) (hw : T w)
    (h : wpAnyD P ops Q S ds (ops.size - (i :: done).length) (lst ops.size (i :: done)) (a.put o.dst v) w) : wpAnyD P ops Q S ds (ops.size - done.length) (lst ops.size done) a w := by
  simp only [takeC, Bool.and_eq_true, Bool.not_eq_true'] at hc
  obtain ⟨⟨⟨⟨h1, h2⟩, h3⟩, h4⟩, h5⟩ := hc
  have h5 := Nat.le_of_ble_eq_true h5
  rw [show ops.size - done.length = (ops.size - (i :: done).length) + 1 by simp only [List.length_cons]; omega]
  refine wpAnyD_first hi (by intro hm; rw [List.contains_iff_mem.2 hm] at h4; cases h4) (Region.noSelect_spec h1) hQ _ _ a w (Region.free_spec hi h2) ?_ (by simpa using h3) hy hw (by rw [lst_set]; exact h)
  rcases hT with h | ⟨h, hr⟩
  · exact .inl h
  · simp only [readC, Bool.and_eq_true] at hr
    exact .inr ⟨h, closedB_spec hr.1.2, fun d hd => ⟨_, List.all_eq_true.1 hr.2 d hd⟩⟩

theorem dx_p {d : Nat} (h : G dl n ((d, v) :: σ) k (Dx P ops Q S ds (i :: done) (.s is t))) (hi : ops[i]? = some o := by rfl) (hd : o.dst = some d := by rfl) (hw : wants ops σ o = some true := by rfl) (hp : Pure P σ o v := by exact pu_auto) (hc : takeC ops ds done i = true := by kernel_rfl)
    (hn : Nat.ble (d + 1) n = true := by rfl) : G dl n σ k (Dx P ops Q S ds done (.s (i :: is) t)) := fun a w hs hk hQ =>
  dx_first (T := fun _ => True) hi hc (.inl fun _ => trivial) hQ (.inl ⟨wants_wanted hs.1 hw, fun w _ => hp { a with defers := [] } n hs.1 w⟩) trivial (by rw [hd]; exact h _ w (hs.put (Nat.le_of_ble_eq_true hn) v) hk hQ)
def less (ds : List Nat) (i : Nat) : List Nat := ds.filter fun j => !Nat.beq j i
theorem less_sub : ∀ d ∈ less ds i, d ∈ ds := fun d hd => (List.mem_filter.1 hd).1
theorem dx_no {d : Nat} (h : G dl n ((d, undef) :: σ) k (Dx P ops Q S (less ds i) (i :: done) (.s is t))) (hi : ops[i]? = some o := by rfl) (hd : o.dst = some d := by rfl) (hw : wants ops σ o = some false := by rfl) (hc : takeC ops (less ds i) done i = true := by kernel_rfl)
    (hn : Nat.ble (d + 1) n = true := by rfl) : G dl n σ k (Dx P ops Q S ds done (.s (i :: is) t)) := fun a w hs hk hQ =>
  wpAnyD_ds less_sub _ _ _ _ (dx_first (T := fun _ => True) (v := undef) hi hc (.inl fun _ => trivial) hQ (.inr ⟨wants_wanted hs.1 hw, rfl⟩) trivial (by rw [hd]; exact h _ w (hs.put (Nat.le_of_ble_eq_true hn) undef) hk hQ))
theorem dx_no' (h : G dl n σ k (Dx P ops Q S (less ds i) (i :: done) (.s is t))) (hi : ops[i]? = some o := by rfl) (hd : o.dst = none := by rfl) (hw : wants ops σ o = some false := by rfl) (hc : takeC ops (less ds i) done i = true := by kernel_rfl) : G dl n σ k (Dx P ops Q S ds done (.s (i :: is) t)) := fun a w hs hk hQ =>
  wpAnyD_ds less_sub _ _ _ _ (dx_first (T := fun _ => True) (v := undef) hi hc (.inl fun _ => trivial) hQ (.inr ⟨wants_wanted hs.1 hw, rfl⟩) trivial (by rw [hd]; exact h _ w hs hk hQ))
theorem dx_end (h : G dl n σ k (Dx P ops Q S ds done t)) : G dl n σ k (Dx P ops Q S ds done (.s [] t)) := h
section
variable {α : Type} {vx : α → Value} {k' : α → K} {d : Nat}
theorem dx_wp (h : ∀ x, G dl n ((d, vx x) :: σ) (k' x) (Dx P ops Q S ds (i :: done) (.s is t))) (hi : ops[i]? = some o := by rfl) (hd : o.dst = some d := by rfl) (hw : wants ops σ o = some true := by rfl) (hp : WP P σ o k vx k' := by exact wp_auto) (hc : takeC ops ds done i = true := by kernel_rfl)
    (hn : Nat.ble (d + 1) n = true := by rfl) : G dl n σ k (Dx P ops Q S ds done (.s (i :: is) t)) := fun a w hs hk hQ => by
  obtain ⟨x, hp, hk⟩ := hp w hk
  exact dx_first (T := fun _ => True) hi hc (.inl fun _ => trivial) hQ (.inl ⟨wants_wanted hs.1 hw, fun w _ => hp { a with defers := [] } n hs.1 w⟩) trivial (by rw [hd]; exact h x _ w (hs.put (Nat.le_of_ble_eq_true hn) _) hk hQ)
theorem dx_wpA (h : ∀ x, G dl n ((d, vx x) :: σ) (Al S (k' x)) (Dx P ops Q S ds (i :: done) (.s is t))) (hi : ops[i]? = some o := by rfl) (hd : o.dst = some d := by rfl) (hw : wants ops σ o = some true := by rfl) (hp : WP P σ o k vx k' := by exact wp_auto) (hc : takeC ops ds done i = true := by kernel_rfl)
    (hn : Nat.ble (d + 1) n = true := by rfl) : G dl n σ (Al S k) (Dx P ops Q S ds done (.s (i :: is) t)) := fun a w hs ⟨hS, hk⟩ hQ => by
  obtain ⟨x, hp, hk⟩ := hp w hk
  exact dx_first (T := fun _ => True) hi hc (.inl fun _ => trivial) hQ (.inl ⟨wants_wanted hs.1 hw, fun w _ => hp { a with defers := [] } n hs.1 w⟩) trivial (by rw [hd]; exact h x _ w (hs.put (Nat.le_of_ble_eq_true hn) _) ⟨hS, hk⟩ hQ)
theorem dx_r0 (h : ∀ x, G dl n ((d, vx x) :: σ) (Al S (k' x)) (Dx P ops Q S ds (i :: done) (.s is t))) (hi : ops[i]? = some o) (hd : o.dst = some d) (hw : wants ops σ o = some true) (hp : ∀ w, S w → k w → ∃ x, (∀ w, S w → Eff P σ o w (.value (vx x)) w) ∧ k' x w) (hc : readC ops ds done i = true)
    (hn : Nat.ble (d + 1) n = true) : G dl n σ (Al S k) (Dx P ops Q S ds done (.s (i :: is) t)) := fun a w hs ⟨hS, hk⟩ hQ => by
  obtain ⟨x, hp, hk⟩ := hp w hS hk
  have hc' : takeC ops ds done i = true := by simp only [readC, Bool.and_eq_true] at hc; exact hc.1.1
  exact dx_first (T := S) hi hc' (.inr ⟨rfl, hc⟩) hQ (.inl ⟨wants_wanted hs.1 hw, fun w hw => hp w hw { a with defers := [] } n hs.1⟩) hS (by rw [hd]; exact h x _ w (hs.put (Nat.le_of_ble_eq_true hn) _) ⟨hS, hk⟩ hQ)
theorem dx_is {w1 : World} (h : ∀ x, G dl n ((d, vx x) :: σ) (Al (Is w1) (k' x)) (Dx P ops Q (Is w1) ds (i :: done) (.s is t))) (hi : ops[i]? = some o := by rfl) (hd : o.dst = some d := by rfl) (hw : wants ops σ o = some true := by rfl) (hp : WR P σ o k vx k' := by exact wr_auto) (hc : readC ops ds done i = true := by kernel_rfl)
    (hn : Nat.ble (d + 1) n = true := by rfl) : G dl n σ (Al (Is w1) k) (Dx P ops Q (Is w1) ds done (.s (i :: is) t)) := dx_r0 h hi hd hw hp.is hc hn
theorem dx_S (h : ∀ x, G dl n ((d, vx x) :: σ) (Al S (k' x)) (Dx P ops Q S ds (i :: done) (.s is t))) (hi : ops[i]? = some o := by rfl) (hd : o.dst = some d := by rfl) (hw : wants ops σ o = some true := by rfl) (hp : WS P S σ o k vx k' := by exact ws_auto) (hc : readC ops ds done i = true := by kernel_rfl)
    (hn : Nat.ble (d + 1) n = true := by rfl) : G dl n σ (Al S k) (Dx P ops Q S ds done (.s (i :: is) t)) := dx_r0 h hi hd hw (fun w _ hk => hp w hk) hc hn
end
theorem dx_nil (h : G dl n σ k (Ex Q .normal)) (hc : Region.ready .any ops (lst ops.size done) = [] := by kernel_rfl) : G dl n σ k (Dx P ops Q S ds done .e) := fun a w hs hk _ => by
  show wpAnyD P ops Q S ds (ops.size - done.length) (lst ops.size done) a w
  cases ops.size - done.length with
  | zero => exact ⟨hc, h a w hs hk⟩
  | succ m => exact ⟨fun _ => h a w hs hk, by rw [hc]; simp⟩
theorem al_drop (h : G dl n σ k X) : G dl n σ (Al S k) X := fun a w hs hk => h a w hs hk.2
theorem dx_ite {b : Bool} {x y : K} {s t : Scr} (h1 : b = true → G dl n σ x (Dx P ops Q S ds done s)) (h2 : b = false → G dl n σ y (Dx P ops Q S ds done t)) : G dl n σ (Ite b x y) (Dx P ops Q S ds done (.i s t)) := fun a w hs hk => by
  cases b
  · exact h2 rfl a w hs (hk.2 rfl)
  · exact h1 rfl a w hs (hk.1 rfl)
theorem dx_iteA {b : Bool} {x y : K} {s t : Scr} (h1 : b = true → G dl n σ (Al S x) (Dx P ops Q S ds done s)) (h2 : b = false → G dl n σ (Al S y) (Dx P ops Q S ds done t)) : G dl n σ (Al S (Ite b x y)) (Dx P ops Q S ds done (.i s t)) := fun a w hs ⟨hS, hk⟩ => by
  cases b
  · exact h2 rfl a w hs ⟨hS, hk.2 rfl⟩
  · exact h1 rfl a w hs ⟨hS, hk.1 rfl⟩
theorem al_nn {p : Option Addr} {kp : Addr → K} (h : ∀ a, p = some a → G dl n σ (Al S (kp a)) X) : G dl n σ (Al S (Nn p kp)) X := fun a w hs ⟨hS, b, hb, hk⟩ => h b hb a w hs ⟨hS, hk⟩
theorem al_fv {f : Value} {kf : FuncId → Array Value → Array Value → K} (h : ∀ g fs cs, f = .func (.func g) fs cs → CB P g → G dl n σ (Al S (kf g fs cs)) X) : G dl n σ (Al S (Fv P f kf)) X := fun a w hs ⟨hS, g, fs, cs, hf, hc, hk⟩ => h g fs cs hf ⟨hc⟩ a w hs ⟨hS, hk⟩
theorem al_an1 {α : Type} {d : Nat} {u : Value} {c : α → Value} {k : α → K} (h : ∀ x, G dl n ((d, c x) :: σ) (Al S (k x)) X) : G dl n ((d, u) :: σ) (Al S (Ans1 c k u)) X := fun a w hs ⟨hS, x, hu, hk⟩ => h x a w (hu ▸ hs) ⟨hS, hk⟩
theorem al_an2 {α β : Type} {d : Nat} {u : Value} {c : α → β → Value} {k : α → β → K} (h : ∀ x y, G dl n ((d, c x y) :: σ) (Al S (k x y)) X) : G dl n ((d, u) :: σ) (Al S (Ans2 c k u)) X := fun a w hs ⟨hS, x, y, hu, hk⟩ => h x y a w (hu ▸ hs) ⟨hS, hk⟩

/-! ### whichever comes up -/
theorem dx_a {m : List (Nat × Nat × Scr)} (h : G dl n σ k (Ax P ops Q S ds done m)) (hr : Region.ready .any ops (lst ops.size done) = m.map (·.1) := by kernel_rfl) (hl : (Nat.ble (done.length + 1) ops.size && !m.isEmpty) = true := by rfl) : G dl n σ k (Dx P ops Q S ds done (.a m)) := fun a w hs hk hQ => by
  simp only [Bool.and_eq_true, Bool.not_eq_true'] at hl
  have h5 := Nat.le_of_ble_eq_true hl.1
  show wpAnyD P ops Q S ds (ops.size - done.length) (lst ops.size done) a w
  have h0 := h a w hs hk
  rw [show ops.size - done.length = (ops.size - done.length - 1) + 1 by omega]
  refine ⟨fun h0 => ?_, fun i hi => ?_⟩
  · rw [h0] at hr
    cases m with
    | nil => simp at hl
    | cons p m => simp at hr
  · rw [hr] at hi
    obtain ⟨p, hp, rfl⟩ := List.mem_map.1 hi
    have := h0 p hp hQ
    rw [lst_set]
    exact this
theorem ax_all {ks : List K} {m : List (Nat × Nat × Scr)} {i tag : Nat} {t : Scr} (h1 : G dl n σ k (Ox P ops Q S ds done i tag t)) (h2 : G dl n σ (All ks) (Ax P ops Q S ds done m)) : G dl n σ (All (k :: ks)) (Ax P ops Q S ds done ((i, tag, t) :: m)) := fun a w hs hk p hp => by
  rcases List.mem_cons.1 hp with rfl | hp
  · exact h1 a w hs (hk 0 _ rfl)
  · exact h2 a w hs (fun j x hx => hk (j + 1) x (by simpa using hx)) p hp
theorem ax_allA {ks : List K} {m : List (Nat × Nat × Scr)} {i tag : Nat} {t : Scr} (h1 : G dl n σ (Al S k) (Ox P ops Q S ds done i tag t)) (h2 : G dl n σ (Al S (All ks)) (Ax P ops Q S ds done m)) : G dl n σ (Al S (All (k :: ks))) (Ax P ops Q S ds done ((i, tag, t) :: m)) := fun a w hs ⟨hS, hk⟩ p hp => by
  rcases List.mem_cons.1 hp with rfl | hp
  · exact h1 a w hs ⟨hS, hk 0 _ rfl⟩
  · exact h2 a w hs ⟨hS, fun j x hx => hk (j + 1) x (by simpa using hx)⟩ p hp
theorem ax_nil : G dl n σ k (Ax P ops Q S ds done []) := fun _ _ _ _ _ hp => by cases hp
theorem ax_one {i tag : Nat} {t : Scr} (h1 : G dl n σ k (Ox P ops Q S ds done i tag t)) : G dl n σ k (Ax P ops Q S ds done [(i, tag, t)]) := fun a w hs hk p hp => by
  rcases List.mem_cons.1 hp with rfl | hp
  · exact h1 a w hs hk
  · cases hp

def okK (ops : Array Oper) (S : World → Prop) (ds done : List Nat) (i : Nat) : Prop := (∀ w, S w) ∨ (ds.contains i || !alive ds (lst ops.size done)) = true
theorem okK.keep (h : okK ops S ds done i) (w w' : World) : alive ds (lst ops.size done) = true → i ∉ ds → S w → S w' := fun ha hi _ => by
  rcases h with h | h
  · exact h w'
  · rw [ha] at h
    simp only [Bool.not_true, Bool.or_false] at h
    exact absurd (List.contains_iff_mem.1 h) hi
theorem okK_auto (h : okK ops S ds done i := by first | exact .inl (fun _ => trivial) | exact .inr (by kernel_rfl)) : okK ops S ds done i := h
theorem ox_run {a : Act} {w : World} (hs : SlotsD dl a n σ) (hi : ops[i]? = some o) (hw : wants ops σ o = some true) {tag : Nat} (h : Tight Q → o.wpIn Fence.wide 0 P a w (fun a' w' => (alive ds (lst ops.size done) = true → i ∉ ds → S w → S w') ∧ wpAnyD P ops Q S ds (ops.size - done.length - 1) (lst ops.size (i :: done)) a' w') Q) : Ox P ops Q S ds done i tag t a w := by
  intro hQ
  unfold opW wpOpIn
  simp only [hi, wants_wanted hs.1 hw, if_true]
  exact h hQ
theorem dn_len {m : Nat} : ops.size - done.length - 1 = ops.size - (i :: done).length := by simp only [List.length_cons]; omega
section
variable {α : Type} {vx : α → Value} {k' : α → K} {d : Nat} {k1 : K}
theorem ox_e (h : ∀ x, G dl n ((d, vx x) :: σ) (k' x) (Dx P ops Q S ds (i :: done) t)) (hi : ops[i]? = some o := by rfl) (hd : o.dst = some d := by rfl) (hw : wants ops σ o = some true := by rfl) (hp : WE P σ o k vx k' := by first | exact we_auto | exact WR.we wr_auto) (hK : okK ops S ds done i := by exact okK_auto)
    (hn : Nat.ble (d + 1) n = true := by rfl) (nd : isDef o.op = false := by rfl) : G dl n σ k (Ox P ops Q S ds done i 0 t) := fun a w hs hk => by
  obtain ⟨x, w', hp, h'⟩ := hp w hk
  refine ox_run hs hi hw fun hQ => (op_value (r := none) hs nd hp ⟨hK.keep w w', ?_⟩)
  rw [hd, dn_len (m := 0)]; exact h x _ w' (hs.put (Nat.le_of_ble_eq_true hn) _) h' hQ
theorem ox_en (h : ∀ x, G dl n σ (k' x) (Dx P ops Q S ds (i :: done) t)) (hi : ops[i]? = some o := by rfl) (hd : o.dst = none := by rfl) (hw : wants ops σ o = some true := by rfl) (hp : WE P σ o k vx k' := by exact we_auto) (hK : okK ops S ds done i := by exact okK_auto)
    (nd : isDef o.op = false := by rfl) : G dl n σ k (Ox P ops Q S ds done i 0 t) := fun a w hs hk => by
  obtain ⟨x, w', hp, h'⟩ := hp w hk
  refine ox_run hs hi hw fun hQ => (op_value (r := none) hs nd hp ⟨hK.keep w w', ?_⟩)
  rw [hd, dn_len (m := 0)]; exact h x _ w' hs h' hQ
theorem ox_k (h : G dl n σ k1 (Dx P ops Q S ds (i :: done) t)) (hi : ops[i]? = some o := by rfl) (hd : o.dst = none := by rfl) (hw : wants ops σ o = some true := by rfl) (hp : WK P σ o k k1 := by exact wk_auto) (hK : okK ops S ds done i := by exact okK_auto)
    (nd : isDef o.op = false := by rfl) : G dl n σ k (Ox P ops Q S ds done i 0 t) := fun a w hs hk => by
  obtain ⟨w', hp, h'⟩ := hp w hk
  refine ox_run hs hi hw fun hQ => (op_skip (r := none) hs nd hp ⟨hK.keep w w', ?_⟩)
  rw [hd, dn_len (m := 0)]; exact h _ w' hs h' hQ
theorem ox_c {kk : Value → K} (h : ∀ u, G dl n ((d, u) :: σ) (kk u) (Dx P ops Q S ds (i :: done) t)) (hi : ops[i]? = some o := by rfl) (hd : o.dst = some d := by rfl) (hw : wants ops σ o = some true := by rfl) (hp : WC P σ o k kk := by exact wc_auto) (hK : okK ops S ds done i := by exact okK_auto)
    (hn : Nat.ble (d + 1) n = true := by rfl) (nd : isDef o.op = false := by rfl) : G dl n σ k (Ox P ops Q S ds done i 0 t) := fun a w hs hk => by
  obtain ⟨f, args, w', hp, hc⟩ := hp w hk
  refine ox_run hs hi hw fun hQ => (op_call (r := none) hs nd hp hc fun v w1 h' => ⟨hK.keep w w1, ?_⟩)
  rw [hd, dn_len (m := 0)]; exact h v _ w1 (hs.put (Nat.le_of_ble_eq_true hn) _) h' hQ
theorem ox_cn {kk : Value → K} (h : ∀ u, G dl n σ (kk u) (Dx P ops Q S ds (i :: done) t)) (hi : ops[i]? = some o := by rfl) (hd : o.dst = none := by rfl) (hw : wants ops σ o = some true := by rfl) (hp : WC P σ o k kk := by exact wc_auto) (hK : okK ops S ds done i := by exact okK_auto)
    (nd : isDef o.op = false := by rfl) : G dl n σ k (Ox P ops Q S ds done i 0 t) := fun a w hs hk => by
  obtain ⟨f, args, w', hp, hc⟩ := hp w hk
  refine ox_run hs hi hw fun hQ => (op_call (r := none) hs nd hp hc fun v w1 h' => ⟨hK.keep w w1, ?_⟩)
  rw [hd, dn_len (m := 0)]; exact h v _ w1 hs h' hQ
theorem ox_y {kk : Value → K} (h : ∀ u, G dl n ((d, u) :: σ) (kk u) (Dx P ops Q S ds (i :: done) t)) (hi : ops[i]? = some o := by rfl) (hd : o.dst = some d := by rfl) (hw : wants ops σ o = some true := by rfl) (hp : WY P σ o k kk := by exact wy_y rfl rfl rfl) (hK : okK ops S ds done i := by exact okK_auto)
    (hn : Nat.ble (d + 1) n = true := by rfl) (nd : isDef o.op = false := by rfl) : G dl n σ k (Ox P ops Q S ds done i 0 t) := fun a w hs hk => by
  obtain ⟨y, args, hp, hc⟩ := hp w hk
  refine ox_run hs hi hw fun hQ => (op_yield hs nd hp hc fun v w1 h' => ⟨hK.keep w w1, ?_⟩)
  rw [hd, dn_len (m := 0)]; exact h v _ w1 (hs.put (Nat.le_of_ble_eq_true hn) _) h' hQ
-- S holds behind it
theorem ox_e1 (h : ∀ x, G dl n ((d, vx x) :: σ) (Al S (k' x)) (Dx P ops Q S ds (i :: done) t)) (hi : ops[i]? = some o := by rfl) (hd : o.dst = some d := by rfl) (hw : wants ops σ o = some true := by rfl) (hp : WE P σ o k vx (fun x => Sv S (k' x)) := by exact we_auto)
    (hn : Nat.ble (d + 1) n = true := by rfl) (nd : isDef o.op = false := by rfl) : G dl n σ (Al S k) (Ox P ops Q S ds done i 1 t) := fun a w hs ⟨_, hk⟩ => by
  obtain ⟨x, w', hp, hS, h'⟩ := hp w hk
  refine ox_run hs hi hw fun hQ => (op_value (r := none) hs nd hp ⟨fun _ _ _ => hS, ?_⟩)
  rw [hd, dn_len (m := 0)]; exact h x _ w' (hs.put (Nat.le_of_ble_eq_true hn) _) ⟨hS, h'⟩ hQ
theorem ox_en1 (h : ∀ x, G dl n σ (Al S (k' x)) (Dx P ops Q S ds (i :: done) t)) (hi : ops[i]? = some o := by rfl) (hd : o.dst = none := by rfl) (hw : wants ops σ o = some true := by rfl) (hp : WE P σ o k vx (fun x => Sv S (k' x)) := by exact we_auto)
    (nd : isDef o.op = false := by rfl) : G dl n σ (Al S k) (Ox P ops Q S ds done i 1 t) := fun a w hs ⟨_, hk⟩ => by
  obtain ⟨x, w', hp, hS, h'⟩ := hp w hk
  refine ox_run hs hi hw fun hQ => (op_value (r := none) hs nd hp ⟨fun _ _ _ => hS, ?_⟩)
  rw [hd, dn_len (m := 0)]; exact h x _ w' hs ⟨hS, h'⟩ hQ
theorem ox_k1 (h : G dl n σ (Al S k1) (Dx P ops Q S ds (i :: done) t)) (hi : ops[i]? = some o := by rfl) (hd : o.dst = none := by rfl) (hw : wants ops σ o = some true := by rfl) (hp : WK P σ o k (Sv S k1) := by exact wk_auto)
    (nd : isDef o.op = false := by rfl) : G dl n σ (Al S k) (Ox P ops Q S ds done i 1 t) := fun a w hs ⟨_, hk⟩ => by
  obtain ⟨w', hp, hS, h'⟩ := hp w hk
  refine ox_run hs hi hw fun hQ => (op_skip (r := none) hs nd hp ⟨fun _ _ _ => hS, ?_⟩)
  rw [hd, dn_len (m := 0)]; exact h _ w' hs ⟨hS, h'⟩ hQ
/-- An answer, with S. -/
def SvA (S : World → Prop) (kk : Value → K) (kS : Value → K) : Prop := ∀ u w, kk u w → S w ∧ kS u w
theorem sva_0 {v0 : Value} {k : K} : SvA S (Ans0 v0 (Sv S k)) (Ans0 v0 k) := fun _ _ ⟨h, hS, hk⟩ => ⟨hS, h, hk⟩
theorem sva_1 {α : Type} {c : α → Value} {k : α → K} : SvA S (Ans1 c fun x => Sv S (k x)) (Ans1 c k) := fun _ _ ⟨x, h, hS, hk⟩ => ⟨hS, x, h, hk⟩
theorem sva_2 {α β : Type} {c : α → β → Value} {k : α → β → K} : SvA S (Ans2 c fun x y => Sv S (k x y)) (Ans2 c k) := fun _ _ ⟨x, y, h, hS, hk⟩ => ⟨hS, x, y, h, hk⟩
theorem sva_3 {α β γ : Type} {c : α → β → γ → Value} {k : α → β → γ → K} : SvA S (Ans3 c fun x y z => Sv S (k x y z)) (Ans3 c k) := fun _ _ ⟨x, y, z, h, hS, hk⟩ => ⟨hS, x, y, z, h, hk⟩
theorem ox_c1 {kk kS : Value → K} (h : ∀ u, G dl n ((d, u) :: σ) (Al S (kS u)) (Dx P ops Q S ds (i :: done) t)) (hi : ops[i]? = some o := by rfl) (hd : o.dst = some d := by rfl) (hw : wants ops σ o = some true := by rfl) (hp : WC P σ o k kk := by exact wc_auto)
    (hS : SvA S kk kS := by first | exact sva_1 | exact sva_0 | exact sva_2 | exact sva_3) (hn : Nat.ble (d + 1) n = true := by rfl) (nd : isDef o.op = false := by rfl) : G dl n σ (Al S k) (Ox P ops Q S ds done i 1 t) := fun a w hs ⟨_, hk⟩ => by
  obtain ⟨f, args, w', hp, hc⟩ := hp w hk
  refine ox_run hs hi hw fun hQ => (op_call (r := none) hs nd hp hc fun v w1 h' => ⟨fun _ _ _ => (hS v w1 h').1, ?_⟩)
  rw [hd, dn_len (m := 0)]; exact h v _ w1 (hs.put (Nat.le_of_ble_eq_true hn) _) (hS v w1 h') hQ
-- it reads
theorem ox_r2 (h : ∀ x, G dl n ((d, vx x) :: σ) (k' x) (Dx P ops Q S ds (i :: done) t)) (hi : ops[i]? = some o := by rfl) (hd : o.dst = some d := by rfl) (hw : wants ops σ o = some true := by rfl) (hp : WR P σ o k vx k' := by exact wr_auto)
    (hn : Nat.ble (d + 1) n = true := by rfl) (nd : isDef o.op = false := by rfl) : G dl n σ k (Ox P ops Q S ds done i 2 t) := fun a w hs hk => by
  obtain ⟨x, hp, h'⟩ := hp w hk
  refine ox_run hs hi hw fun hQ => (op_value (r := none) hs nd hp ⟨fun _ _ h => h, ?_⟩)
  rw [hd, dn_len (m := 0)]; exact h x _ w (hs.put (Nat.le_of_ble_eq_true hn) _) h' hQ
theorem ox_r2A (h : ∀ x, G dl n ((d, vx x) :: σ) (Al S (k' x)) (Dx P ops Q S ds (i :: done) t)) (hi : ops[i]? = some o := by rfl) (hd : o.dst = some d := by rfl) (hw : wants ops σ o = some true := by rfl) (hp : WR P σ o k vx k' := by exact wr_auto)
    (hn : Nat.ble (d + 1) n = true := by rfl) (nd : isDef o.op = false := by rfl) : G dl n σ (Al S k) (Ox P ops Q S ds done i 2 t) := fun a w hs ⟨hS, hk⟩ => by
  obtain ⟨x, hp, h'⟩ := hp w hk
  refine ox_run hs hi hw fun hQ => (op_value (r := none) hs nd hp ⟨fun _ _ h => h, ?_⟩)
  rw [hd, dn_len (m := 0)]; exact h x _ w (hs.put (Nat.le_of_ble_eq_true hn) _) ⟨hS, h'⟩ hQ
end

/-! ### a drawn region's beginning -/
variable {k0 : K} {id : Nat}
theorem cx_draw0 (h : G dl n σ k0 (Dx P l.toArray Q Any ds [] t)) (hh : DH id 0 ds t := by assumption) (hQ : Tight Q := by exact tight_auto) [hm : MX P] : G dl n σ (Dr k0) (Cx none P (.region id l.toArray true) Q) := fun a w hs ⟨w1, hw, hk⟩ => by
  subst hw
  have h1 := h a _ hs hk hQ
  refine wpIn_region_any hm.h (wpAnyIn_of_D (S := Any) (ds := ds) _ _ _ _ ?_)
  rw [lst_nil]; exact h1
theorem cx_draw1 (h : ∀ w1, G dl n σ (Al (Is w1) k0) (Dx P l.toArray Q (Is w1) ds [] t)) (hh : DH id 1 ds t := by assumption) (hQ : Tight Q := by exact tight_auto) [hm : MX P] : G dl n σ (Dr k0) (Cx none P (.region id l.toArray true) Q) := fun a w hs ⟨w1, hw, hk⟩ => by
  subst hw
  have h1 := h _ a _ hs ⟨Is.intro _, hk⟩ hQ
  refine wpIn_region_any hm.h (wpAnyIn_of_D (S := Is { w with drawn := w.drawn + 1 }) (ds := ds) _ _ _ _ ?_)
  rw [lst_nil]; exact h1
theorem cx_draw2 {kS : (World → Prop) → K} (h : ∀ S, G dl n σ (Al S (kS S)) (Dx P l.toArray Q S ds [] t)) (hh : DH id 2 ds t := by assumption) (hQ : Tight Q := by exact tight_auto) [hm : MX P] : G dl n σ (Dr (WithS kS)) (Cx none P (.region id l.toArray true) Q) := fun a w hs ⟨w1, hw, S, hS, hk⟩ => by
  subst hw
  have h1 := h S a _ hs ⟨hS, hk⟩ hQ
  refine wpIn_region_any hm.h (wpAnyIn_of_D (S := S) (ds := ds) _ _ _ _ ?_)
  rw [lst_nil]; exact h1

/-! ### a drawn region that only reads -/
/-- The order of the text, in the world w. -/
def Sx (P : Program) (ops : Array Oper) (Q : Exit → Act → World → Prop) (l : List Oper) : Act → World → Prop := fun a w => wpStill P ops w (fun a' => Q .normal a' w) l a
theorem cx_still (h : G [] n σ k0 (Sx P l.toArray Q l)) [hm : MX P] (hB : Region.lexB .any l.toArray = true := by kernel_rfl) : G [] n σ (Dr k0) (Cx none P (.region id l.toArray true) Q) := fun a w hs ⟨w1, hw, hk⟩ => by
  refine wpIn_wide.2 (s_start hm.h hB hw (h a w1 hs hk))
theorem sx_p {d : Nat} (h : G [] n ((d, v) :: σ) k (Sx P ops Q l)) (hd : o.dst = some d := by rfl) (hw : wants ops σ o = some true := by rfl) (hp : Pure P σ o v := by exact pu_auto) (hn : Nat.ble (d + 1) n = true := by rfl) : G [] n σ k (Sx P ops Q (o :: l)) := fun a w hs hk =>
  s_yes hs.nil hw (s_pure hs.nil rfl hd (Nat.le_of_ble_eq_true hn) hp fun a h' => h a w h'.D hk)
theorem sx_no {d : Nat} (h : G [] n ((d, undef) :: σ) k (Sx P ops Q l)) (hd : o.dst = some d := by rfl) (hw : wants ops σ o = some false := by rfl) (hn : Nat.ble (d + 1) n = true := by rfl) : G [] n σ k (Sx P ops Q (o :: l)) := fun a w hs hk =>
  s_no hs.nil hw hd (Nat.le_of_ble_eq_true hn) fun a h' => h a w h'.D hk
section
variable {α : Type} {vx : α → Value} {k' : α → K} {d : Nat}
theorem sx_r0 (hr : WR P σ o k vx k') (h : ∀ x, G [] n ((d, vx x) :: σ) (k' x) (Sx P ops Q l)) (hd : o.dst = some d) (hw : wants ops σ o = some true) (hn : Nat.ble (d + 1) n = true) : G [] n σ k (Sx P ops Q (o :: l)) := fun a w hs hk => by
  obtain ⟨x, hp, h'⟩ := hr w hk
  exact s_yes hs.nil hw (s_eff hs.nil rfl hd (Nat.le_of_ble_eq_true hn) hp fun a hs' => h x a w hs'.D h')
theorem sx_wp (h : ∀ x, G [] n ((d, vx x) :: σ) (k' x) (Sx P ops Q l)) (hd : o.dst = some d := by rfl) (hw : wants ops σ o = some true := by rfl) (hp : WP P σ o k vx k' := by exact wp_auto) (hn : Nat.ble (d + 1) n = true := by rfl) : G [] n σ k (Sx P ops Q (o :: l)) := sx_r0 hp.wr h hd hw hn
theorem sx_wr (h : ∀ x, G [] n ((d, vx x) :: σ) (k' x) (Sx P ops Q l)) (hd : o.dst = some d := by rfl) (hw : wants ops σ o = some true := by rfl) (hp : WR P σ o k vx k' := by exact wr_auto) (hn : Nat.ble (d + 1) n = true := by rfl) : G [] n σ k (Sx P ops Q (o :: l)) := sx_r0 hp h hd hw hn
end
theorem sx_ite {b : Bool} {x y : K} (h1 : b = true → G dl n σ x (Sx P ops Q (o :: l))) (h2 : b = false → G dl n σ y (Sx P ops Q (o :: l))) (hg : gslot ops σ o = some (.bool b) := by rfl) : G dl n σ (Ite b x y) (Sx P ops Q (o :: l)) := fun a w hs hk => by
  cases b
  · exact h2 rfl a w hs (hk.2 rfl)
  · exact h1 rfl a w hs (hk.1 rfl)
theorem sx_nil (h : G [] n σ k (Ex Q .normal)) : G [] n σ k (Sx P ops Q []) := fun a w hs hk => h a w hs hk
end
end Go.Sep
