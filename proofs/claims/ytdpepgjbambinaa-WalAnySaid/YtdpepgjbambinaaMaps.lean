/- Maps: what a map of one's own does, as a list of keys and values. -/
import Derived.Test.YtdpepgjbambinaaRules
import Derived.Test.YtdpepgjbambinaaEffs
import Derived.MapKept
import GoSem.Instr.MapUpdate
namespace Go.Sep
open Go Go.RowKit Go.MapKept
set_option linter.unusedSimpArgs false
set_option linter.unusedVariables false
set_option linter.unusedSectionVars false

section
variable {α β : Type} [DecidableEq α]
def mget (k : α) : List (α × β) → Option β
  | [] => none
  | p :: m => if k = p.1 then some p.2 else mget k m
def mset (k : α) (v : β) : List (α × β) → List (α × β)
  | [] => [(k, v)]
  | p :: m => if k = p.1 then (k, v) :: m else p :: mset k v m
def mdel (k : α) : List (α × β) → List (α × β)
  | [] => []
  | p :: m => if k = p.1 then m else p :: mdel k m

theorem mfind (k : α) : ∀ m : List (α × β), (mget k m = none ∧ (∀ v, mset k v m = m ++ [(k, v)]) ∧ mdel k m = m ∧ ∀ p ∈ m, p.1 ≠ k) ∨
    ∃ j x, j < m.length ∧ m[j]? = some (k, x) ∧ (∀ i, i < j → ∀ p, m[i]? = some p → p.1 ≠ k) ∧ mget k m = some x ∧ (∀ v, mset k v m = m.set j (k, v)) ∧ mdel k m = m.eraseIdx j
  | [] => .inl ⟨rfl, fun _ => rfl, rfl, by simp⟩
  | p :: m => by
    by_cases hk : k = p.1
    · refine .inr ⟨0, p.2, by simp, by rw [hk]; rfl, fun i hi => by omega, by simp [mget, hk], fun v => by simp [mset, hk], by simp [mdel, hk]⟩
    · rcases mfind k m with ⟨h1, h2, h3, h4⟩ | ⟨j, x, hj, h0, hb, h1, h2, h3⟩
      · refine .inl ⟨by simp [mget, hk, h1], fun v => by simp [mset, hk, h2], by simp [mdel, hk, h3], fun q hq => ?_⟩
        rcases List.mem_cons.1 hq with rfl | hq
        · exact fun e => hk e.symm
        · exact h4 q hq
      · refine .inr ⟨j + 1, x, by simpa using hj, by simpa using h0, fun i hi q hq => ?_, by simp [mget, hk, h1], fun v => by simp [mset, hk, h2], by simp [mdel, hk, h3]⟩
        cases i with
        | zero => simp at hq; subst hq; exact fun e => hk e.symm
        | succ i => exact hb i (by omega) q (by simpa using hq)
end

/-- A way to write keys. -/
structure KeyE {α : Type} (d : TypeDesc) (enc : α → Value) : Prop where
  key : ∀ a, IsKey d (enc a)
  inj : ∀ a b, enc a = enc b → a = b
  bits : ∀ a, Instr.sameBits 10000 (enc a) (enc a) = true
theorem keyE_int (k : IntKind) : KeyE (.int k) (Value.int k) := ⟨fun _ => rfl, fun a b h => by injection h, fun a => by simp [Instr.sameBits]⟩
theorem keyE_string : KeyE .string Value.string := ⟨fun _ => trivial, fun a b h => by injection h, fun a => by
  show (a == a) = true
  rw [bytes_beq]⟩

section
variable {α β : Type} [DecidableEq α] {P : Program} {B w : World} {Γ : List HProp} {enc : α → Value} {cV : β → Value}

def mrel (enc : α → Value) (cV : β → Value) (es : Array MapEntry) (m : List (α × β)) : Prop := es.toList.map (fun e => (e.key, e.val)) = m.map fun p => (enc p.1, cV p.2)
/-- The entries' stamps are unlike, and below the clock. -/
def stamps (es : Array MapEntry) (c : Nat) : Prop := (es.toList.map (·.born)).Nodup ∧ ∀ e ∈ es.toList, e.born < c
theorem stamps_nil (c : Nat) : stamps #[] c := ⟨by simp, by simp⟩
theorem stamps_push {es : Array MapEntry} {c : Nat} (h : stamps es c) (k v : Value) : stamps (es.push { key := k, val := v, born := c }) (c + 1) := by
  refine ⟨?_, fun e he => ?_⟩
  · simp only [Array.toList_push, List.map_append, List.map_cons, List.map_nil]
    rw [List.nodup_append]
    refine ⟨h.1, by simp, fun x hx y hy => ?_⟩
    simp only [List.mem_singleton] at hy
    subst hy
    obtain ⟨e, he, rfl⟩ := List.mem_map.1 hx
    have := h.2 e he
    omega
  · simp only [Array.toList_push] at he
    rcases List.mem_append.1 he with he | he
    · have := h.2 e he; omega
    · simp only [List.mem_singleton] at he; subst he; exact Nat.lt_succ_self _
theorem stamps_modify {es : Array MapEntry} {c : Nat} (h : stamps es c) (j : Nat) (k v : Value) : stamps (es.modify j fun e => { e with key := k, val := v }) c := by
  have e1 : (es.modify j fun e => { e with key := k, val := v }).toList.map (·.born) = es.toList.map (·.born) := by
    apply List.ext_getElem?
    intro i
    simp only [List.getElem?_map, Array.getElem?_toList, Array.getElem?_modify]
    split
    · cases es[i]? <;> rfl
    · rfl
  refine ⟨by rw [e1]; exact h.1, fun e he => ?_⟩
  have : e.born ∈ es.toList.map (·.born) := by rw [← e1]; exact List.mem_map_of_mem he
  obtain ⟨e', he', hb⟩ := List.mem_map.1 this
  rw [← hb]; exact h.2 e' he'
theorem stamps_erase {es : Array MapEntry} {c : Nat} (h : stamps es c) (j : Nat) : stamps (es.eraseIdxIfInBounds j) c := by
  have hs : List.Sublist (es.eraseIdxIfInBounds j).toList es.toList := by
    unfold Array.eraseIdxIfInBounds
    split
    · rw [Array.toList_eraseIdx]; exact List.eraseIdx_sublist _ _
    · exact List.Sublist.refl _
  exact ⟨h.1.sublist (hs.map _), fun e he => h.2 e (hs.subset he)⟩
def MapR (enc : α → Value) (cV : β → Value) (b : Nat) (m : List (α × β)) : HProp := ex fun es : Array MapEntry => ex fun c : Nat => fun g => (mrel enc cV es m ∧ stamps es c) ∧ blk b (.map es c) g

theorem MapR.opens {b : Nat} {m : List (α × β)} (h : Holds B (MapR enc cV b m :: Γ) w) : ∃ es c, (mrel enc cV es m ∧ stamps es c) ∧ Holds B (blk b (.map es c) :: Γ) w := by
  obtain ⟨es, h⟩ := Holds.ex.1 h
  obtain ⟨c, h⟩ := Holds.ex.1 h
  exact ⟨es, c, h.fact fun g hg => hg.1, h.imp fun g hg => hg.2⟩
theorem MapR.shuts {b : Nat} {m : List (α × β)} {es : Array MapEntry} {c : Nat} (hr : mrel enc cV es m ∧ stamps es c) (h : Holds B (blk b (.map es c) :: Γ) w) : Holds B (MapR enc cV b m :: Γ) w :=
  Holds.ex.2 ⟨es, Holds.ex.2 ⟨c, h.imp fun g hg => ⟨hr, hg⟩⟩⟩

theorem mrel_at {es : Array MapEntry} {m : List (α × β)} (hr : mrel enc cV es m) (i : Nat) : (es.toList[i]?).map (fun e => (e.key, e.val)) = (m[i]?).map fun p => (enc p.1, cV p.2) := by
  have := congrArg (·[i]?) hr
  simpa using this
theorem mrel_keys {d : TypeDesc} (hE : KeyE d enc) {es : Array MapEntry} {m : List (α × β)} (hr : mrel enc cV es m) : ∀ x ∈ es.toList, IsKey d x.key := by
  intro x hx
  have : (x.key, x.val) ∈ m.map fun p => (enc p.1, cV p.2) := by rw [← hr]; exact List.mem_map_of_mem hx
  obtain ⟨p, _, hp⟩ := List.mem_map.1 this
  have : enc p.1 = x.key := congrArg Prod.fst hp
  rw [← this]; exact hE.key _

/-- Where a key is found. -/
theorem mfound {d : TypeDesc} (hE : KeyE d enc) {es : Array MapEntry} {m : List (α × β)} (hr : mrel enc cV es m) (k : α) :
    (Instr.findNow d (enc k) es.toList 0 = some none ∧ mget k m = none ∧ (∀ v, mset k v m = m ++ [(k, v)]) ∧ mdel k m = m) ∨
    ∃ j x, Instr.findNow d (enc k) es.toList 0 = some (some (j, cV x)) ∧ j < m.length ∧ m[j]? = some (k, x) ∧ mget k m = some x ∧ (∀ v, mset k v m = m.set j (k, v)) ∧ mdel k m = m.eraseIdx j := by
  have hlen : es.toList.length = m.length := by have := congrArg List.length hr; simpa using this
  rcases mfind k m with ⟨h1, h2, h3, h4⟩ | ⟨j, x, hj, h0, hb, h1, h2, h3⟩
  · refine .inl ⟨?_, h1, h2, h3⟩
    rcases findNow_spec (hE.key k) es.toList 0 (mrel_keys hE hr) with ⟨g1, _⟩ | ⟨i, e, g1, g2, g3⟩
    · exact g1
    · have := mrel_at hr i
      rw [g2] at this
      cases hm : m[i]? with
      | none => rw [hm] at this; simp at this
      | some p =>
        rw [hm] at this
        simp only [Option.map_some, Option.some.injEq, Prod.mk.injEq] at this
        exact absurd (hE.inj _ _ (this.1.symm.trans g3)) (h4 p (List.mem_of_getElem? hm))
  · have key : ∀ (l : List MapEntry) (m : List (α × β)) (j i : Nat), l.map (fun e => (e.key, e.val)) = m.map (fun p => (enc p.1, cV p.2)) → m[j]? = some (k, x) → (∀ i, i < j → ∀ p, m[i]? = some p → p.1 ≠ k) →
        Instr.findNow d (enc k) l i = some (some (i + j, cV x)) := by
      intro l
      induction l with
      | nil => intro m j i hr hm _; cases m <;> simp at hr hm
      | cons e l ih =>
        intro m j i hr hm hb
        cases m with
        | nil => simp at hr
        | cons p m =>
          simp only [List.map_cons, List.cons.injEq, Prod.mk.injEq] at hr
          obtain ⟨⟨e1, e2⟩, hr⟩ := hr
          obtain ⟨r, hs, hiff⟩ := sameNow_of_keys (hE.key k) (hE.key p.1)
          unfold Instr.findNow
          rw [e1, hs]
          cases j with
          | zero =>
            simp only [List.getElem?_cons_zero, Option.some.injEq] at hm
            subst hm
            have : r = true := hiff.2 rfl
            subst this
            simp only [e2, Nat.add_zero]
          | succ j =>
            have hne : p.1 ≠ k := hb 0 (by omega) p rfl
            have : r = false := by
              cases r with
              | false => rfl
              | true => exact absurd (hE.inj _ _ (hiff.1 rfl)) (fun e => hne e.symm)
            subst this
            simp only
            rw [ih m j (i + 1) hr (by simpa using hm) (fun i' hi' q hq => hb (i' + 1) (by omega) q (by simpa using hq))]
            congr 3; omega
    refine .inr ⟨j, x, ?_, hj, h0, h1, h2, h3⟩
    have := key es.toList m j 0 hr h0 hb
    rwa [Nat.zero_add] at this

/-- A map type, its key's kind and its element. -/
def mapIs (P : Program) (T : TypeId) (d : TypeDesc) (E : TypeId) : Prop := ∃ kt, P.underlying T = some (.map kt E) ∧ P.underlying kt = some d

theorem r_mkMap {T : TypeId} {d : TypeDesc} {E : TypeId} {k : Option Nat → K} (h : Holds B Γ w) (hk : ∀ b w, Holds B (MapR enc cV b [] :: Γ) w → k (some b) w) :
    Do P (Instr.makeMap T none) Value.map k w := by
  refine ⟨some w.heap.size, { w with heap := w.heap.push (.map #[] 0) }, rfl, hk _ _ (MapR.shuts (es := #[]) (c := 0) ⟨rfl, stamps_nil 0⟩ (h.alloc _))⟩

theorem run_look {T E : TypeId} {d : TypeDesc} {b : Nat} {m : List (α × β)} {z : β} {a : α} (hT : mapIs P T d E) (hE : KeyE d enc) (hz : zeroT P E (cV z)) {es : Array MapEntry} {c : Nat} (hb : w.heap[b]? = some (.map es c)) (hr : mrel enc cV es m) (ok : Bool) :
    (Instr.lookup T (.map (some b)) (enc a) ok).run P w = .ok (if ok then .tuple #[cV ((mget a m).getD z), .bool (mget a m).isSome] else cV ((mget a m).getD z)) w := by
  obtain ⟨kt, hT, hd⟩ := hT
  unfold Instr.lookup
  simp only [Sem.run_bind, run_underlying hT, Result.andThen, MapKept.run_getObj_map hb, run_checkKey hd (hE.key a), Sem.run_pure]
  rcases mfound hE hr a with ⟨h1, h2, _⟩ | ⟨j, x, h1, _, _, h2, _⟩
  · simp only [run_findKey hd h1, Result.andThen, Sem.run_bind, zeroT_spec hz, Sem.run_pure, h2]
    cases ok <;> rfl
  · simp only [run_findKey hd h1, Result.andThen, Sem.run_bind, Sem.run_pure, h2]
    cases ok <;> rfl

theorem r_look2 {T E : TypeId} {d : TypeDesc} {b : Nat} {m : List (α × β)} {z : β} {a : α} {k : β → Bool → K} (hT : mapIs P T d E) (hE : KeyE d enc) (hz : zeroT P E (cV z)) (h : Holds B (MapR enc cV b m :: Γ) w)
    (hk : k ((mget a m).getD z) (mget a m).isSome w) : Rd2 P (Instr.lookup T (.map (some b)) (enc a) true) (fun x y => .tuple #[cV x, .bool y]) k w := by
  obtain ⟨es, c, ⟨hr, hst⟩, h⟩ := MapR.opens h
  exact ⟨_, _, run_look hT hE hz h.block hr true, hk⟩
theorem r_look1 {T E : TypeId} {d : TypeDesc} {b : Nat} {m : List (α × β)} {z : β} {a : α} {k : β → K} (hT : mapIs P T d E) (hE : KeyE d enc) (hz : zeroT P E (cV z)) (h : Holds B (MapR enc cV b m :: Γ) w)
    (hk : k ((mget a m).getD z) w) : Rd P (Instr.lookup T (.map (some b)) (enc a) false) cV k w := by
  obtain ⟨es, c, ⟨hr, hst⟩, h⟩ := MapR.opens h
  exact ⟨_, run_look hT hE hz h.block hr false, hk⟩

theorem Holds.setMap {b : Nat} {es es' : Array MapEntry} {c c' : Nat} (h : Holds B (blk b (.map es c) :: Γ) w) : (setObj b (.map es' c')).run P w = .ok () { w with heap := w.heap.setIfInBounds b (.map es' c') } ∧
    Holds B (blk b (.map es' c') :: Γ) { w with heap := w.heap.setIfInBounds b (.map es' c') } :=
  ⟨run_setObj_map _ h.block, h.setBlock rfl⟩

theorem r_look2g {γ : Type} {cG : γ → Value} {g : β → γ} {T E : TypeId} {d : TypeDesc} {b : Nat} {m : List (α × β)} {z : β} {a : α} {k : γ → Bool → K} (hc : ∀ x, cV x = cG (g x)) (hT : mapIs P T d E) (hE : KeyE d enc) (hz : zeroT P E (cV z)) (h : Holds B (MapR enc cV b m :: Γ) w)
    (hk : k (g ((mget a m).getD z)) (mget a m).isSome w) : Rd2 P (Instr.lookup T (.map (some b)) (enc a) true) (fun x y => .tuple #[cG x, .bool y]) k w := by
  obtain ⟨es, c, ⟨hr, hst⟩, h⟩ := MapR.opens h
  have := run_look (a := a) hT hE hz h.block hr true
  exact ⟨g ((mget a m).getD z), _, by rw [hc] at this; exact this, hk⟩

theorem r_upd {T E : TypeId} {d : TypeDesc} {b : Nat} {m : List (α × β)} {a : α} {v : β} {k : K} (hT : mapIs P T d E) (hE : KeyE d enc) (h : Holds B (MapR enc cV b m :: Γ) w)
    (hk : ∀ w', Holds B (MapR enc cV b (mset a v m) :: Γ) w' → k w') : DoU P (Instr.mapUpdate T (.map (some b)) (enc a) (cV v)) k w := by
  obtain ⟨kt, hT, hd⟩ := hT
  obtain ⟨es, c, ⟨hr, hst⟩, h⟩ := MapR.opens h
  have hb := h.block
  have hlen : es.size = m.length := by have := congrArg List.length hr; simpa using this
  unfold Instr.mapUpdate DoU
  simp only [Sem.run_bind, run_underlying hT, Result.andThen, MapKept.run_getObj_map hb, run_checkKey hd (hE.key a)]
  rcases mfound hE hr a with ⟨h1, _, h2, _⟩ | ⟨j, x, h1, hj, h0, _, h2, _⟩
  · simp only [run_findKey hd h1, Result.andThen]
    obtain ⟨e1, h3⟩ := h.setMap (P := P) (es' := es.push { key := enc a, val := cV v, born := c }) (c' := c + 1)
    refine ⟨_, _, e1, hk _ (MapR.shuts ⟨?_, stamps_push hst _ _⟩ h3)⟩
    rw [h2]
    simp only [mrel, Array.toList_push, List.map_append, List.map_cons, List.map_nil]
    rw [show es.toList.map (fun e => (e.key, e.val)) = _ from hr]
  · have hes : ∃ e, es.toList[j]? = some e ∧ e.key = enc a := by
      have := mrel_at hr j
      rw [h0] at this
      cases he : es.toList[j]? with
      | none => rw [he] at this; simp at this
      | some e =>
        rw [he] at this
        simp only [Option.map_some, Option.some.injEq, Prod.mk.injEq] at this
        exact ⟨e, rfl, this.1⟩
    obtain ⟨e, he, hek⟩ := hes
    have he2 : es[j]? = some e := by rw [← he, Array.getElem?_toList]
    simp only [run_findKey hd h1, Result.andThen, Sem.run_bind, he2, Option.map_some, Option.getD_some, hek, Instr.keyThatStays, hE.bits, if_true, Sem.run_pure]
    obtain ⟨e1, h3⟩ := h.setMap (P := P) (es' := es.modify j fun e => { e with key := enc a, val := cV v }) (c' := c)
    refine ⟨_, _, e1, hk _ (MapR.shuts ⟨?_, stamps_modify hst _ _ _⟩ h3)⟩
    rw [h2]
    simp only [mrel]
    apply List.ext_getElem?
    intro i
    have hi := mrel_at hr i
    simp only [List.getElem?_map, Array.getElem?_toList, Array.getElem?_modify] at hi ⊢
    by_cases hij : j = i
    · subst hij
      rw [List.getElem?_set_self hj, he2]
      simp
    · rw [List.getElem?_set_ne hij, if_neg hij]
      exact hi

theorem r_mdelete {T KT E t : TypeId} {d : TypeDesc} {b : Nat} {m : List (α × β)} {a : α} {k : Value → K} (hT : mapIs P T d E) (hE : KeyE d enc) (h : Holds B (MapR enc cV b m :: Γ) w)
    (hk : ∀ w', Holds B (MapR enc cV b (mdel a m) :: Γ) w' → k (.tuple #[]) w') : Do P (Builtin.delete_ #[T, KT] t #[.map (some b), enc a]) id k w := by
  obtain ⟨kt, hT, hd⟩ := hT
  obtain ⟨es, c, ⟨hr, hst⟩, h⟩ := MapR.opens h
  have hb := h.block
  have hlen : es.size = m.length := by have := congrArg List.length hr; simpa using this
  have e0 : #[T, KT][0]? = some T := rfl
  have e1 : #[Value.map (some b), enc a][0]? = some (.map (some b)) := rfl
  have e2 : #[Value.map (some b), enc a][1]? = some (enc a) := rfl
  unfold Builtin.delete_ Do
  simp only [e0, e1, e2, Sem.run_bind, run_underlying hT, Result.andThen, MapKept.run_getObj_map hb, run_checkKey hd (hE.key a)]
  rcases mfound hE hr a with ⟨h1, _, _, h2⟩ | ⟨j, x, h1, hj, h0, _, _, h2⟩
  · simp only [run_findKey hd h1, Result.andThen, Sem.run_bind]
    obtain ⟨e3, h3⟩ := h.setMap (P := P) (es' := es) (c' := c)
    refine ⟨.tuple #[], _, ?_, hk _ (MapR.shuts ⟨?_, hst⟩ h3)⟩
    · simp only [Sem.run_bind, e3, Result.andThen, Sem.run_pure]; rfl
    rw [h2]; exact hr
  · simp only [run_findKey hd h1, Result.andThen, Sem.run_bind]
    obtain ⟨e3, h3⟩ := h.setMap (P := P) (es' := es.eraseIdxIfInBounds j) (c' := c)
    refine ⟨.tuple #[], _, ?_, hk _ (MapR.shuts ⟨?_, stamps_erase hst _⟩ h3)⟩
    · simp only [Sem.run_bind, e3, Result.andThen, Sem.run_pure]; rfl
    rw [h2]
    have hjs : j < es.size := by omega
    simp only [mrel, Array.eraseIdxIfInBounds, dif_pos hjs, Array.toList_eraseIdx]
    have mape : ∀ {α β : Type} (f : α → β) (l : List α) (i : Nat), (l.eraseIdx i).map f = (l.map f).eraseIdx i := by
      intro α β f l
      induction l with
      | nil => intro i; simp
      | cons x l ih => intro i; cases i <;> simp [ih]
    rw [mape, mape, show es.toList.map (fun e => (e.key, e.val)) = _ from hr]

theorem r_mclear {T t : TypeId} {d : TypeDesc} {E : TypeId} {b : Nat} {m : List (α × β)} {k : Value → K} (hT : mapIs P T d E) (h : Holds B (MapR enc cV b m :: Γ) w)
    (hk : ∀ w', Holds B (MapR enc cV b [] :: Γ) w' → k (.tuple #[]) w') : Do P (Builtin.clear_ #[T] t #[.map (some b)]) id k w := by
  obtain ⟨kt, hT, hd⟩ := hT
  obtain ⟨es, c, ⟨hr, hst⟩, h⟩ := MapR.opens h
  have hb := h.block
  have e0 : #[T][0]? = some T := rfl
  have e1 : #[Value.map (some b)][0]? = some (.map (some b)) := rfl
  unfold Builtin.clear_ Do
  simp only [e0, e1, Sem.run_bind, run_underlying hT, Result.andThen, MapKept.run_getObj_map hb]
  obtain ⟨e3, h3⟩ := h.setMap (P := P) (es' := #[]) (c' := c)
  exact ⟨.tuple #[], _, by simp only [Sem.run_bind, e3, Result.andThen, Sem.run_pure]; rfl, hk _ (MapR.shuts (es := #[]) (m := []) ⟨rfl, stamps_nil _⟩ h3)⟩
end
section
variable {α β γ : Type} [DecidableEq α]
theorem mget_map (g : β → γ) (k : α) : ∀ m : List (α × β), mget k (m.map fun p => (p.1, g p.2)) = (mget k m).map g
  | [] => rfl
  | p :: m => by
    simp only [List.map_cons, mget]
    split
    · rfl
    · exact mget_map g k m
theorem mdel_map (g : β → γ) (k : α) : ∀ m : List (α × β), mdel k (m.map fun p => (p.1, g p.2)) = (mdel k m).map fun p => (p.1, g p.2)
  | [] => rfl
  | p :: m => by
    simp only [List.map_cons, mdel]
    split
    · rfl
    · rw [List.map_cons, mdel_map g k m]
theorem mset_map (g : β → γ) (k : α) (v : β) : ∀ m : List (α × β), mset k (g v) (m.map fun p => (p.1, g p.2)) = (mset k v m).map fun p => (p.1, g p.2)
  | [] => rfl
  | p :: m => by
    simp only [List.map_cons, mset]
    split
    · rfl
    · rw [List.map_cons, mset_map g k v m]
theorem mset_none {k : α} {v : β} {m : List (α × β)} (h : mget k m = none) : mset k v m = m ++ [(k, v)] := by
  rcases mfind k m with ⟨_, h2, _⟩ | ⟨_, _, _, _, _, h1, _⟩
  · exact h2 v
  · rw [h] at h1; cases h1
theorem mdel_len {k : α} {m : List (α × β)} {x : β} (h : mget k m = some x) : (mdel k m).length + 1 = m.length := by
  rcases mfind k m with ⟨h1, _⟩ | ⟨j, _, hj, _, _, _, _, h2⟩
  · rw [h] at h1; cases h1
  · rw [h2, List.length_eraseIdx, if_pos hj]; omega
end
end Go.Sep
