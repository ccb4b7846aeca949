/- A range over a map of one's own: every entry comes once, in whatever order. Holds for every program. -/
import Derived.Test.YtdpepgjbambinaaMaps
import Derived.Maps.RangeRun
namespace Go.Sep
open Go Go.RowKit Go.MapKept
set_option linter.unusedSimpArgs false
set_option linter.unusedVariables false
set_option linter.unusedSectionVars false

section
variable {α β : Type} [DecidableEq α] {P : Program} {B w : World} {Γ : List HProp} {enc : α → Value} {cV : β → Value}

/-- What is still to come, by the stamps that came. -/
def itLeft (es : Array MapEntry) (seen : Array Nat) (m : List (α × β)) : List (α × β) := ((es.toList.zip m).filter fun p => !seen.contains p.1.born).map Prod.snd
structure ItF (enc : α → Value) (cV : β → Value) (es : Array MapEntry) (c : Nat) (seen : Array Nat) (m left : List (α × β)) (cur : Option (α × β)) : Prop where
  rel : mrel enc cV es m
  st : stamps es c
  lf : left = itLeft es seen m
  cnt : seen.size + left.length = m.length
  cur : ∀ p, cur = some p → ∃ (seen' : Array Nat) (e : MapEntry), seen = seen'.push e.born ∧ e ∈ es.toList ∧ e.key = enc p.1 ∧ e.val = cV p.2
/-- A map, and a range over it that is under way. -/
def MapIt (enc : α → Value) (cV : β → Value) (b r : Nat) (m left : List (α × β)) (cur : Option (α × β)) : HProp := ex fun es : Array MapEntry => ex fun c : Nat => ex fun seen : Array Nat =>
  stars [pur (ItF enc cV es c seen m left cur), blk b (.map es c), blk r (.mapIter (some b) c seen c)]

theorem MapIt.opens {b r : Nat} {m left : List (α × β)} {cur : Option (α × β)} (h : Holds B (MapIt enc cV b r m left cur :: Γ) w) : ∃ es c seen, ItF enc cV es c seen m left cur ∧ Holds B (blk b (.map es c) :: blk r (.mapIter (some b) c seen c) :: Γ) w := by
  obtain ⟨es, h⟩ := Holds.ex.1 h
  obtain ⟨c, h⟩ := Holds.ex.1 h
  obtain ⟨seen, h⟩ := Holds.ex.1 h
  obtain ⟨hp, h⟩ := Holds.pur.1 (Holds.flat.1 h)
  exact ⟨es, c, seen, hp, h⟩
theorem MapIt.shuts {b r : Nat} {m left : List (α × β)} {cur : Option (α × β)} {es : Array MapEntry} {c : Nat} {seen : Array Nat} (hp : ItF enc cV es c seen m left cur) (h : Holds B (blk b (.map es c) :: blk r (.mapIter (some b) c seen c) :: Γ) w) : Holds B (MapIt enc cV b r m left cur :: Γ) w :=
  Holds.ex.2 ⟨es, Holds.ex.2 ⟨c, Holds.ex.2 ⟨seen, Holds.flat.2 (Holds.pur.2 ⟨hp, h⟩)⟩⟩⟩
theorem MapIt.ends {b r : Nat} {m left : List (α × β)} {cur : Option (α × β)} (h : Holds B (MapIt enc cV b r m left cur :: Γ) w) : Holds B (MapR enc cV b m :: Γ) w := by
  obtain ⟨es, c, seen, hp, h⟩ := MapIt.opens h
  exact MapR.shuts ⟨hp.rel, hp.st⟩ (h.del 1 rfl)

theorem mrel_len {es : Array MapEntry} {m : List (α × β)} (h : mrel enc cV es m) : es.toList.length = m.length := by have := congrArg List.length h; simpa using this
theorem mrel_zip {es : Array MapEntry} {m : List (α × β)} (h : mrel enc cV es m) : ∀ p ∈ es.toList.zip m, p.1.key = enc p.2.1 ∧ p.1.val = cV p.2.2 := by
  intro p hp
  obtain ⟨i, hi⟩ := List.getElem?_of_mem hp
  rw [List.getElem?_zip_eq_some] at hi
  have := mrel_at h i
  rw [hi.1, hi.2] at this
  simp only [Option.map_some, Option.some.injEq, Prod.mk.injEq] at this
  exact this

theorem r_range {T E : TypeId} {d : TypeDesc} {b : Nat} {m : List (α × β)} {k : Option Addr → K} (hT : mapIs P T d E) (h : Holds B (MapR enc cV b m :: Γ) w) (hk : ∀ r w, Holds B (MapIt enc cV b r m m none :: Γ) w → k (some ⟨r, 0, none⟩) w) :
    Do P (Instr.range T (.map (some b))) Value.pointer k w := by
  obtain ⟨kt, hT, hd⟩ := hT
  obtain ⟨es, c, ⟨hr, hst⟩, h⟩ := MapR.opens h
  have hb := h.block
  refine ⟨some ⟨w.heap.size, 0, none⟩, { w with heap := w.heap.push (.mapIter (some b) c #[] c) }, ?_, hk _ _ (MapIt.shuts (seen := #[]) ⟨hr, hst, ?_, by simp, fun p hp => by cases hp⟩ (h.alloc _).swap)⟩
  · unfold Instr.range
    simp only [Sem.run_bind, run_underlying hT, Result.andThen, MapKept.run_getObj_map hb, Sem.run_pure]
    rfl
  · unfold itLeft
    have e : (es.toList.zip m).filter (fun p => !(#[] : Array Nat).contains p.1.born) = es.toList.zip m := List.filter_eq_self.2 (fun p _ => by simp)
    rw [e, List.map_snd_zip (by rw [mrel_len hr]; exact Nat.le_refl _)]

theorem zip_filter_split {es : List MapEntry} {m : List (α × β)} (seen : Array Nat) (hn : (es.map (·.born)).Nodup) (hl : es.length = m.length) {e : MapEntry} (he : e ∈ es.filter (fun e => !seen.contains e.born)) :
    ∃ l1 p l2, (e, p) ∈ es.zip m ∧ ((es.zip m).filter fun p => !seen.contains p.1.born).map Prod.snd = l1 ++ p :: l2 ∧ ((es.zip m).filter fun p => !(seen.push e.born).contains p.1.born).map Prod.snd = l1 ++ l2 := by
  induction es generalizing m with
  | nil => simp at he
  | cons x es ih =>
    cases m with
    | nil => simp at hl
    | cons q m =>
      simp only [List.map_cons, List.nodup_cons] at hn
      simp only [List.zip_cons_cons]
      by_cases hx : x = e
      · subst hx
        have hxs : (!seen.contains x.born) = true := (List.mem_filter.1 he).2
        refine ⟨[], q, ((es.zip m).filter fun p => !seen.contains p.1.born).map Prod.snd, List.mem_cons_self, ?_, ?_⟩
        · simp only [List.filter_cons]; rw [if_pos hxs]; rfl
        · simp only [List.filter_cons]
          rw [if_neg (by simp)]
          simp only [List.nil_append]
          congr 1
          refine List.filter_congr fun p hp => ?_
          have hpe : p.1.born ≠ x.born := fun heq => hn.1 (by rw [← heq]; exact List.mem_map_of_mem (List.of_mem_zip hp).1)
          simp [Array.contains_push, hpe]
      · have he2 : e ∈ es.filter (fun e => !seen.contains e.born) := by
          have h1 := List.mem_filter.1 he
          rcases List.mem_cons.1 h1.1 with h2 | h2
          · exact absurd h2.symm hx
          · exact List.mem_filter.2 ⟨h2, h1.2⟩
        obtain ⟨l1, p, l2, h1, h2, h3⟩ := ih hn.2 (by simpa using hl) he2
        have hxb : x.born ≠ e.born := fun heq => hn.1 (by rw [heq]; exact List.mem_map_of_mem (List.mem_filter.1 he2).1)
        by_cases hs : (!seen.contains x.born) = true
        · refine ⟨q :: l1, p, l2, List.mem_cons_of_mem _ h1, ?_, ?_⟩
          · simp only [List.filter_cons]
            rw [if_pos hs, List.map_cons, h2]; rfl
          · simp only [List.filter_cons]
            rw [if_pos (by simp [Array.contains_push, hxb] at hs ⊢; exact hs), List.map_cons, h3]; rfl
        · refine ⟨l1, p, l2, List.mem_cons_of_mem _ h1, ?_, ?_⟩
          · simp only [List.filter_cons]
            rw [if_neg hs, h2]
          · simp only [List.filter_cons]
            rw [if_neg (by simp [Array.contains_push, hxb] at hs ⊢; exact hs), h3]

theorem r_next {b r : Nat} {m left : List (α × β)} {cur : Option (α × β)} {k : Value → K} (h : Holds B (MapIt enc cV b r m left cur :: Γ) w)
    (h0 : left = [] → ∀ w, Holds B (MapR enc cV b m :: Γ) w → k (.tuple #[.bool false]) w)
    (h1 : ∀ l1 p l2 w, left = l1 ++ p :: l2 → p ∈ m → Holds B (MapIt enc cV b r m (l1 ++ l2) (some p) :: Γ) w → k (.tuple #[.bool true, enc p.1, cV p.2]) w) :
    Do P (Instr.next (.pointer (some ⟨r, 0, none⟩)) false 0) id k w := by
  have hend := MapIt.ends h
  obtain ⟨es, c, seen, hp, h⟩ := MapIt.opens h
  have hb := h.block
  have hr := h.tail.block
  rcases run_next_at (P := P) w 0 r b c c seen es c hr hb hp.st.2 (Nat.le_refl _) with ⟨hz, hrun⟩ | ⟨e, he, w1, hw1, hrun⟩
  · refine ⟨_, w, hrun, h0 ?_ w hend⟩
    rw [hp.lf]
    unfold itLeft
    have hnone : es.toList.filter (fun e => !seen.contains e.born) = [] := by
      have : (leftOf es seen).toList.length = 0 := by simpa using hz
      unfold leftOf at this
      rw [Array.toList_filter] at this
      exact List.length_eq_zero_iff.1 this
    have : (es.toList.zip m).filter (fun p => !seen.contains p.1.born) = [] := by
      rw [List.filter_eq_nil_iff] at hnone ⊢
      intro p hpz
      exact hnone p.1 (List.of_mem_zip hpz).1
    rw [this]; rfl
  · have he2 : e ∈ es.toList.filter (fun e => !seen.contains e.born) := by
      unfold leftOf at he
      rw [Array.toList_filter] at he
      exact he
    obtain ⟨l1, p, l2, hz, hl, hl2⟩ := zip_filter_split seen hp.st.1 (mrel_len hp.rel) he2
    have hkv := mrel_zip hp.rel _ hz
    simp only at hkv
    refine ⟨_, _, hrun, ?_⟩
    show k (.tuple #[.bool true, e.key, e.val]) _
    rw [hkv.1, hkv.2]
    have hw : ∃ w', w1 = w' ∧ Holds B (blk b (.map es c) :: blk r (.mapIter (some b) c seen c) :: Γ) w' := by
      rcases hw1 with rfl | rfl
      · exact ⟨_, rfl, h⟩
      · exact ⟨_, rfl, h.drew _⟩
    obtain ⟨w', rfl, h⟩ := hw
    refine h1 l1 p l2 _ (by rw [hp.lf]; exact hl) (List.of_mem_zip hz).2 (MapIt.shuts (es := es) (c := c) (seen := seen.push e.born) ⟨hp.rel, hp.st, hl2.symm, ?_, fun q hq => ?_⟩ ?_)
    · have h3 := hp.cnt
      have h4 : left = l1 ++ p :: l2 := by rw [hp.lf]; exact hl
      rw [h4] at h3
      simp only [List.length_append, List.length_cons, Array.size_push] at h3 ⊢
      omega
    · cases hq
      exact ⟨seen, e, rfl, (List.of_mem_zip hz).1, hkv.1, hkv.2⟩
    · exact (h.swap.setBlock (o' := .mapIter (some b) c (seen.push e.born) c) rfl).swap

/-- How many are still to come, as the world tells. -/
def itCount (r n : Nat) (w : World) : Nat := match w.heap[r]? with
  | some (.mapIter _ _ seen _) => n - seen.size
  | _ => 0
theorem it_count {b r : Nat} {m left : List (α × β)} {cur : Option (α × β)} (h : Holds B (MapIt enc cV b r m left cur :: Γ) w) : itCount r m.length w = left.length := by
  obtain ⟨es, c, seen, hp, h⟩ := MapIt.opens h
  have := hp.cnt
  unfold itCount
  rw [h.tail.block]
  simp only
  omega
theorem r_entry {b r : Nat} {m left : List (α × β)} {p : α × β} {k : Value → K} (h : Holds B (MapIt enc cV b r m left (some p) :: Γ) w) (hk : k (.tuple #[enc p.1, cV p.2]) w) :
    Do P (Instr.entry (.pointer (some ⟨r, 0, none⟩))) id k w := by
  obtain ⟨es, c, seen, hp, h⟩ := MapIt.opens h
  obtain ⟨seen', e, hs, he, hk1, hk2⟩ := hp.cur p rfl
  subst hs
  refine ⟨_, w, run_entry_at (P := P) w r b c seen' es c e h.tail.block h.block he hp.st.1, ?_⟩
  show k (.tuple #[e.key, e.val]) w
  rw [hk1, hk2]
  exact hk
theorem run_lookZ {zv : Value} {T E : TypeId} {d : TypeDesc} {b : Nat} {m : List (α × β)} {a : α} (hT : mapIs P T d E) (hE : KeyE d enc) (hz : zeroT P E zv) {es : Array MapEntry} {c : Nat} (hb : w.heap[b]? = some (.map es c)) (hr : mrel enc cV es m) (ok : Bool) :
    (Instr.lookup T (.map (some b)) (enc a) ok).run P w = .ok (if ok then .tuple #[((mget a m).map cV).getD zv, .bool (mget a m).isSome] else ((mget a m).map cV).getD zv) w := by
  obtain ⟨kt, hT, hd⟩ := hT
  unfold Instr.lookup
  simp only [Sem.run_bind, run_underlying hT, Result.andThen, MapKept.run_getObj_map hb, run_checkKey hd (hE.key a), Sem.run_pure]
  rcases mfound hE hr a with ⟨h1, h2, _⟩ | ⟨j, x, h1, _, _, h2, _⟩
  · simp only [run_findKey hd h1, Result.andThen, Sem.run_bind, zeroT_spec hz, Sem.run_pure, h2]
    cases ok <;> rfl
  · simp only [run_findKey hd h1, Result.andThen, Sem.run_bind, Sem.run_pure, h2]
    cases ok <;> rfl
end
end Go.Sep
