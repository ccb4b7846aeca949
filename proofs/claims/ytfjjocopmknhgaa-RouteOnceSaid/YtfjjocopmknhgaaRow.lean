/- How a law's arguments read, and how a law's statement is met. Holds for every program. -/
import Derived.Test.YtfjjocopmknhgaaAppend
import Derived.Deep.Slices
import Derived.Carry
import Derived.ProofKit
import Derived.OpenShut
namespace Go.Sep
open Go Go.RowKit Go.ChangeShapes Go.WideShapes Go.ChangeAt Go.Deep
set_option linter.unusedSimpArgs false
set_option linter.unusedVariables false

inductive Sh where
  | bool
  | int (k : IntKind)
  | str
  | sl (e : Sh) (esz : Nat)
  | nil
  | fld (off n : Nat) (s rest : Sh)

def Rdy (w : World) : Sh → List Value → Prop
  | .bool, cs => ∃ b, cs = [.bool b]
  | .int k, cs => ∃ n, cs = [.int k n] ∧ (Lit.int k n).wf = true
  | .str, cs => ∃ s : ByteArray, cs = [.string s] ∧ s.size ≤ maxLen
  | .sl e esz, cs => ∃ s : Sl, cs = [s.val] ∧ s.n ≤ s.c ∧ s.c ≤ maxLen ∧ (s.a = none → s.n = 0 ∧ s.c = 0) ∧
      ∀ a i, s.a = some a → i < s.n → ∃ cs', cs'.length = esz ∧ (∀ j, j < esz → w.cell? (a.add (i * esz + j)) = cs'[j]?) ∧ Rdy w e cs'
  | .nil, _ => True
  | .fld off n s rest, cs => Rdy w s ((cs.drop off).take n) ∧ Rdy w rest cs

def mkSh (P : Program) : Nat → TypeId → Sh
  | 0, _ => .nil
  | n + 1, t => match P.underlying t with
    | some .bool => .bool
    | some (.int k) => .int k
    | some .string => .str
    | some (.slice e) => .sl (mkSh P n e) (P.cellsOf e)
    | some (.struct fs) => fs.toList.foldr (fun f r => .fld f.offset (P.cellsOf f.type) (mkSh P n f.type) r) .nil
    | some (.array m e) => (List.range m).foldr (fun i r => .fld (i * P.cellsOf e) (P.cellsOf e) (mkSh P n e) r) .nil
    | _ => .nil

section
variable {H : Type} {enc : TypeId × Value → H} {P : Program} {w : World} {base : Nat} {spare : Nat → Bool} {held : Bool}
theorem rdy_flds {cs : List Value} {g : Field → Sh} : ∀ (fs : List Field), (∀ f ∈ fs, Rdy w (g f) ((cs.drop f.offset).take (P.cellsOf f.type))) →
    Rdy w (fs.foldr (fun f r => .fld f.offset (P.cellsOf f.type) (g f) r) .nil) cs
  | [], _ => trivial
  | f :: fs, h => ⟨h f (by simp), rdy_flds fs fun x hx => h x (by simp [hx])⟩

theorem rdy_of_trod : ∀ (n : Nat) (t : TypeId) (fuel : Nat) (cs : List Value) (x : DataW H × List MemPlace), DataW.trod enc P w base spare held fuel t cs = some x → Rdy w (mkSh P n t) cs
  | 0, _, _, _, _, _ => trivial
  | n + 1, t, fuel, cs, x, h => by
    unfold mkSh
    split
    · rename_i hu; obtain ⟨b, hb, _⟩ := DataW.trod_bool hu h; exact ⟨b, hb⟩
    · rename_i k hu; obtain ⟨b, hb, _, hw⟩ := DataW.trod_int hu h; exact ⟨b, hb, hw⟩
    · rename_i hu; obtain ⟨s, hs, _, hw⟩ := DataW.trod_string hu h; exact ⟨s, hs, hw⟩
    · rename_i e hu
      rcases open_slice hu h with ⟨rfl, _⟩ | ⟨a, len, cap, m, n', D, Pl, rfl, hb, hl, hm, hmm, hx, hi⟩
      · exact ⟨⟨none, 0, 0⟩, rfl, Nat.le_refl _, Nat.zero_le _, fun _ => ⟨rfl, rfl⟩, (fun a i ha => by cases ha)⟩
      · refine ⟨⟨some a, len, cap⟩, rfl, hl, hm, (fun hn => by cases hn), fun a' i ha hi' => ?_⟩
        cases ha
        simp only at hi'
        obtain ⟨cs', hc, ht⟩ := hi i (by rw [hmm]; split <;> omega)
        obtain ⟨_, hlen, hcell⟩ := World.cells?_some hc
        refine ⟨cs', hlen, fun j hj => ?_, rdy_of_trod n e _ cs' _ ht⟩
        rw [← Go.Deep.add_add]
        exact hcell j hj
    · rename_i fs hu
      obtain ⟨xs, n', _, _, hlen, hxl, hf⟩ := DataW.trod_struct hu h
      refine rdy_flds _ fun f hf' => ?_
      obtain ⟨i, hi⟩ := List.mem_iff_getElem?.1 hf'
      have hi' : fs[i]? = some f := by simpa using hi
      have h1 := hf i f hi'
      have hlt : i < xs.length := by rw [hxl]; exact (Array.getElem?_eq_some_iff.1 hi').1
      rw [List.getElem?_eq_getElem hlt] at h1
      exact rdy_of_trod n f.type _ _ _ h1
    · rename_i m e hu
      obtain ⟨xs, n', _, _, hlen, hxl, hf⟩ := DataW.trod_array hu h
      have key : ∀ l : List Nat, (∀ i ∈ l, i < m) → Rdy w (l.foldr (fun i r => .fld (i * P.cellsOf e) (P.cellsOf e) (mkSh P n e) r) .nil) cs := by
        intro l
        induction l with
        | nil => intro _; trivial
        | cons i l ih =>
          intro hl
          have hi := hl i List.mem_cons_self
          have h1 := hf i hi
          rw [List.getElem?_eq_getElem (by omega)] at h1
          exact ⟨rdy_of_trod n e _ _ _ h1, ih fun j hj => hl j (List.mem_cons_of_mem _ hj)⟩
      exact key _ fun i hi => List.mem_range.1 hi
    · trivial

theorem rdy_of_Trod {n : Nat} {t : TypeId} {v : Value} {d : DataW H} {ps : List MemPlace} (h : DataW.Trod enc P w base spare held t v d ps) : Rdy w (mkSh P n t) v.cells.toList := by
  obtain ⟨fuel, h⟩ := h
  exact rdy_of_trod n t fuel _ _ h

theorem flatMap_get {α : Type} (f : α → List Value) (esz : Nat) (hf : ∀ x, (f x).length = esz) : ∀ (l : List α) (i j : Nat), j < esz → (l.flatMap f)[i * esz + j]? = (l[i]?).bind fun x => (f x)[j]?
  | [], i, j, _ => by simp
  | x :: l, 0, j, hj => by
    simp only [List.flatMap_cons, Nat.zero_mul, Nat.zero_add]
    rw [List.getElem?_append_left (by rw [hf]; exact hj)]; simp
  | x :: l, i + 1, j, hj => by
    simp only [List.flatMap_cons]
    have e : (i + 1) * esz + j = esz + (i * esz + j) := by rw [Nat.add_mul]; omega
    rw [e, List.getElem?_append_right (by rw [hf]; omega), hf, Nat.add_sub_cancel_left, flatMap_get f esz hf l i j hj]; simp
theorem flatMap_len {α : Type} (f : α → List Value) (esz : Nat) (hf : ∀ x, (f x).length = esz) : ∀ (l : List α), (l.flatMap f).length = l.length * esz
  | [] => by simp
  | x :: l => by simp only [List.flatMap_cons, List.length_append, hf, flatMap_len f esz hf l, List.length_cons, Nat.add_mul]; omega

theorem choose_list {α : Type} (R : Nat → α → Prop) : ∀ (n : Nat), (∀ i, i < n → ∃ x, R i x) → ∃ l : List α, l.length = n ∧ ∀ i x, l[i]? = some x → R i x
  | 0, _ => ⟨[], rfl, fun i x h => by simp at h⟩
  | n + 1, h => by
    obtain ⟨l, hl, hr⟩ := choose_list R n fun i hi => h i (by omega)
    obtain ⟨x, hx⟩ := h n (by omega)
    refine ⟨l ++ [x], by simp [hl], fun i y hy => ?_⟩
    by_cases hi : i < n
    · rw [List.getElem?_append_left (by omega)] at hy; exact hr i y hy
    · have hlt : i < (l ++ [x]).length := (List.getElem?_eq_some_iff.1 hy).1
      have : i = n := by simp [hl] at hlt; omega
      subst this
      rw [List.getElem?_append_right (by omega), hl] at hy
      simp at hy; subst hy; exact hx

/-- A slice that came in, as a list of what its elements are. -/
theorem rd_list {α : Type} {s : Sl} {esz : Nat} {e : Sh} (f : α → List Value) (R : α → Prop) (hf : ∀ x, (f x).length = esz) (hn : s.a = none → s.n = 0 ∧ s.c = 0)
    (h : ∀ a i, s.a = some a → i < s.n → ∃ cs', cs'.length = esz ∧ (∀ j, j < esz → w.cell? (a.add (i * esz + j)) = cs'[j]?) ∧ Rdy w e cs')
    (hR : ∀ cs, cs.length = esz → Rdy w e cs → ∃ x, cs = f x ∧ R x) : ∃ l : List α, l.length = s.n ∧ RdC w s esz (l.flatMap f) ∧ ∀ x ∈ l, R x := by
  cases ha : s.a with
  | none => exact ⟨[], by rw [(hn ha).1]; rfl, ⟨by rw [(hn ha).1]; simp, fun h => (hn h).1, fun a h => by rw [ha] at h; cases h⟩, fun x h => by cases h⟩
  | some a =>
    obtain ⟨l, hl, hr⟩ := choose_list (fun i x => (∀ j, j < esz → w.cell? (a.add (i * esz + j)) = (f x)[j]?) ∧ R x) s.n (fun i hi => by
      obtain ⟨cs', h1, h2, h3⟩ := h a i ha hi
      obtain ⟨x, rfl, hx⟩ := hR cs' h1 h3
      exact ⟨x, h2, hx⟩)
    refine ⟨l, hl, ⟨by rw [flatMap_len f esz hf, hl], (fun h => by rw [ha] at h; cases h), fun a' h' i hi => ?_⟩, fun x hx => ?_⟩
    · rw [ha] at h'; cases h'
      rw [flatMap_len f esz hf] at hi
      have hpos : 0 < esz := by rcases Nat.eq_zero_or_pos esz with h0 | h0
                                · rw [h0] at hi; simp at hi
                                · exact h0
      have e1 : i = (i / esz) * esz + i % esz := by rw [Nat.mul_comm]; exact (Nat.div_add_mod i esz).symm
      have hj : i % esz < esz := Nat.mod_lt _ hpos
      have hq : i / esz < l.length := by rw [Nat.div_lt_iff_lt_mul hpos]; exact hi
      rw [e1, flatMap_get f esz hf _ _ _ hj, List.getElem?_eq_getElem hq]
      exact (hr _ _ (List.getElem?_eq_getElem hq)).1 _ hj
    · obtain ⟨i, hi⟩ := List.mem_iff_getElem?.1 hx
      exact (hr i x hi).2

/-- Bytes that came in. -/
theorem rd_bytes {s : Sl} (hn : s.a = none → s.n = 0 ∧ s.c = 0)
    (h : ∀ a i, s.a = some a → i < s.n → ∃ cs', cs'.length = 1 ∧ (∀ j, j < 1 → w.cell? (a.add (i * 1 + j)) = cs'[j]?) ∧ Rdy w (.int .u8) cs') : ∃ xs : List UInt8, xs.length = s.n ∧ RdB w s xs := by
  obtain ⟨l, hl, hr, _⟩ := rd_list (e := .int .u8) (fun b : UInt8 => [byteV b]) (fun _ => True) (fun _ => rfl) hn h (fun cs hc hr => by
    obtain ⟨n, rfl, hw⟩ := hr
    have hb : 0 ≤ n ∧ n ≤ 255 := by simpa [Lit.wf, IntKind.min, IntKind.max, IntKind.signed, IntKind.bits] using hw
    refine ⟨UInt8.ofNat n.toNat, ?_, trivial⟩
    simp only [byteV, List.cons.injEq, Value.int.injEq, true_and, and_true]
    simp; omega)
  have : ∀ l : List UInt8, l.flatMap (fun b : UInt8 => [byteV b]) = l.map byteV := fun l => by induction l with
    | nil => rfl
    | cons x l ih => simp [List.flatMap_cons, ih]
  rw [this] at hr
  exact ⟨l, hl, hr⟩
end

/-! ### a law's row -/
section
variable {H : Type} {enc : TypeId × Value → H} {P : Program}
theorem trodAll_stays (hl : laidOutB P = true) {W W' : World} (hb : Below W.heap.size W W') {sp : Nat → Bool} : ∀ (ts : List TypeId) (vs : List Value) (ds : List (DataW H)) (ps : List MemPlace),
    (∀ t ∈ ts, P.readableRec t = true ∧ t < P.types.size) → (∀ x ∈ ps, x.block < W.heap.size ∧ sp x.block = true) → DataW.TrodAll enc P W 0 (fun _ => true) true ts vs ds ps → DataW.TrodAll enc P W' 0 sp true ts vs ds ps
  | [], vs, ds, ps, _, _, h => by
    cases vs <;> cases ds <;> simp [DataW.TrodAll] at h ⊢ <;> exact h
  | t :: ts, vs, ds, ps, ht, hlt, h => by
    cases vs with
    | nil => simp [DataW.TrodAll] at h
    | cons v vs =>
      cases ds with
      | nil => simp [DataW.TrodAll] at h
      | cons d ds =>
        obtain ⟨p, q, h1, h2, rfl⟩ := h
        exact ⟨p, q, WideElems.Trod_stays hl (ht t (by simp)).1 (ht t (by simp)).2 h1 (fun x hx => hb.same (hlt x (by simp [hx])).1) (fun x hx => (hlt x (by simp [hx])).2),
          trodAll_stays hl hb ts vs ds q (fun t' h' => ht t' (by simp [h'])) (fun x hx => hlt x (by simp [hx])) h2, rfl⟩

theorem shut_true {b : Nat} {sp : Nat → Bool} {hd : Bool} {W : World} {t : TypeId} (ht : P.underlying t = some .bool) : DataW.TrodAll enc P W b sp hd [t] [.bool true] [.lit (.bool true)] [] :=
  ⟨[], [], ⟨1, by simp [DataW.trod, ht, Value.cells]⟩, rfl, rfl⟩

theorem law_end {W W' : World} {e : Ending} (h : Ret (fun v w' => v = .bool true ∧ Below W.heap.size W w') e W') : e = .returned (.bool true) ∧ Below W.heap.size W W' := by
  cases e with
  | returned v => exact ⟨by rw [h.1], h.2⟩
  | panicked c => exact h.elim
  | outgrown => exact h.elim

/-- A law's call, from its plain form. -/
theorem law_call {P : Program} {f : FuncId} {args : Array Value} {W : World} (h : CallF P f args (fun v w => ∃ r : Bool, v = .bool r ∧ (r = true ∧ Holds W [] w)) W) :
    Calls P f args W (Ret fun v w' => v = .bool true ∧ Below W.heap.size W w') := h.mono fun e w' he => by
  cases e with
  | returned v => obtain ⟨r, rfl, rfl, hh⟩ := he; exact ⟨rfl, hh.below⟩
  | panicked c => exact he.elim
  | outgrown => exact he.elim

theorem okWide_array {P : Program} {w : World} {r : Reach} {base : Nat} {t : TypeId} {v : Value} {n : Nat} {e : TypeId} (ht : P.underlying t = some (.array n e)) (h : Value.okWide P w r base t v) : ∃ cs, v = .agg cs ∧ cs.size = P.cellsOf t := by
  unfold Value.okWide at h
  rw [ht] at h
  exact ⟨h.choose, h.choose_spec.1, h.choose_spec.2.1⟩

/-- A law that returned true and wrote nothing that was there meets its row. -/
theorem law_post {f : Func} {s : ChangeSpec} {apart fresh handsOn again : Bool} {W W' : World} {args : Array Value} {ds : List (DataW H)} {p : List MemPlace} {t : TypeId}
    (hl : laidOutB P = true) (hts : f.params.toList.all (fun t => P.readableRec t && decide (t < P.types.size)) = true) (hrt : f.resultTypes = #[t]) (ht : P.underlying t = some .bool)
    (hW : DataW.Whole enc P f.params.toList s.vars apart W args.toList ds [] p) (hvs : s.vars = []) (hA : DataW.TrodAll enc P W 0 (fun _ => true) true f.params.toList args.toList ds p)
    (hsr : (s.fn H (ds ++ [])).results = [.lit (.bool true)]) (hsa : (s.fn H (ds ++ [])).args = ds) (hsv : (s.fn H (ds ++ [])).vars = []) (hb : Below W.heap.size W W') :
    s.post enc P f apart fresh handsOn again W args (.bool true) W' := by
  have hlt : ∀ x ∈ p, x.block < W.heap.size := fun x hx => hW.lt x hx
  have hts' : ∀ t ∈ f.params.toList, P.readableRec t = true ∧ t < P.types.size := fun t ht => by
    have := List.all_eq_true.1 hts t ht
    simpa using this
  have hold : ∀ x ∈ p, (fun b => decide (b < W.heap.size)) x.block = true := fun x hx => by simpa using hlt x hx
  have hres : ∀ (b : Nat) (sp : Nat → Bool) (hd : Bool), DataW.TrodAll enc P W' b sp hd f.resultTypes.toList ((Value.bool true).resultList f.resultTypes.size) (s.fn H (ds ++ [])).results [] := fun b sp hd => by
    rw [hsr, hrt]; exact shut_true ht
  have hargs : ∀ sp : Nat → Bool, (∀ x ∈ p, sp x.block = true) → DataW.TrodAll enc P W' 0 sp true f.params.toList args.toList (s.fn H (ds ++ [])).args p := fun sp hsp => by
    rw [hsa]; exact trodAll_stays hl hb _ _ _ _ hts' (fun x hx => ⟨hlt x hx, hsp x hx⟩) hA
  have hvars : ∀ sp : Nat → Bool, DataW.TrodVars enc P W' sp s.vars (s.fn H (ds ++ [])).vars [] := fun sp => by
    rw [hsv, hvs]; rfl
  refine ⟨ds, [], p, [], p, [], hW, hres _ _ _, hargs _ hold, hvars _, World.keptBut_mono (fun x hx => ⟨hx, Or.inr (Or.inl hx)⟩) (hb.frame (· ∈ p)), fun _ => ?_⟩
  obtain ⟨_, _, _, _, _, hz, hn⟩ := hW
  refine ⟨?_, _, _, ([] ++ p) ++ [], ⟨[] ++ p, [], trodAll_append (hargs _ (fun _ _ => rfl)) (hres _ _ _), hvars _, rfl, ?_, ?_⟩, ?_⟩
  · intro j t' r h1 h2
    rw [hrt] at h1 h2
    match j with
    | 0 =>
      simp at h1; subst h1
      have h3 : ((Value.bool true).resultList 1) = [.bool true] := rfl
      have h4 : (#[t] : Array TypeId).size = 1 := rfl
      rw [h4, h3] at h2
      simp at h2; subst h2
      exact okWide_bool_mk ht _
    | j + 1 => simp at h1
  · intro b off hp
    have hin : MemPlace.cell b off ∈ p := by simpa using hp
    rw [hb.frozen (hlt _ hin)]
    exact hz b off hin
  · intro ha
    have := hn ha
    simpa using this
  · intro x hx _
    simpa using hx
end
end Go.Sep
