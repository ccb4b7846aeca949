/- More rules: looking into slices of the arguments, slices cut short, integers. -/
import Derived.Test.YtfjjocopmknhgaaRow
import Derived.Test.YtfjjocopmknhgaaSlices
import Derived.Test.YtfjjocopmknhgaaAppend
import Derived.Test.YtfjjocopmknhgaaStr
namespace Go.Sep
open Go Go.RowKit
set_option linter.unusedSimpArgs false
set_option linter.unusedVariables false
section
variable {B w : World} {Γ : List HProp}
theorem add_add2 (a : Addr) (m n : Nat) : (a.add m).add n = a.add (m + n) := by
  obtain ⟨b, o, s⟩ := a
  unfold Addr.add
  by_cases h1 : m = 0
  · subst h1; simp
  · by_cases h2 : n = 0
    · subst h2; simp [h1]
    · simp [h1, h2, Nat.add_assoc]

theorem RdC.none' {esz c : Nat} : RdC w ⟨none, 0, c⟩ esz [] := ⟨by simp, fun _ => rfl, fun a h => by cases h⟩

theorem r_idx1 {α : Type} {c : α → Value} {L : List α} {s : Sl} {j : Nat} {x : α} {k : α → K} (hr : RdC w s 1 (L.map c)) (hx : L[j]? = some x) (hk : k x w) :
    Idx s (j : Int) 1 (fun t => Ld t c k) w := by
  have hj : j < L.length := (List.getElem?_eq_some_iff.1 hx).1
  have hn : L.length = s.n := by have := hr.len; simpa using this
  cases ha : s.a with
  | none => have := hr.nil ha; omega
  | some a =>
    refine ⟨a, _, ha, by omega, by omega, rfl, x, ?_, hk⟩
    simp only [Int.toNat_natCast, Nat.mul_one]
    rw [hr.at' a ha j (by simpa using hj)]
    simp [hx]

theorem flat_at {α : Type} (f : α → List Value) (esz : Nat) (hf : ∀ x, (f x).length = esz) {L : List α} {s : Sl} {i : Nat} {x : α} {a : Addr} (hr : RdC w s esz (L.flatMap f)) (ha : s.a = some a) (hx : L[i]? = some x) :
    RdN w (a.add (i * esz)) (f x).toArray := by
  intro j hj
  have hj' : j < esz := by simpa [hf] using hj
  rw [add_add2]
  have hlt : i < L.length := (List.getElem?_eq_some_iff.1 hx).1
  have hb : i * esz + j < L.length * esz := by
    have : i * esz + esz ≤ L.length * esz := by rw [← Nat.succ_mul]; exact Nat.mul_le_mul_right _ hlt
    omega
  rw [hr.at' a ha _ (by rw [flatMap_len f esz hf]; exact hb), flatMap_get f esz hf _ _ _ hj', hx]
  exact List.getElem?_toArray.symm

theorem r_idxN {α : Type} (f : α → List Value) {esz : Nat} (hf : ∀ x, (f x).length = esz) (he : 0 < esz) {L : List α} {s : Sl} {j : Nat} {x : α} {k : Addr → Array Value → K} {cs : Array Value} (hr : RdC w s esz (L.flatMap f)) (hx : L[j]? = some x) (hcs : (f x).toArray = cs) (hk : ∀ t, k t cs w) :
    Idx s (j : Int) esz (fun t => LdN t esz (k t)) w := by
  have hj : j < L.length := (List.getElem?_eq_some_iff.1 hx).1
  have hn : L.length = s.n := by
    have := hr.len; rw [flatMap_len f esz hf] at this
    exact Nat.eq_of_mul_eq_mul_right he this
  cases ha : s.a with
  | none => have := hr.nil ha; omega
  | some a =>
    subst hcs
    refine ⟨a, _, ha, by omega, by omega, rfl, _, by simp [hf], ?_, hk _⟩
    simp only [Int.toNat_natCast]
    exact flat_at f esz hf hr ha hx

theorem r_idxA {α : Type} (f : α → List Value) {esz : Nat} (hf : ∀ x, (f x).length = esz) (he : 0 < esz) {L : List α} {s : Sl} {j : Nat} {x : α} {k : Addr → K} (hr : RdC w s esz (L.flatMap f)) (hx : L[j]? = some x) (hk : ∀ t, (∀ w, RdC w s esz (L.flatMap f) → RdN w t (f x).toArray) → k t w) :
    Idx s (j : Int) esz k w := by
  have hj : j < L.length := (List.getElem?_eq_some_iff.1 hx).1
  have hn : L.length = s.n := by
    have := hr.len; rw [flatMap_len f esz hf] at this
    exact Nat.eq_of_mul_eq_mul_right he this
  cases ha : s.a with
  | none => have := hr.nil ha; omega
  | some a =>
    refine ⟨a, _, ha, by omega, by omega, rfl, hk _ fun w hr => ?_⟩
    simp only [Int.toNat_natCast]
    exact flat_at f esz hf hr ha hx

theorem SlC.cut {E esz : Nat} {s : Sl} {vs : List Value} {m : Nat} (hm : m ≤ s.n) (g : Hp) (h : SlC E esz s vs g) : SlC E esz ⟨s.a, m, m⟩ (vs.take (m * esz)) g := by
  have hc := h.2.1
  obtain ⟨hl, _, hs⟩ := SlC.take hm g h
  refine ⟨hl, Nat.le_refl _, ?_⟩
  have h1 : m * esz ≤ s.c * esz := Nat.mul_le_mul_right _ (by omega)
  cases ha : s.a with
  | none => rw [ha] at hs; simp only at hs ⊢; omega
  | some a =>
    rw [ha] at hs
    obtain ⟨hsp, cs, fz, hb, hf, hsz, hv⟩ := hs
    exact ⟨hsp, cs, fz, hb, fun i h2 h3 => hf i h2 (by simp only at h3 ⊢; omega), by simp only at hsz ⊢; omega, hv⟩

theorem SlC.dropF {E esz : Nat} {s : Sl} {vs : List Value} {l : Nat} (hl : l ≤ s.n) (g : Hp) (h : SlC E esz s vs g) : SlC E esz ⟨cutA s.a l s.c esz, s.n - l, s.c - l⟩ (vs.drop (l * esz)) g := by
  obtain ⟨hn, hc, hs⟩ := h
  have h1 : l * esz ≤ s.n * esz := Nat.mul_le_mul_right _ hl
  have h2 : (s.n - l) * esz = s.n * esz - l * esz := Nat.sub_mul _ _ _
  have h3 : (s.c - l) * esz = s.c * esz - l * esz := Nat.sub_mul _ _ _
  have h4 : s.n * esz ≤ s.c * esz := Nat.mul_le_mul_right _ hc
  refine ⟨by simp only [List.length_drop]; omega, by simp only; omega, ?_⟩
  cases ha : s.a with
  | none =>
    rw [ha] at hs
    simp only at hs
    have : cutA none l s.c esz = none := by unfold cutA; split <;> rfl
    rw [this]; simp only; omega
  | some a =>
    rw [ha] at hs
    obtain ⟨hsp, cs, fz, hb, hf, hsz, hv⟩ := hs
    obtain ⟨b, o, sp⟩ := a
    simp only at hsp hb hf hsz hv
    subst hsp
    by_cases hcl : s.c = l
    · have hz : s.n - l = 0 := by omega
      have : cutA (some ⟨b, o, none⟩) l s.c esz = some ⟨b, o, none⟩ := by unfold cutA; rw [if_pos hcl]
      rw [this]
      refine ⟨rfl, cs, fz, hb, fun i g1 g2 => hf i g1 ?_, ?_, fun i hi => ?_⟩
      · simp only at g2; omega
      · simp only; omega
      · rw [List.length_drop, hn] at hi
        rw [hz] at h2
        omega
    · have : cutA (some ⟨b, o, none⟩) l s.c esz = some ⟨b, o + l * esz, none⟩ := by unfold cutA; rw [if_neg hcl]; simp [add_mk]
      rw [this]
      refine ⟨rfl, cs, fz, hb, fun i g1 g2 => hf i ?_ ?_, ?_, fun i hi => ?_⟩
      · simp only at g1; omega
      · simp only at g2; omega
      · simp only; omega
      · rw [List.length_drop] at hi
        rw [List.getElem?_drop, ← hv (l * esz + i) (by omega)]
        simp only [Nat.add_assoc]

theorem stars_take {α : Type} {f : α → HProp} {l : List α} (i : Nat) {x : α} (hx : l[i]? = some x) (h : Holds B (stars (l.map f) :: Γ) w) : Holds B (f x :: stars ((l.eraseIdx i).map f) :: Γ) w := by
  have h1 := Holds.flat.1 h
  have h2 : (l.map f ++ Γ).Perm (f x :: ((l.eraseIdx i).map f ++ Γ)) := by
    have h3 : (l.map f).Perm (f x :: (l.eraseIdx i).map f) := by
      have := (perm_pick hx).map f
      simpa using this
    exact h3.append_right Γ
  have h4 : Holds B (f x :: ((l.eraseIdx i).map f ++ Γ)) w := h1.perm h2
  have h5 : Holds B ((l.eraseIdx i).map f ++ f x :: Γ) w := h4.perm List.perm_middle.symm
  exact (Holds.flat.2 h5).swap
theorem stars_put {α : Type} {f : α → HProp} {l : List α} {x : α} (h : Holds B (stars (l.map f) :: f x :: Γ) w) : Holds B (stars ((l ++ [x]).map f) :: Γ) w := by
  have := h.snoc
  rwa [show l.map f ++ [f x] = (l ++ [x]).map f by simp] at this
theorem stars_rd {α : Type} {f : α → HProp} {l : List α} {x : α} {E esz : Nat} {s : Sl} {vs : List Value} (i : Nat) (h : Holds B Γ w) (hi : Γ[i]? = some (stars (l.map f))) (hx : x ∈ l) (hf : f x = SlC E esz s vs) : RdC w s esz vs := by
  have h1 := Holds.flat.1 (h.pick i hi)
  refine h1.rdC (E := E) ?_
  rw [← hf]
  exact List.mem_append_left _ (List.mem_map_of_mem hx)

theorem flat1 {α : Type} (c : α → Value) : ∀ l : List α, l.flatMap (fun b => [c b]) = l.map c
  | [] => rfl
  | x :: l => by simp [List.flatMap_cons, flat1 c l]

theorem rd_ints {k : IntKind} {s : Sl} (hn : s.a = none → s.n = 0 ∧ s.c = 0)
    (h : ∀ a i, s.a = some a → i < s.n → ∃ cs', cs'.length = 1 ∧ (∀ j, j < 1 → w.cell? (a.add (i * 1 + j)) = cs'[j]?) ∧ Rdy w (.int k) cs') :
    ∃ xs : List Int, xs.length = s.n ∧ RdC w s 1 (xs.map (Value.int k)) ∧ ∀ x ∈ xs, (Lit.int k x).wf = true := by
  obtain ⟨l, hl, hr, hw⟩ := rd_list (e := .int k) (fun b : Int => [Value.int k b]) (fun b => (Lit.int k b).wf = true) (fun _ => rfl) hn h (fun cs hc hr => by
    obtain ⟨n, rfl, hw⟩ := hr
    exact ⟨n, rfl, hw⟩)
  rw [flat1] at hr
  exact ⟨l, hl, hr, hw⟩
theorem cut0 {s : Sl} {c esz : Nat} (hsp : ∀ a, s.a = some a → a.spot = none) : cutA s.a 0 c esz = s.a := by
  unfold cutA
  split
  · rfl
  · cases hx : s.a with
    | none => rfl
    | some a =>
      have := hsp a hx
      obtain ⟨b, o, sp⟩ := a
      simp only at this; subst this
      simp [add_mk]
theorem ints_flat {k : IntKind} (l : List Int) : ∀ v ∈ l.map (Value.int k), flatV v = true := fun v hv => by
  obtain ⟨x, _, rfl⟩ := List.mem_map.1 hv
  rfl
def slF (E esz : Nat) (s : Sl) (vs : List Value) (a : Addr) (cs : Array Value) (fz : Nat × Nat) : Prop :=
  a.spot = none ∧ (∀ i, a.off ≤ i → i < a.off + s.c * esz → ¬ (fz.1 ≤ i ∧ i < fz.2)) ∧ a.off + s.c * esz ≤ cs.size ∧ (∀ i, i < vs.length → cs[a.off + i]? = vs[i]?) ∧ vs.length = s.n * esz ∧ s.n ≤ s.c
theorem slOpen {E esz : Nat} {s : Sl} {vs : List Value} {a : Addr} (h : Holds B (SlC E esz s vs :: Γ) w) (ha : s.a = some a) : ∃ cs fz, Holds B (blk a.block (.cells cs E fz) :: Γ) w ∧ slF E esz s vs a cs fz := by
  have h1 : Holds B ((ex fun cs : Array Value => ex fun fz : Nat × Nat => fun g => slF E esz s vs a cs fz ∧ blk a.block (.cells cs E fz) g) :: Γ) w := h.imp fun g hg => by
    obtain ⟨hl, hc, hs⟩ := hg
    rw [ha] at hs
    obtain ⟨hsp, cs, fz, hb, hf, hsz, hv⟩ := hs
    exact ⟨cs, fz, ⟨hsp, hf, hsz, hv, hl, hc⟩, hb⟩
  obtain ⟨cs, h1⟩ := Holds.ex.1 h1
  obtain ⟨fz, h1⟩ := Holds.ex.1 h1
  exact ⟨cs, fz, h1.imp fun g hg => hg.2, h1.fact fun g hg => hg.1⟩
theorem slShut {E esz : Nat} {s : Sl} {vs : List Value} {a : Addr} {cs : Array Value} {fz : Nat × Nat} (ha : s.a = some a) (h : Holds B (blk a.block (.cells cs E fz) :: Γ) w) (hF : slF E esz s vs a cs fz) : Holds B (SlC E esz s vs :: Γ) w :=
  h.imp fun g hg => by
    obtain ⟨hsp, hf, hsz, hv, hl, hc⟩ := hF
    refine ⟨hl, hc, ?_⟩
    rw [ha]
    exact ⟨hsp, cs, fz, hg, hf, hsz, hv⟩
theorem r_stSl {E esz : Nat} {s : Sl} {vs : List Value} {a : Addr} {o : Nat} {v : Value} {k : K} (h : Holds B (SlC E esz s vs :: Γ) w) (ha : s.a = some a) (ho : o < vs.length) (hv : flatV v = true)
    (hk : ∀ w', Holds B (SlC E esz s (vs.set o v) :: Γ) w' → k w') : St (a.add o) v k w := by
  obtain ⟨cs, fz, h, hsp, hf, hsz, hr, hl, hc⟩ := slOpen h ha
  have hm : vs.length ≤ s.c * esz := by rw [hl]; exact Nat.mul_le_mul_right _ hc
  have e : a.add o = ⟨a.block, a.off + o, none⟩ := by
    obtain ⟨b, f, sp⟩ := a
    simp only at hsp; subst hsp
    exact add_mk _ _ _
  refine r_st 0 h e rfl (by omega) (hf _ (by omega) (by omega)) hv fun w' h => hk w' (slShut ha h ⟨hsp, hf, by simpa using hsz, fun i hi => ?_, by simpa using hl, hc⟩)
  rw [List.length_set] at hi
  by_cases hio : o = i
  · subst hio
    rw [List.getElem?_set_self hi]
    simp [Array.getElem?_setIfInBounds]
    omega
  · rw [List.getElem?_set_ne hio, ← hr i hi, Array.getElem?_setIfInBounds_ne (by omega)]
theorem r_idxSt {E : Nat} {s : Sl} {vs : List Value} {j : Nat} {v : Value} {k : K} (h : Holds B (SlC E 1 s vs :: Γ) w) (hj : j < s.n) (hv : flatV v = true)
    (hk : ∀ w', Holds B (SlC E 1 s (vs.set j v) :: Γ) w' → k w') : Idx s (j : Int) 1 (fun t => St t v k) w := by
  have hs := h.slCap
  cases ha : s.a with
  | none => have := hs.2.2.2 ha; omega
  | some a =>
    refine ⟨a, _, ha, by omega, by omega, rfl, ?_⟩
    simp only [Int.toNat_natCast, Nat.mul_one]
    exact r_stSl h ha (by omega) hv hk
def byT (P : Program) (U : TypeId) : Bool := match P.underlying U with
  | some (.slice e) => match P.underlying e with
    | some (.int .u8) => true
    | _ => false
  | _ => false
theorem byT_spec {P : Program} {U : TypeId} (h : byT P U = true) : ∃ e, P.underlying U = some (.slice e) ∧ P.underlying e = some (.int .u8) := by
  unfold byT at h
  split at h
  · rename_i e h1
    split at h
    · rename_i h2; exact ⟨e, h1, h2⟩
    · cases h
  · cases h
theorem r_mark {P : Program} {U T b n : Nat} {cs : Array Value} {k : Sl → K} (hU : byT P U = true) (h : Holds B (blk b (.cells cs T (0, 0)) :: Γ) w) (hn : cs.size = n)
    (hk : ∀ w', Holds B (SlC T 1 ⟨some ⟨b, 0, none⟩, n, n⟩ cs.toList :: Γ) w' → k ⟨some ⟨b, 0, none⟩, n, n⟩ w') : Do P (convert U U (Sl.val ⟨some ⟨b, 0, none⟩, n, n⟩)) Sl.val k w := by
  obtain ⟨e, h1, h2⟩ := byT_spec hU
  have hb := h.block
  have hsh : w.shape? b = some (T, cs.size) := by unfold World.shape?; rw [hb]
  have hfr : w.freeze ⟨b, cs.size, none⟩ 1 = { w with heap := w.heap.setIfInBounds b (.cells cs T (cs.size, cs.size + 1)) } := by
    unfold World.freeze
    rw [if_neg (by decide)]
    congr 1
    apply Array.ext_getElem?
    intro i
    rw [Array.getElem?_modify, Array.getElem?_setIfInBounds]
    have hlt : b < w.heap.size := (Array.getElem?_eq_some_iff.1 hb).1
    by_cases hi : b = i
    · subst hi
      have hbb : w.heap[b] = .cells cs T (0, 0) := (Array.getElem?_eq_some_iff.1 hb).2
      simp [hb, hlt, hbb]
    · simp [hi]
  refine ⟨⟨some ⟨b, 0, none⟩, n, n⟩, _, ?_, hk { w with heap := w.heap.setIfInBounds b (.cells cs T (cs.size, cs.size + 1)) } ?_⟩
  · show (convert U U (.slice (some ⟨b, 0, none⟩) n n)).run P w = .ok (.slice (some ⟨b, 0, none⟩) n n) _
    simp [convert, run_underlying h1, run_underlying h2, markStringish, hsh]
    exact hfr
  · have h3 : Holds B (blk b (.cells cs T (cs.size, cs.size + 1)) :: Γ) { w with heap := w.heap.setIfInBounds b (.cells cs T (cs.size, cs.size + 1)) } := h.setBlock rfl
    refine slShut (a := ⟨b, 0, none⟩) (cs := cs) rfl h3 ⟨rfl, fun i _ hi => ?_, ?_, fun i _ => ?_, ?_, Nat.le_refl _⟩
    · simp only at hi ⊢; omega
    · simp only; omega
    · simp
    · simp [hn]
theorem sl_cells {s s' : Sl} (h : (Sl.val s).cells.toList = [s'.val]) : s' = s := by
  obtain ⟨a, n, c⟩ := s
  obtain ⟨a', n', c'⟩ := s'
  have h2 : [Value.slice a n c] = [Value.slice a' n' c'] := h
  cases h2; rfl
theorem rdy_sl {e : Sh} {esz : Nat} {s : Sl} (y : Rdy w (.sl e esz) (Sl.val s).cells.toList) : (s.a = none → s.n = 0 ∧ s.c = 0) ∧
    ∀ a i, s.a = some a → i < s.n → ∃ cs', cs'.length = esz ∧ (∀ j, j < esz → w.cell? (a.add (i * esz + j)) = cs'[j]?) ∧ Rdy w e cs' := by
  obtain ⟨s', h, _, _, h1, h2⟩ := y
  obtain rfl := sl_cells h
  exact ⟨h1, h2⟩
theorem rdy_ints {k : IntKind} {s : Sl} (y : Rdy w (.sl (.int k) 1) (Sl.val s).cells.toList) : ∃ xs : List Int, RdC w s 1 (xs.map (Value.int k)) ∧ ∀ x ∈ xs, (Lit.int k x).wf = true := by
  obtain ⟨h1, h2⟩ := rdy_sl y
  obtain ⟨xs, _, h3, h4⟩ := rd_ints h1 h2
  exact ⟨xs, h3, h4⟩
theorem rdy_bytes {s : Sl} (y : Rdy w (.sl (.int .u8) 1) (Sl.val s).cells.toList) : ∃ xs : List UInt8, RdB w s xs := by
  obtain ⟨h1, h2⟩ := rdy_sl y
  obtain ⟨xs, _, h3⟩ := rd_bytes h1 h2
  exact ⟨xs, h3⟩
end
/-! ### members and places, by number -/
theorem M0 { x : HProp} {l : List HProp} : x ∈ x :: l := List.mem_cons_self
theorem M1 {a0 x : HProp} {l : List HProp} : x ∈ a0 :: x :: l := List.mem_cons_of_mem _ (List.mem_cons_self)
theorem M2 {a0 a1 x : HProp} {l : List HProp} : x ∈ a0 :: a1 :: x :: l := List.mem_cons_of_mem _ (List.mem_cons_of_mem _ (List.mem_cons_self))
theorem M3 {a0 a1 a2 x : HProp} {l : List HProp} : x ∈ a0 :: a1 :: a2 :: x :: l := List.mem_cons_of_mem _ (List.mem_cons_of_mem _ (List.mem_cons_of_mem _ (List.mem_cons_self)))
theorem M4 {a0 a1 a2 a3 x : HProp} {l : List HProp} : x ∈ a0 :: a1 :: a2 :: a3 :: x :: l := List.mem_cons_of_mem _ (List.mem_cons_of_mem _ (List.mem_cons_of_mem _ (List.mem_cons_of_mem _ (List.mem_cons_self))))
theorem M5 {a0 a1 a2 a3 a4 x : HProp} {l : List HProp} : x ∈ a0 :: a1 :: a2 :: a3 :: a4 :: x :: l := List.mem_cons_of_mem _ (List.mem_cons_of_mem _ (List.mem_cons_of_mem _ (List.mem_cons_of_mem _ (List.mem_cons_of_mem _ (List.mem_cons_self)))))
theorem M6 {a0 a1 a2 a3 a4 a5 x : HProp} {l : List HProp} : x ∈ a0 :: a1 :: a2 :: a3 :: a4 :: a5 :: x :: l := List.mem_cons_of_mem _ (List.mem_cons_of_mem _ (List.mem_cons_of_mem _ (List.mem_cons_of_mem _ (List.mem_cons_of_mem _ (List.mem_cons_of_mem _ (List.mem_cons_self))))))
theorem M7 {a0 a1 a2 a3 a4 a5 a6 x : HProp} {l : List HProp} : x ∈ a0 :: a1 :: a2 :: a3 :: a4 :: a5 :: a6 :: x :: l := List.mem_cons_of_mem _ (List.mem_cons_of_mem _ (List.mem_cons_of_mem _ (List.mem_cons_of_mem _ (List.mem_cons_of_mem _ (List.mem_cons_of_mem _ (List.mem_cons_of_mem _ (List.mem_cons_self)))))))
theorem M8 {a0 a1 a2 a3 a4 a5 a6 a7 x : HProp} {l : List HProp} : x ∈ a0 :: a1 :: a2 :: a3 :: a4 :: a5 :: a6 :: a7 :: x :: l := List.mem_cons_of_mem _ (List.mem_cons_of_mem _ (List.mem_cons_of_mem _ (List.mem_cons_of_mem _ (List.mem_cons_of_mem _ (List.mem_cons_of_mem _ (List.mem_cons_of_mem _ (List.mem_cons_of_mem _ (List.mem_cons_self))))))))
theorem M9 {a0 a1 a2 a3 a4 a5 a6 a7 a8 x : HProp} {l : List HProp} : x ∈ a0 :: a1 :: a2 :: a3 :: a4 :: a5 :: a6 :: a7 :: a8 :: x :: l := List.mem_cons_of_mem _ (List.mem_cons_of_mem _ (List.mem_cons_of_mem _ (List.mem_cons_of_mem _ (List.mem_cons_of_mem _ (List.mem_cons_of_mem _ (List.mem_cons_of_mem _ (List.mem_cons_of_mem _ (List.mem_cons_of_mem _ (List.mem_cons_self)))))))))
theorem M10 {a0 a1 a2 a3 a4 a5 a6 a7 a8 a9 x : HProp} {l : List HProp} : x ∈ a0 :: a1 :: a2 :: a3 :: a4 :: a5 :: a6 :: a7 :: a8 :: a9 :: x :: l := List.mem_cons_of_mem _ (List.mem_cons_of_mem _ (List.mem_cons_of_mem _ (List.mem_cons_of_mem _ (List.mem_cons_of_mem _ (List.mem_cons_of_mem _ (List.mem_cons_of_mem _ (List.mem_cons_of_mem _ (List.mem_cons_of_mem _ (List.mem_cons_of_mem _ (List.mem_cons_self))))))))))
theorem M11 {a0 a1 a2 a3 a4 a5 a6 a7 a8 a9 a10 x : HProp} {l : List HProp} : x ∈ a0 :: a1 :: a2 :: a3 :: a4 :: a5 :: a6 :: a7 :: a8 :: a9 :: a10 :: x :: l := List.mem_cons_of_mem _ (List.mem_cons_of_mem _ (List.mem_cons_of_mem _ (List.mem_cons_of_mem _ (List.mem_cons_of_mem _ (List.mem_cons_of_mem _ (List.mem_cons_of_mem _ (List.mem_cons_of_mem _ (List.mem_cons_of_mem _ (List.mem_cons_of_mem _ (List.mem_cons_of_mem _ (List.mem_cons_self)))))))))))
theorem M12 {a0 a1 a2 a3 a4 a5 a6 a7 a8 a9 a10 a11 x : HProp} {l : List HProp} : x ∈ a0 :: a1 :: a2 :: a3 :: a4 :: a5 :: a6 :: a7 :: a8 :: a9 :: a10 :: a11 :: x :: l := List.mem_cons_of_mem _ (List.mem_cons_of_mem _ (List.mem_cons_of_mem _ (List.mem_cons_of_mem _ (List.mem_cons_of_mem _ (List.mem_cons_of_mem _ (List.mem_cons_of_mem _ (List.mem_cons_of_mem _ (List.mem_cons_of_mem _ (List.mem_cons_of_mem _ (List.mem_cons_of_mem _ (List.mem_cons_of_mem _ (List.mem_cons_self))))))))))))
theorem M13 {a0 a1 a2 a3 a4 a5 a6 a7 a8 a9 a10 a11 a12 x : HProp} {l : List HProp} : x ∈ a0 :: a1 :: a2 :: a3 :: a4 :: a5 :: a6 :: a7 :: a8 :: a9 :: a10 :: a11 :: a12 :: x :: l := List.mem_cons_of_mem _ (List.mem_cons_of_mem _ (List.mem_cons_of_mem _ (List.mem_cons_of_mem _ (List.mem_cons_of_mem _ (List.mem_cons_of_mem _ (List.mem_cons_of_mem _ (List.mem_cons_of_mem _ (List.mem_cons_of_mem _ (List.mem_cons_of_mem _ (List.mem_cons_of_mem _ (List.mem_cons_of_mem _ (List.mem_cons_of_mem _ (List.mem_cons_self)))))))))))))
section
variable {B w : World}
theorem P1 {a0 x : HProp} {l : List HProp} (h : Holds B (a0 :: x :: l) w) : Holds B (x :: a0 :: l) w := h.pick (i := 1) rfl
theorem P2 {a0 a1 x : HProp} {l : List HProp} (h : Holds B (a0 :: a1 :: x :: l) w) : Holds B (x :: a0 :: a1 :: l) w := h.pick (i := 2) rfl
theorem P3 {a0 a1 a2 x : HProp} {l : List HProp} (h : Holds B (a0 :: a1 :: a2 :: x :: l) w) : Holds B (x :: a0 :: a1 :: a2 :: l) w := h.pick (i := 3) rfl
theorem P4 {a0 a1 a2 a3 x : HProp} {l : List HProp} (h : Holds B (a0 :: a1 :: a2 :: a3 :: x :: l) w) : Holds B (x :: a0 :: a1 :: a2 :: a3 :: l) w := h.pick (i := 4) rfl
theorem P5 {a0 a1 a2 a3 a4 x : HProp} {l : List HProp} (h : Holds B (a0 :: a1 :: a2 :: a3 :: a4 :: x :: l) w) : Holds B (x :: a0 :: a1 :: a2 :: a3 :: a4 :: l) w := h.pick (i := 5) rfl
theorem P6 {a0 a1 a2 a3 a4 a5 x : HProp} {l : List HProp} (h : Holds B (a0 :: a1 :: a2 :: a3 :: a4 :: a5 :: x :: l) w) : Holds B (x :: a0 :: a1 :: a2 :: a3 :: a4 :: a5 :: l) w := h.pick (i := 6) rfl
theorem P7 {a0 a1 a2 a3 a4 a5 a6 x : HProp} {l : List HProp} (h : Holds B (a0 :: a1 :: a2 :: a3 :: a4 :: a5 :: a6 :: x :: l) w) : Holds B (x :: a0 :: a1 :: a2 :: a3 :: a4 :: a5 :: a6 :: l) w := h.pick (i := 7) rfl
theorem P8 {a0 a1 a2 a3 a4 a5 a6 a7 x : HProp} {l : List HProp} (h : Holds B (a0 :: a1 :: a2 :: a3 :: a4 :: a5 :: a6 :: a7 :: x :: l) w) : Holds B (x :: a0 :: a1 :: a2 :: a3 :: a4 :: a5 :: a6 :: a7 :: l) w := h.pick (i := 8) rfl
theorem P9 {a0 a1 a2 a3 a4 a5 a6 a7 a8 x : HProp} {l : List HProp} (h : Holds B (a0 :: a1 :: a2 :: a3 :: a4 :: a5 :: a6 :: a7 :: a8 :: x :: l) w) : Holds B (x :: a0 :: a1 :: a2 :: a3 :: a4 :: a5 :: a6 :: a7 :: a8 :: l) w := h.pick (i := 9) rfl
theorem P10 {a0 a1 a2 a3 a4 a5 a6 a7 a8 a9 x : HProp} {l : List HProp} (h : Holds B (a0 :: a1 :: a2 :: a3 :: a4 :: a5 :: a6 :: a7 :: a8 :: a9 :: x :: l) w) : Holds B (x :: a0 :: a1 :: a2 :: a3 :: a4 :: a5 :: a6 :: a7 :: a8 :: a9 :: l) w := h.pick (i := 10) rfl
theorem P11 {a0 a1 a2 a3 a4 a5 a6 a7 a8 a9 a10 x : HProp} {l : List HProp} (h : Holds B (a0 :: a1 :: a2 :: a3 :: a4 :: a5 :: a6 :: a7 :: a8 :: a9 :: a10 :: x :: l) w) : Holds B (x :: a0 :: a1 :: a2 :: a3 :: a4 :: a5 :: a6 :: a7 :: a8 :: a9 :: a10 :: l) w := h.pick (i := 11) rfl
theorem P12 {a0 a1 a2 a3 a4 a5 a6 a7 a8 a9 a10 a11 x : HProp} {l : List HProp} (h : Holds B (a0 :: a1 :: a2 :: a3 :: a4 :: a5 :: a6 :: a7 :: a8 :: a9 :: a10 :: a11 :: x :: l) w) : Holds B (x :: a0 :: a1 :: a2 :: a3 :: a4 :: a5 :: a6 :: a7 :: a8 :: a9 :: a10 :: a11 :: l) w := h.pick (i := 12) rfl
theorem P13 {a0 a1 a2 a3 a4 a5 a6 a7 a8 a9 a10 a11 a12 x : HProp} {l : List HProp} (h : Holds B (a0 :: a1 :: a2 :: a3 :: a4 :: a5 :: a6 :: a7 :: a8 :: a9 :: a10 :: a11 :: a12 :: x :: l) w) : Holds B (x :: a0 :: a1 :: a2 :: a3 :: a4 :: a5 :: a6 :: a7 :: a8 :: a9 :: a10 :: a11 :: a12 :: l) w := h.pick (i := 13) rfl
theorem D0 { x : HProp} {l : List HProp} (h : Holds B (x :: l) w) : Holds B (l) w := h.del (i := 0) rfl
theorem D1 {a0 x : HProp} {l : List HProp} (h : Holds B (a0 :: x :: l) w) : Holds B (a0 :: l) w := h.del (i := 1) rfl
theorem D2 {a0 a1 x : HProp} {l : List HProp} (h : Holds B (a0 :: a1 :: x :: l) w) : Holds B (a0 :: a1 :: l) w := h.del (i := 2) rfl
theorem D3 {a0 a1 a2 x : HProp} {l : List HProp} (h : Holds B (a0 :: a1 :: a2 :: x :: l) w) : Holds B (a0 :: a1 :: a2 :: l) w := h.del (i := 3) rfl
theorem D4 {a0 a1 a2 a3 x : HProp} {l : List HProp} (h : Holds B (a0 :: a1 :: a2 :: a3 :: x :: l) w) : Holds B (a0 :: a1 :: a2 :: a3 :: l) w := h.del (i := 4) rfl
theorem D5 {a0 a1 a2 a3 a4 x : HProp} {l : List HProp} (h : Holds B (a0 :: a1 :: a2 :: a3 :: a4 :: x :: l) w) : Holds B (a0 :: a1 :: a2 :: a3 :: a4 :: l) w := h.del (i := 5) rfl
theorem D6 {a0 a1 a2 a3 a4 a5 x : HProp} {l : List HProp} (h : Holds B (a0 :: a1 :: a2 :: a3 :: a4 :: a5 :: x :: l) w) : Holds B (a0 :: a1 :: a2 :: a3 :: a4 :: a5 :: l) w := h.del (i := 6) rfl
theorem D7 {a0 a1 a2 a3 a4 a5 a6 x : HProp} {l : List HProp} (h : Holds B (a0 :: a1 :: a2 :: a3 :: a4 :: a5 :: a6 :: x :: l) w) : Holds B (a0 :: a1 :: a2 :: a3 :: a4 :: a5 :: a6 :: l) w := h.del (i := 7) rfl
theorem D8 {a0 a1 a2 a3 a4 a5 a6 a7 x : HProp} {l : List HProp} (h : Holds B (a0 :: a1 :: a2 :: a3 :: a4 :: a5 :: a6 :: a7 :: x :: l) w) : Holds B (a0 :: a1 :: a2 :: a3 :: a4 :: a5 :: a6 :: a7 :: l) w := h.del (i := 8) rfl
theorem D9 {a0 a1 a2 a3 a4 a5 a6 a7 a8 x : HProp} {l : List HProp} (h : Holds B (a0 :: a1 :: a2 :: a3 :: a4 :: a5 :: a6 :: a7 :: a8 :: x :: l) w) : Holds B (a0 :: a1 :: a2 :: a3 :: a4 :: a5 :: a6 :: a7 :: a8 :: l) w := h.del (i := 9) rfl
theorem D10 {a0 a1 a2 a3 a4 a5 a6 a7 a8 a9 x : HProp} {l : List HProp} (h : Holds B (a0 :: a1 :: a2 :: a3 :: a4 :: a5 :: a6 :: a7 :: a8 :: a9 :: x :: l) w) : Holds B (a0 :: a1 :: a2 :: a3 :: a4 :: a5 :: a6 :: a7 :: a8 :: a9 :: l) w := h.del (i := 10) rfl
theorem D11 {a0 a1 a2 a3 a4 a5 a6 a7 a8 a9 a10 x : HProp} {l : List HProp} (h : Holds B (a0 :: a1 :: a2 :: a3 :: a4 :: a5 :: a6 :: a7 :: a8 :: a9 :: a10 :: x :: l) w) : Holds B (a0 :: a1 :: a2 :: a3 :: a4 :: a5 :: a6 :: a7 :: a8 :: a9 :: a10 :: l) w := h.del (i := 11) rfl
theorem D12 {a0 a1 a2 a3 a4 a5 a6 a7 a8 a9 a10 a11 x : HProp} {l : List HProp} (h : Holds B (a0 :: a1 :: a2 :: a3 :: a4 :: a5 :: a6 :: a7 :: a8 :: a9 :: a10 :: a11 :: x :: l) w) : Holds B (a0 :: a1 :: a2 :: a3 :: a4 :: a5 :: a6 :: a7 :: a8 :: a9 :: a10 :: a11 :: l) w := h.del (i := 12) rfl
theorem D13 {a0 a1 a2 a3 a4 a5 a6 a7 a8 a9 a10 a11 a12 x : HProp} {l : List HProp} (h : Holds B (a0 :: a1 :: a2 :: a3 :: a4 :: a5 :: a6 :: a7 :: a8 :: a9 :: a10 :: a11 :: a12 :: x :: l) w) : Holds B (a0 :: a1 :: a2 :: a3 :: a4 :: a5 :: a6 :: a7 :: a8 :: a9 :: a10 :: a11 :: a12 :: l) w := h.del (i := 13) rfl
end
section
variable {α : Type _}
theorem N1 (a b : α) (l : List α) : (a :: l).set 0 b = b :: l := rfl
theorem N2 (a b : α) (l : List α) (n : Nat) : (a :: l).set (n + 1) b = a :: l.set n b := rfl
theorem N3 (l : List α) : l.eraseIdx 0 = l.tail := List.eraseIdx_zero
theorem N4 (a : α) (l : List α) : (a :: l).eraseIdx 0 = l := rfl
theorem N5 (a : α) (l : List α) (n : Nat) : (a :: l).eraseIdx (n + 1) = a :: l.eraseIdx n := rfl
theorem N6 (l : List α) (i : Nat) (a : α) : l.toArray.setIfInBounds i a = (l.set i a).toArray := List.setIfInBounds_toArray ..
theorem N7 (a : α) (l : List α) : (a :: l).tail = l := rfl
end
section
variable {B w : World} {a : Addr} {b off n : Nat} {cs vs : Array Value} {T : TypeId} {v : Value} {k : K} {l : List HProp}
theorem S0 (h : Holds B (blk b (.cells cs T (0, 0)) :: l) w) (ha : a = ⟨b, off, none⟩) (ho : off < cs.size) (hv : flatV v = true) (hk : ∀ w', Holds B (blk b (.cells (cs.setIfInBounds off v) T (0, 0)) :: l) w' → k w') : St a v k w := r_st 0 h ha rfl ho (nofz _) hv hk
theorem T0 (h : Holds B (blk b (.cells cs T (0, 0)) :: l) w) (ha : a = ⟨b, 0, none⟩) (hn : cs.size = n) (hv : vs.size = n) (hfl : ∀ v ∈ vs.toList, flatV v = true) (hk : ∀ w', Holds B (blk b (.cells vs T (0, 0)) :: l) w' → k w') : StN a n vs k w := r_stN 0 h ha rfl hn hv (fun _ _ => nofz _) hfl hk
theorem S1 {a0 : HProp} (h : Holds B (a0 :: blk b (.cells cs T (0, 0)) :: l) w) (ha : a = ⟨b, off, none⟩) (ho : off < cs.size) (hv : flatV v = true) (hk : ∀ w', Holds B (a0 :: blk b (.cells (cs.setIfInBounds off v) T (0, 0)) :: l) w' → k w') : St a v k w := r_st 1 h ha rfl ho (nofz _) hv hk
theorem T1 {a0 : HProp} (h : Holds B (a0 :: blk b (.cells cs T (0, 0)) :: l) w) (ha : a = ⟨b, 0, none⟩) (hn : cs.size = n) (hv : vs.size = n) (hfl : ∀ v ∈ vs.toList, flatV v = true) (hk : ∀ w', Holds B (a0 :: blk b (.cells vs T (0, 0)) :: l) w' → k w') : StN a n vs k w := r_stN 1 h ha rfl hn hv (fun _ _ => nofz _) hfl hk
theorem S2 {a0 a1 : HProp} (h : Holds B (a0 :: a1 :: blk b (.cells cs T (0, 0)) :: l) w) (ha : a = ⟨b, off, none⟩) (ho : off < cs.size) (hv : flatV v = true) (hk : ∀ w', Holds B (a0 :: a1 :: blk b (.cells (cs.setIfInBounds off v) T (0, 0)) :: l) w' → k w') : St a v k w := r_st 2 h ha rfl ho (nofz _) hv hk
theorem T2 {a0 a1 : HProp} (h : Holds B (a0 :: a1 :: blk b (.cells cs T (0, 0)) :: l) w) (ha : a = ⟨b, 0, none⟩) (hn : cs.size = n) (hv : vs.size = n) (hfl : ∀ v ∈ vs.toList, flatV v = true) (hk : ∀ w', Holds B (a0 :: a1 :: blk b (.cells vs T (0, 0)) :: l) w' → k w') : StN a n vs k w := r_stN 2 h ha rfl hn hv (fun _ _ => nofz _) hfl hk
theorem S3 {a0 a1 a2 : HProp} (h : Holds B (a0 :: a1 :: a2 :: blk b (.cells cs T (0, 0)) :: l) w) (ha : a = ⟨b, off, none⟩) (ho : off < cs.size) (hv : flatV v = true) (hk : ∀ w', Holds B (a0 :: a1 :: a2 :: blk b (.cells (cs.setIfInBounds off v) T (0, 0)) :: l) w' → k w') : St a v k w := r_st 3 h ha rfl ho (nofz _) hv hk
theorem T3 {a0 a1 a2 : HProp} (h : Holds B (a0 :: a1 :: a2 :: blk b (.cells cs T (0, 0)) :: l) w) (ha : a = ⟨b, 0, none⟩) (hn : cs.size = n) (hv : vs.size = n) (hfl : ∀ v ∈ vs.toList, flatV v = true) (hk : ∀ w', Holds B (a0 :: a1 :: a2 :: blk b (.cells vs T (0, 0)) :: l) w' → k w') : StN a n vs k w := r_stN 3 h ha rfl hn hv (fun _ _ => nofz _) hfl hk
theorem S4 {a0 a1 a2 a3 : HProp} (h : Holds B (a0 :: a1 :: a2 :: a3 :: blk b (.cells cs T (0, 0)) :: l) w) (ha : a = ⟨b, off, none⟩) (ho : off < cs.size) (hv : flatV v = true) (hk : ∀ w', Holds B (a0 :: a1 :: a2 :: a3 :: blk b (.cells (cs.setIfInBounds off v) T (0, 0)) :: l) w' → k w') : St a v k w := r_st 4 h ha rfl ho (nofz _) hv hk
theorem T4 {a0 a1 a2 a3 : HProp} (h : Holds B (a0 :: a1 :: a2 :: a3 :: blk b (.cells cs T (0, 0)) :: l) w) (ha : a = ⟨b, 0, none⟩) (hn : cs.size = n) (hv : vs.size = n) (hfl : ∀ v ∈ vs.toList, flatV v = true) (hk : ∀ w', Holds B (a0 :: a1 :: a2 :: a3 :: blk b (.cells vs T (0, 0)) :: l) w' → k w') : StN a n vs k w := r_stN 4 h ha rfl hn hv (fun _ _ => nofz _) hfl hk
theorem S5 {a0 a1 a2 a3 a4 : HProp} (h : Holds B (a0 :: a1 :: a2 :: a3 :: a4 :: blk b (.cells cs T (0, 0)) :: l) w) (ha : a = ⟨b, off, none⟩) (ho : off < cs.size) (hv : flatV v = true) (hk : ∀ w', Holds B (a0 :: a1 :: a2 :: a3 :: a4 :: blk b (.cells (cs.setIfInBounds off v) T (0, 0)) :: l) w' → k w') : St a v k w := r_st 5 h ha rfl ho (nofz _) hv hk
theorem T5 {a0 a1 a2 a3 a4 : HProp} (h : Holds B (a0 :: a1 :: a2 :: a3 :: a4 :: blk b (.cells cs T (0, 0)) :: l) w) (ha : a = ⟨b, 0, none⟩) (hn : cs.size = n) (hv : vs.size = n) (hfl : ∀ v ∈ vs.toList, flatV v = true) (hk : ∀ w', Holds B (a0 :: a1 :: a2 :: a3 :: a4 :: blk b (.cells vs T (0, 0)) :: l) w' → k w') : StN a n vs k w := r_stN 5 h ha rfl hn hv (fun _ _ => nofz _) hfl hk
theorem S6 {a0 a1 a2 a3 a4 a5 : HProp} (h : Holds B (a0 :: a1 :: a2 :: a3 :: a4 :: a5 :: blk b (.cells cs T (0, 0)) :: l) w) (ha : a = ⟨b, off, none⟩) (ho : off < cs.size) (hv : flatV v = true) (hk : ∀ w', Holds B (a0 :: a1 :: a2 :: a3 :: a4 :: a5 :: blk b (.cells (cs.setIfInBounds off v) T (0, 0)) :: l) w' → k w') : St a v k w := r_st 6 h ha rfl ho (nofz _) hv hk
theorem T6 {a0 a1 a2 a3 a4 a5 : HProp} (h : Holds B (a0 :: a1 :: a2 :: a3 :: a4 :: a5 :: blk b (.cells cs T (0, 0)) :: l) w) (ha : a = ⟨b, 0, none⟩) (hn : cs.size = n) (hv : vs.size = n) (hfl : ∀ v ∈ vs.toList, flatV v = true) (hk : ∀ w', Holds B (a0 :: a1 :: a2 :: a3 :: a4 :: a5 :: blk b (.cells vs T (0, 0)) :: l) w' → k w') : StN a n vs k w := r_stN 6 h ha rfl hn hv (fun _ _ => nofz _) hfl hk
theorem S7 {a0 a1 a2 a3 a4 a5 a6 : HProp} (h : Holds B (a0 :: a1 :: a2 :: a3 :: a4 :: a5 :: a6 :: blk b (.cells cs T (0, 0)) :: l) w) (ha : a = ⟨b, off, none⟩) (ho : off < cs.size) (hv : flatV v = true) (hk : ∀ w', Holds B (a0 :: a1 :: a2 :: a3 :: a4 :: a5 :: a6 :: blk b (.cells (cs.setIfInBounds off v) T (0, 0)) :: l) w' → k w') : St a v k w := r_st 7 h ha rfl ho (nofz _) hv hk
theorem T7 {a0 a1 a2 a3 a4 a5 a6 : HProp} (h : Holds B (a0 :: a1 :: a2 :: a3 :: a4 :: a5 :: a6 :: blk b (.cells cs T (0, 0)) :: l) w) (ha : a = ⟨b, 0, none⟩) (hn : cs.size = n) (hv : vs.size = n) (hfl : ∀ v ∈ vs.toList, flatV v = true) (hk : ∀ w', Holds B (a0 :: a1 :: a2 :: a3 :: a4 :: a5 :: a6 :: blk b (.cells vs T (0, 0)) :: l) w' → k w') : StN a n vs k w := r_stN 7 h ha rfl hn hv (fun _ _ => nofz _) hfl hk
theorem S8 {a0 a1 a2 a3 a4 a5 a6 a7 : HProp} (h : Holds B (a0 :: a1 :: a2 :: a3 :: a4 :: a5 :: a6 :: a7 :: blk b (.cells cs T (0, 0)) :: l) w) (ha : a = ⟨b, off, none⟩) (ho : off < cs.size) (hv : flatV v = true) (hk : ∀ w', Holds B (a0 :: a1 :: a2 :: a3 :: a4 :: a5 :: a6 :: a7 :: blk b (.cells (cs.setIfInBounds off v) T (0, 0)) :: l) w' → k w') : St a v k w := r_st 8 h ha rfl ho (nofz _) hv hk
theorem T8 {a0 a1 a2 a3 a4 a5 a6 a7 : HProp} (h : Holds B (a0 :: a1 :: a2 :: a3 :: a4 :: a5 :: a6 :: a7 :: blk b (.cells cs T (0, 0)) :: l) w) (ha : a = ⟨b, 0, none⟩) (hn : cs.size = n) (hv : vs.size = n) (hfl : ∀ v ∈ vs.toList, flatV v = true) (hk : ∀ w', Holds B (a0 :: a1 :: a2 :: a3 :: a4 :: a5 :: a6 :: a7 :: blk b (.cells vs T (0, 0)) :: l) w' → k w') : StN a n vs k w := r_stN 8 h ha rfl hn hv (fun _ _ => nofz _) hfl hk
end
end Go.Sep
