/- The document's disk: the list of files, and its functions that look; drop and put. -/
import Derived.Test.YtgnkminakongkaaSDisk5
import Derived.Test.YtgnkminakongkaaIRRef03
import Derived.Test.YtgnkminakongkaaIRRef031
namespace Go.Proofs.Ytgnkminakongkaa
open Go Go.Sep
set_option linter.unusedSimpArgs false
set_option linter.unusedVariables false
set_option maxRecDepth 100000

--! short

structure RF where
  f : FileD
  s : Sl
abbrev RFs := List (List UInt8 × RF)
abbrev rfF (x : List UInt8 × RF) : List Value := [strV x.1, x.2.s.val, .int .i64 (x.2.f.last : Int)]
abbrev rfA (x : List UInt8 × RF) : Array Value := #[strV x.1, x.2.s.val, .int .i64 (x.2.f.last : Int)]
theorem rfF_len (x : List UInt8 × RF) : (rfF x).length = 3 := rfl
abbrev plainR (fs : RFs) : Files := fs.map fun p => (p.1, p.2.f)
abbrev PoolL := List (Sl × List UInt8)
abbrev poolB (p : Sl × List UInt8) : HProp := Bytes ty_uint8 p.1 p.2
def Cov (L : PoolL) (s : Sl) (x : List UInt8) : Prop := (s = ⟨none, 0, 0⟩ ∧ x = []) ∨ ∃ p ∈ L, ∃ n c, n ≤ p.1.n ∧ n ≤ c ∧ s = ⟨p.1.a, n, c⟩ ∧ x = p.2.take n
abbrev CovA (L : PoolL) (fs : RFs) : Prop := ∀ p ∈ fs, Cov L p.2.s p.2.f.data
abbrev mA (a : DkA) (s : Sl) : Array Value := #[.int .i64 a.room, s.val, .int .i64 a.left, .bool a.down]
--! RO(m;a;s;fs;L;G) = (blk $m (.cells (mA $a $s) ty_argosyref03_Disk (0, 0)) :: SlC ty_argosyref03_File 3 $s (List.flatMap rfF $fs) :: stars (List.map poolB $L) :: $G)

theorem bytesLess_dec : ∀ (x y : List UInt8), Op.bytesLess x y = decide (x < y)
  | [], [] => by simp [Op.bytesLess]
  | _ :: _, [] => by simp [Op.bytesLess]
  | [], _ :: _ => by simp [Op.bytesLess]
  | a :: x, b :: y => by
    rw [Op.bytesLess, bytesLess_dec x y]
    simp only [List.cons_lt_cons_iff]
    by_cases h1 : a < b <;> by_cases h2 : a = b <;> by_cases h3 : x < y <;> simp [h1, h2, h3]
theorem gt_dec (x y : List UInt8) : (!(Op.bytesLess x y || x == y)) = decide (y < x) := by
  rw [bytesLess_dec]
  by_cases h1 : x < y
  · have : ¬ y < x := fun h => List.lt_irrefl x (List.lt_trans h1 h)
    simp [h1, this]
  · by_cases h2 : x = y
    · subst h2; simp [h1]
    · have h3 : y < x := by
        have h4 : y ≤ x := by rw [← List.not_lt]; exact h1
        rcases List.le_iff_lt_or_eq.1 h4 with h5 | h5
        · exact h5
        · exact absurd h5.symm h2
      simp [h1, h2, h3]

section
variable {B w : World} {Γ : List HProp} {m : Nat} {a : DkA} {s : Sl} {fs : RFs} {L : PoolL} {n : List UInt8}

theorem rf_flat (fs : RFs) : ∀ v ∈ fs.flatMap rfF, flatV v = true := fun v hv => by
  obtain ⟨x, _, hx⟩ := List.mem_flatMap.1 hv
  simp only [rfF, List.mem_cons, List.not_mem_nil, or_false] at hx
  rcases hx with rfl | rfl | rfl <;> rfl
theorem rf_n {A : HProp} (h : Holds B (A :: SlC ty_argosyref03_File 3 s (fs.flatMap rfF) :: Γ) w) : fs.length = s.n := by
  have := h.tail.slCap.1
  rw [flatMap_len rfF 3 rfF_len] at this
  omega

theorem r_fidx {j : Nat} {x : List UInt8 × RF} {k : Addr → K} (hr : RdC w s 3 (fs.flatMap rfF)) (hx : fs[j]? = some x)
    (hk : ∀ t, w.cell? t = some (strV x.1) → w.cell? (t.add 1) = some x.2.s.val → w.cell? (t.add 2) = some (.int .i64 (x.2.f.last : Int)) → RdN w t (rfA x) → k t w) : Idx s (j : Int) 3 k w := by
  refine r_idxA rfF rfF_len (by decide) hr hx fun t ht => ?_
  have h := ht w hr
  exact hk t (h 0 (show 0 < 3 by decide)) (h 1 (show 1 < 3 by decide)) (h 2 (show 2 < 3 by decide)) h

theorem cov_rd {x : List UInt8} (i : Nat) (h : Holds B Γ w) (hi : Γ[i]? = some (stars (L.map poolB))) (hc : Cov L s x) : RdB w s x ∧ x.length = s.n ∧ s.n ≤ s.c ∧ ∀ a, s.a = some a → a.spot = none := by
  rcases hc with ⟨rfl, rfl⟩ | ⟨p, hp, n, c, h1, h2, rfl, rfl⟩
  · exact ⟨RdC.none', rfl, Nat.le_refl _, fun a ha => by cases ha⟩
  · have h3 : RdB w p.1 p.2 := stars_rd (f := poolB) i h hi hp rfl
    obtain ⟨l1, l2, rfl⟩ := List.append_of_mem hp
    have h4 := h.pick i hi
    rw [List.map_append, List.map_cons] at h4
    have h5 := (stars_app.1 h4).tail
    have h6 : Holds B (poolB p :: stars (l2.map poolB) :: Γ.eraseIdx i) w := stars_cons.1 h5
    have h7 := Bytes.len h6
    have h8 := h6.slCap.2.2.1
    exact ⟨rdB_take h3 h1, by rw [List.length_take]; show min n p.2.length = n; omega, h2, h8⟩
theorem Cov.grow {x : List UInt8} {p : Sl × List UInt8} (h : Cov L s x) : Cov (p :: L) s x := by
  rcases h with h | ⟨q, hq, h⟩
  · exact .inl h
  · exact .inr ⟨q, List.mem_cons_of_mem _ hq, h⟩
theorem Cov.here {x : List UInt8} (hn : x.length = s.n) (hc : s.n ≤ s.c) : Cov ((s, x) :: L) s x :=
  .inr ⟨(s, x), List.mem_cons_self, s.n, s.c, Nat.le_refl _, hc, rfl, by show x = x.take s.n; rw [← hn, List.take_length]⟩

theorem mget_none : ∀ {fs : RFs}, (∀ p ∈ fs, p.1 ≠ n) → mget n (plainR fs) = none
  | [], _ => rfl
  | p :: fs, hb => by
    show (if n = p.1 then _ else _) = none
    rw [if_neg (fun e => hb p List.mem_cons_self e.symm)]
    exact mget_none fun q hq => hb q (List.mem_cons_of_mem _ hq)
theorem mget_at {x : RF} {l1 l2 : RFs} (he : fs = l1 ++ (n, x) :: l2) (hb : ∀ p ∈ l1, p.1 ≠ n) : mget n (plainR fs) = some x.f := by
  subst he
  induction l1 with
  | nil => exact if_pos rfl
  | cons p l1 ih =>
    show (if n = p.1 then _ else _) = _
    rw [if_neg (fun e => hb p List.mem_cons_self e.symm)]
    exact ih fun q hq => hb q (List.mem_cons_of_mem _ hq)

theorem ref_New_spec {room : Int} {k : Option Addr → K} (h : Holds B Γ w) (hk : ∀ m w, Holds B (blk m (.cells (mA (⟨room, -1, false⟩ : DkA) (⟨none, 0, 0⟩ : Sl)) ty_argosyref03_Disk (0, 0)) :: SlC ty_argosyref03_File 3 (⟨none, 0, 0⟩ : Sl) (List.flatMap rfF ([] : RFs)) :: stars (List.map poolB ([] : PoolL)) :: Γ) w → k (some ⟨m, 0, none⟩) w) : ref03_New.call room k w := by
  refine ref03_New_ok _ _ _ ?_
  unfold ref03_New
  refine r_new h ?_
  clear h
  intro m w h
  try simp only [add_mk, Nat.zero_add, Nat.reduceAdd]
  replace h := (h.starsNil).nilSl ty_argosyref03_File 3
  replace h := P1 h
  replace h := P1 h
  replace h := P2 h
  try simp only [N1, N2, N3, N4, N5, N6, N7] at h
  exact hk m w h

theorem ref_Limit_spec {c : Int} {k : K} (h : Holds B (blk m (.cells (mA a s) ty_argosyref03_Disk (0, 0)) :: SlC ty_argosyref03_File 3 s (List.flatMap rfF fs) :: stars (List.map poolB L) :: Γ) w) (hk : ∀ w, Holds B (blk m (.cells (mA { a with left := if -1 > c then -1 else c } s) ty_argosyref03_Disk (0, 0)) :: SlC ty_argosyref03_File 3 s (List.flatMap rfF fs) :: stars (List.map poolB L) :: Γ) w → k w) : ref03_Disk_Limit.call (some ⟨m, 0, none⟩) c k w := by
  refine ref03_Disk_Limit_ok _ _ _ _ ?_
  unfold ref03_Disk_Limit
  refine r_nn rfl ?_
  try simp only [add_mk, Nat.zero_add, Nat.reduceAdd]
  first | refine S0 h rfl ?_ rfl ?_ | refine S1 h rfl ?_ rfl ?_ | refine S2 h rfl ?_ rfl ?_ | refine S3 h rfl ?_ rfl ?_ | refine S4 h rfl ?_ rfl ?_ | refine S5 h rfl ?_ rfl ?_ | refine S6 h rfl ?_ rfl ?_ | refine S7 h rfl ?_ rfl ?_ | refine S8 h rfl ?_ rfl ?_
  · first | exact Nat.lt_of_ble_eq_true rfl | (simp; done) | (simp; omega)
  clear h
  intro w h
  try simp only [N1, N2, N3, N4, N5, N6, N7] at h
  refine r_ite (fun hc => ?_) (fun hc => ?_)
  · simp only [decide_eq_true_eq] at hc
    first | refine S0 h rfl ?_ rfl ?_ | refine S1 h rfl ?_ rfl ?_ | refine S2 h rfl ?_ rfl ?_ | refine S3 h rfl ?_ rfl ?_ | refine S4 h rfl ?_ rfl ?_ | refine S5 h rfl ?_ rfl ?_ | refine S6 h rfl ?_ rfl ?_ | refine S7 h rfl ?_ rfl ?_ | refine S8 h rfl ?_ rfl ?_
    · first | exact Nat.lt_of_ble_eq_true rfl | (simp; done) | (simp; omega)
    clear h
    intro w h
    try simp only [N1, N2, N3, N4, N5, N6, N7] at h
    refine hk _ ?_
    have e : (if -1 > c then -1 else c) = -1 := by split <;> omega
    rw [e]
    exact h
  · simp only [decide_eq_false_iff_not] at hc
    refine hk _ ?_
    rw [if_neg (by omega)]
    exact h

theorem ref_use_spec {k : Bool → K} (ha : okA a) (h : Holds B (blk m (.cells (mA a s) ty_argosyref03_Disk (0, 0)) :: SlC ty_argosyref03_File 3 s (List.flatMap rfF fs) :: stars (List.map poolB L) :: Γ) w) (hk : ∀ w, Holds B (blk m (.cells (mA (chg a).1 s) ty_argosyref03_Disk (0, 0)) :: SlC ty_argosyref03_File 3 s (List.flatMap rfF fs) :: stars (List.map poolB L) :: Γ) w → k (decide ((chg a).2 = 0)) w) : ref03_Disk_use.call (some ⟨m, 0, none⟩) k w := by
  obtain ⟨ha1, ha2⟩ := ha
  refine ref03_Disk_use_ok _ _ _ ?_
  unfold ref03_Disk_use
  refine r_nn rfl ?_
  try simp only [add_mk, Nat.zero_add, Nat.reduceAdd]
  refine r_ld (x := a.left) h rfl (by first | with_reducible exact M0 | with_reducible exact M1 | with_reducible exact M2 | with_reducible exact M3 | with_reducible exact M4 | with_reducible exact M5 | with_reducible exact M6 | with_reducible exact M7 | with_reducible exact M8 | with_reducible exact M9 | with_reducible exact M10 | with_reducible exact M11 | with_reducible exact M12) ?_ ?_
  · exact rfl
  refine r_ite (fun hc => ?_) (fun hc => ?_)
  · simp only [decide_eq_true_eq] at hc
    first | refine S0 h rfl ?_ rfl ?_ | refine S1 h rfl ?_ rfl ?_ | refine S2 h rfl ?_ rfl ?_ | refine S3 h rfl ?_ rfl ?_ | refine S4 h rfl ?_ rfl ?_ | refine S5 h rfl ?_ rfl ?_ | refine S6 h rfl ?_ rfl ?_ | refine S7 h rfl ?_ rfl ?_ | refine S8 h rfl ?_ rfl ?_
    · first | exact Nat.lt_of_ble_eq_true rfl | (simp; done) | (simp; omega)
    clear h
    intro w h
    try simp only [N1, N2, N3, N4, N5, N6, N7] at h
    have e : chg a = ({ a with down := true }, 3) := by unfold chg; rw [if_pos hc]
    rw [e] at hk
    exact hk _ h
  · simp only [decide_eq_false_iff_not] at hc
    refine r_ld (x := a.left) h rfl (by first | with_reducible exact M0 | with_reducible exact M1 | with_reducible exact M2 | with_reducible exact M3 | with_reducible exact M4 | with_reducible exact M5 | with_reducible exact M6 | with_reducible exact M7 | with_reducible exact M8 | with_reducible exact M9 | with_reducible exact M10 | with_reducible exact M11 | with_reducible exact M12) ?_ ?_
    · exact rfl
    refine r_ite (fun hc2 => ?_) (fun hc2 => ?_)
    · simp only [decide_eq_true_eq] at hc2
      refine r_ld (x := a.left) h rfl (by first | with_reducible exact M0 | with_reducible exact M1 | with_reducible exact M2 | with_reducible exact M3 | with_reducible exact M4 | with_reducible exact M5 | with_reducible exact M6 | with_reducible exact M7 | with_reducible exact M8 | with_reducible exact M9 | with_reducible exact M10 | with_reducible exact M11 | with_reducible exact M12) ?_ ?_
      · exact rfl
      refine r_add64 (by omega) (by omega) ?_
      first | refine S0 h rfl ?_ rfl ?_ | refine S1 h rfl ?_ rfl ?_ | refine S2 h rfl ?_ rfl ?_ | refine S3 h rfl ?_ rfl ?_ | refine S4 h rfl ?_ rfl ?_ | refine S5 h rfl ?_ rfl ?_ | refine S6 h rfl ?_ rfl ?_ | refine S7 h rfl ?_ rfl ?_ | refine S8 h rfl ?_ rfl ?_
      · first | exact Nat.lt_of_ble_eq_true rfl | (simp; done) | (simp; omega)
      clear h
      intro w h
      try simp only [N1, N2, N3, N4, N5, N6, N7] at h
      unfold ref03_Disk_use.s1
      have e : chg a = ({ a with left := a.left - 1 }, 0) := by unfold chg; rw [if_neg hc, if_pos hc2]
      rw [e] at hk
      exact hk _ h
    · simp only [decide_eq_false_iff_not] at hc2
      unfold ref03_Disk_use.s1
      have e : chg a = (a, 0) := by unfold chg; rw [if_neg hc, if_neg hc2]
      rw [e] at hk
      exact hk _ h

theorem ref_At_spec {k : Int → K} (hl : fs.length ≤ 1000) (h : Holds B (blk m (.cells (mA a s) ty_argosyref03_Disk (0, 0)) :: SlC ty_argosyref03_File 3 s (List.flatMap rfF fs) :: stars (List.map poolB L) :: Γ) w) (hno : (∀ p ∈ fs, p.1 ≠ n) → k (-1) w)
    (hyes : ∀ l1 x l2, fs = l1 ++ (n, x) :: l2 → (∀ p ∈ l1, p.1 ≠ n) → k (l1.length : Int) w) : ref03_Disk_At.call (some ⟨m, 0, none⟩) (bs n) k w := by
  have hn := rf_n h
  refine ref03_Disk_At_ok _ _ _ _ ?_
  unfold ref03_Disk_At
  refine LoopK.of (fun t w1 => ∃ j : Nat, t = (j : Int) ∧ j ≤ fs.length ∧ (∀ p ∈ fs.take j, p.1 ≠ n) ∧ w1 = w) (fun t _ => ((s.n : Int) - t).toNat) ⟨0, rfl, by omega, by simp, rfl⟩ ?_
  rintro t w1 ⟨j, rfl, hj, hb, rfl⟩
  unfold ref03_Disk_At.b1
  refine r_nn rfl ?_
  try simp only [add_mk, Nat.zero_add, Nat.reduceAdd]
  refine r_ld (x := s) h rfl (by first | with_reducible exact M0 | with_reducible exact M1 | with_reducible exact M2 | with_reducible exact M3 | with_reducible exact M4 | with_reducible exact M5 | with_reducible exact M6 | with_reducible exact M7 | with_reducible exact M8 | with_reducible exact M9 | with_reducible exact M10 | with_reducible exact M11 | with_reducible exact M12) ?_ ?_
  · exact rfl
  refine r_ite (fun hlt => ?_) (fun hge => ?_)
  · simp only [decide_eq_true_eq] at hlt
    have hjl : j < fs.length := by omega
    have hx : fs[j]? = some fs[j] := List.getElem?_eq_getElem hjl
    generalize hxe : fs[j] = x at hx
    refine r_ld (x := s) h rfl (by first | with_reducible exact M0 | with_reducible exact M1 | with_reducible exact M2 | with_reducible exact M3 | with_reducible exact M4 | with_reducible exact M5 | with_reducible exact M6 | with_reducible exact M7 | with_reducible exact M8 | with_reducible exact M9 | with_reducible exact M10 | with_reducible exact M11 | with_reducible exact M12) ?_ ?_
    · exact rfl
    refine r_fidx (h.rdC (by first | with_reducible exact M0 | with_reducible exact M1 | with_reducible exact M2 | with_reducible exact M3 | with_reducible exact M4 | with_reducible exact M5 | with_reducible exact M6 | with_reducible exact M7 | with_reducible exact M8 | with_reducible exact M9 | with_reducible exact M10 | with_reducible exact M11 | with_reducible exact M12)) hx fun t h0 h1 h2 h3 => ?_
    refine r_ld_of (x := bs x.1) h0 ?_
    rw [str_toList, str_toList]
    refine r_ite (fun he => ?_) (fun he => ?_)
    · have he' : x.1 = n := by simpa using he
      have h4 : fs = fs.take j ++ x :: fs.drop (j + 1) := by
        rw [← hxe, ← List.drop_eq_getElem_cons hjl, List.take_append_drop]
      have h5 := hyes (fs.take j) x.2 (fs.drop (j + 1)) (by rw [← he']; exact h4) hb
      have h6 : (fs.take j).length = j := by rw [List.length_take]; omega
      rw [h6] at h5
      exact h5
    · have he' : x.1 ≠ n := by simpa using he
      refine r_add64 (by omega) (by omega) ?_
      refine ⟨⟨j + 1, by omega, by omega, fun p hp => ?_, rfl⟩, by omega⟩
      rw [List.take_succ_eq_append_getElem hjl, hxe] at hp
      rcases List.mem_append.1 hp with hp | hp
      · exact hb p hp
      · simp only [List.mem_singleton] at hp
        subst hp
        exact he'
  · simp only [decide_eq_false_iff_not] at hge
    have : j = fs.length := by omega
    subst this
    rw [List.take_length] at hb
    exact hno hb

theorem ref_find_spec {k : Int → Int → K} (hl : fs.length ≤ 1000) (h : Holds B (blk m (.cells (mA a s) ty_argosyref03_Disk (0, 0)) :: SlC ty_argosyref03_File 3 s (List.flatMap rfF fs) :: stars (List.map poolB L) :: Γ) w) (hd : a.down = true → k (-1) 3 w) (hno : a.down = false → (∀ p ∈ fs, p.1 ≠ n) → k (-1) 60 w)
    (hyes : a.down = false → ∀ l1 x l2, fs = l1 ++ (n, x) :: l2 → (∀ p ∈ l1, p.1 ≠ n) → k (l1.length : Int) 0 w) : ref03_Disk_find.call (some ⟨m, 0, none⟩) (bs n) k w := by
  refine ref03_Disk_find_ok _ _ _ _ ?_
  unfold ref03_Disk_find
  refine r_nn rfl ?_
  try simp only [add_mk, Nat.zero_add, Nat.reduceAdd]
  refine r_ld (x := a.down) h rfl (by first | with_reducible exact M0 | with_reducible exact M1 | with_reducible exact M2 | with_reducible exact M3 | with_reducible exact M4 | with_reducible exact M5 | with_reducible exact M6 | with_reducible exact M7 | with_reducible exact M8 | with_reducible exact M9 | with_reducible exact M10 | with_reducible exact M11 | with_reducible exact M12) ?_ ?_
  · exact rfl
  refine r_ite (fun hc => hd hc) (fun hc => ?_)
  refine ref_At_spec hl h (fun hb => ?_) (fun l1 x l2 he hb => ?_)
  · exact r_ite_t rfl (hno hc hb)
  · refine r_ite_f (by simp) (hyes hc l1 x l2 he hb)

theorem ref_Used_spec {k : Int → K} (hl : fs.length ≤ 1000) (hu : usedL (plainR fs) ≤ 100000000) (hc : CovA L fs) (h : Holds B (blk m (.cells (mA a s) ty_argosyref03_Disk (0, 0)) :: SlC ty_argosyref03_File 3 s (List.flatMap rfF fs) :: stars (List.map poolB L) :: Γ) w) (hk : k (usedL (plainR fs) : Int) w) : ref03_Disk_Used.call (some ⟨m, 0, none⟩) k w := by
  have hn := rf_n h
  refine ref03_Disk_Used_ok _ _ _ ?_
  unfold ref03_Disk_Used
  refine LoopK.of (fun t w1 => ∃ j : Nat, t.2 = (j : Int) ∧ j ≤ fs.length ∧ t.1 = (usedL (plainR (fs.take j)) : Int) ∧ w1 = w) (fun t _ => ((s.n : Int) - t.2).toNat) ⟨0, rfl, by omega, rfl, rfl⟩ ?_
  rintro ⟨t1, t2⟩ w1 ⟨j, h1, hj, h2, rfl⟩
  simp only at h1 h2
  subst h1; subst h2
  unfold ref03_Disk_Used.b1
  refine r_nn rfl ?_
  try simp only [add_mk, Nat.zero_add, Nat.reduceAdd]
  refine r_ld (x := s) h rfl (by first | with_reducible exact M0 | with_reducible exact M1 | with_reducible exact M2 | with_reducible exact M3 | with_reducible exact M4 | with_reducible exact M5 | with_reducible exact M6 | with_reducible exact M7 | with_reducible exact M8 | with_reducible exact M9 | with_reducible exact M10 | with_reducible exact M11 | with_reducible exact M12) ?_ ?_
  · exact rfl
  refine r_ite (fun hlt => ?_) (fun hge => ?_)
  · simp only [decide_eq_true_eq] at hlt
    have hjl : j < fs.length := by omega
    have hx : fs[j]? = some fs[j] := List.getElem?_eq_getElem hjl
    generalize hxe : fs[j] = x at hx
    refine r_ld (x := s) h rfl (by first | with_reducible exact M0 | with_reducible exact M1 | with_reducible exact M2 | with_reducible exact M3 | with_reducible exact M4 | with_reducible exact M5 | with_reducible exact M6 | with_reducible exact M7 | with_reducible exact M8 | with_reducible exact M9 | with_reducible exact M10 | with_reducible exact M11 | with_reducible exact M12) ?_ ?_
    · exact rfl
    refine r_fidx (h.rdC (by first | with_reducible exact M0 | with_reducible exact M1 | with_reducible exact M2 | with_reducible exact M3 | with_reducible exact M4 | with_reducible exact M5 | with_reducible exact M6 | with_reducible exact M7 | with_reducible exact M8 | with_reducible exact M9 | with_reducible exact M10 | with_reducible exact M11 | with_reducible exact M12)) hx fun t h0 h1 h2 h3 => ?_
    refine r_ld_of (x := x.2.s) h1 ?_
    obtain ⟨g1, g2, _⟩ := cov_rd 2 h at2 (hc x (List.mem_of_getElem? hx))
    have h4 : fs = fs.take j ++ x :: fs.drop (j + 1) := by
      rw [← hxe, ← List.drop_eq_getElem_cons hjl, List.take_append_drop]
    have h5 : usedL (plainR (fs.take (j + 1))) = usedL (plainR (fs.take j)) + x.2.f.data.length := by
      rw [List.take_succ_eq_append_getElem hjl, hxe, plainR, List.map_append, usedL_app]
      simp [usedL]
    have h6 : usedL (plainR (fs.take (j + 1))) ≤ usedL (plainR fs) := by
      conv => rhs; rw [← List.take_append_drop (j + 1) fs]
      rw [plainR, plainR, List.map_append, usedL_app]
      omega
    refine r_add64 (by omega) (by omega) ?_
    refine r_add64 (by omega) (by omega) ?_
    exact ⟨⟨j + 1, by simp, by omega, by omega, rfl⟩, by omega⟩
  · simp only [decide_eq_false_iff_not] at hge
    have : j = fs.length := by omega
    subst this
    rw [List.take_length]
    exact hk

theorem ref_Read_spec {k : Sl → Int → K} (hl : fs.length ≤ 1000) (hu : usedL (plainR fs) ≤ 100000000) (hc : CovA L fs) (h : Holds B (blk m (.cells (mA a s) ty_argosyref03_Disk (0, 0)) :: SlC ty_argosyref03_File 3 s (List.flatMap rfF fs) :: stars (List.map poolB L) :: Γ) w)
    (hk : ∀ s' w, Holds B (Bytes ty_uint8 s' ((⟨a, plainR fs⟩ : DiskD).read n).1 :: (blk m (.cells (mA a s) ty_argosyref03_Disk (0, 0)) :: SlC ty_argosyref03_File 3 s (List.flatMap rfF fs) :: stars (List.map poolB L) :: Γ)) w → k s' ((⟨a, plainR fs⟩ : DiskD).read n).2 w) : ref03_Disk_Read.call (some ⟨m, 0, none⟩) (bs n) k w := by
  have hn := rf_n h
  refine ref03_Disk_Read_ok _ _ _ _ ?_
  unfold ref03_Disk_Read
  have hd0 : a.down = true → (⟨a, plainR fs⟩ : DiskD).read n = ([], 3) := fun hd => by unfold DiskD.read; rw [if_pos hd]
  refine ref_find_spec hl h (fun hd => ?_) (fun hd hb => ?_) (fun hd l1 x l2 he hb => ?_)
  · refine r_ite_t rfl ?_
    rw [hd0 hd] at hk
    refine r_new h ?_
    clear h
    intro t16 w h
    try simp only [add_mk, Nat.zero_add, Nat.reduceAdd]
    exact hk _ _ (bytes_new rfl rfl h)
  · refine r_ite_t rfl ?_
    have e : (⟨a, plainR fs⟩ : DiskD).read n = ([], 60) := by
      unfold DiskD.read
      rw [if_neg (by rw [hd]; decide), mget_none hb]
    rw [e] at hk
    refine r_new h ?_
    clear h
    intro t16 w h
    try simp only [add_mk, Nat.zero_add, Nat.reduceAdd]
    exact hk _ _ (bytes_new rfl rfl h)
  · refine r_ite_f rfl ?_
    have e : (⟨a, plainR fs⟩ : DiskD).read n = (x.f.data, 0) := by
      unfold DiskD.read
      rw [if_neg (by rw [hd]; decide), mget_at he hb]
    rw [e] at hk
    have hx : fs[l1.length]? = some (n, x) := by rw [he]; simp
    have hxm : (n, x) ∈ fs := List.mem_of_getElem? hx
    have hxu : x.f.data.length ≤ usedL (plainR fs) := usedL_mem (p := (n, x.f)) (List.mem_map_of_mem (f := fun p : List UInt8 × RF => (p.1, p.2.f)) hxm)
    refine r_new h ?_
    clear h
    intro t18 w h
    try simp only [add_mk, Nat.zero_add, Nat.reduceAdd]
    refine r_nn rfl ?_
    try simp only [add_mk, Nat.zero_add, Nat.reduceAdd]
    refine r_ld (x := s) h rfl (by first | with_reducible exact M0 | with_reducible exact M1 | with_reducible exact M2 | with_reducible exact M3 | with_reducible exact M4 | with_reducible exact M5 | with_reducible exact M6 | with_reducible exact M7 | with_reducible exact M8 | with_reducible exact M9 | with_reducible exact M10 | with_reducible exact M11 | with_reducible exact M12) ?_ ?_
    · exact rfl
    refine r_fidx (h.rdC (by first | with_reducible exact M0 | with_reducible exact M1 | with_reducible exact M2 | with_reducible exact M3 | with_reducible exact M4 | with_reducible exact M5 | with_reducible exact M6 | with_reducible exact M7 | with_reducible exact M8 | with_reducible exact M9 | with_reducible exact M10 | with_reducible exact M11 | with_reducible exact M12)) hx fun t h0 h1 h2 h3 => ?_
    refine r_ld_of (x := x.s) h1 ?_
    obtain ⟨g1, g2, _⟩ := cov_rd 3 h at3 (hc _ hxm)
    have g2' : x.f.data.length = x.s.n := g2
    refine r_append (vs := []) (h.imp (blk_SlC rfl rfl)) (by kernel_rfl) (by kernel_rfl) (by' := 1) (by kernel_rfl) zero_ty_uint8 rfl g1 (byteV_flat _) (by simp only; omega) (by decide) fun e2 w h he2 _ => ?_
    simp only [List.nil_append] at h
    exact hk _ _ h
end
end Go.Proofs.Ytgnkminakongkaa
