/- The document's disk: Limit, Sync, Remove, Rename, Cut, Append. -/
import Derived.Test.YtgnkminakongkaaSRef03b
--! use SRef03
--! short
namespace Go.Proofs.Ytgnkminakongkaa
open Go Go.Sep
set_option linter.unusedSimpArgs false
set_option linter.unusedVariables false
set_option maxRecDepth 100000
def RefR (m : Nat) (M : DiskD) : HProp := ex fun s : Sl => ex fun fs : RFs => ex fun L : PoolL => stars [pur (plainR fs = M.files ∧ CovA L fs), stars (blk m (.cells (mA M.a s) ty_argosyref03_Disk (0, 0)) :: SlC ty_argosyref03_File 3 s (List.flatMap rfF fs) :: stars (List.map poolB L) :: (List.nil : List HProp))]
def putS (n : List UInt8) (f : FileD) : Files → Files
  | [] => [(n, f)]
  | p :: l => if n < p.1 then (n, f) :: p :: l else p :: putS n f l
theorem putS_plain (n : List UInt8) (y : RF) : ∀ fs : RFs, plainR (putR (n, y) fs) = putS n y.f (plainR fs)
  | [] => rfl
  | p :: fs => by
    have ih := putS_plain n y fs
    show plainR (if n < p.1 then (n, y) :: p :: fs else p :: putR (n, y) fs) = if n < p.1 then (n, y.f) :: (p.1, p.2.f) :: plainR fs else (p.1, p.2.f) :: putS n y.f (plainR fs)
    split
    · rfl
    · rw [← ih]; rfl
def DiskD.renameS (D : DiskD) (n m : List UInt8) : DiskD × Int := if D.a.down = true then (D, 3) else match mget n D.files with
  | none => (D, 60)
  | some f => if named m = false then (D, 1) else (⟨(chg D.a).1, if (chg D.a).2 = 0 then putS m f (mdel m (mdel n D.files)) else D.files⟩, (chg D.a).2)
def DiskD.openS (D : DiskD) (n : List UInt8) : Files := if mget n D.files = none then putS n ⟨[], 0⟩ D.files else D.files
def DiskD.appendS (D : DiskD) (n : List UInt8) (x : List UInt8) : DiskD × Int := if D.a.down = true then (D, 3) else if named n = false then (D, 1)
  else if (mget n D.files = none ∧ 32 ≤ D.files.length) ∨ D.a.room - usedL D.files < x.length then (D, 2)
  else (⟨(chg D.a).1, mset n ⟨((mget n D.files).getD ⟨[], 0⟩).data ++ x, ((mget n D.files).getD ⟨[], 0⟩).last⟩ (D.openS n)⟩, (chg D.a).2)

section
variable {B w : World} {Γ : List HProp} {m : Nat} {a : DkA} {s : Sl} {fs : RFs} {L : PoolL} {n : List UInt8} {M : DiskD}
theorem chg_3 {a : DkA} (h : (chg a).2 ≠ 0) : (chg a).2 = 3 := by
  unfold chg at *
  split
  · rfl
  · rename_i h1
    rw [if_neg h1] at h
    split at h <;> exact absurd rfl h
theorem RefR.opens (h : Holds B (RefR m M :: Γ) w) : ∃ s fs L, plainR fs = M.files ∧ CovA L fs ∧ Holds B (blk m (.cells (mA M.a s) ty_argosyref03_Disk (0, 0)) :: SlC ty_argosyref03_File 3 s (List.flatMap rfF fs) :: stars (List.map poolB L) :: Γ) w := by
  obtain ⟨s, h⟩ := Holds.ex.1 h
  obtain ⟨fs, h⟩ := Holds.ex.1 h
  obtain ⟨L, h⟩ := Holds.ex.1 h
  have h1 := Holds.flat.1 h
  obtain ⟨⟨h2, h3⟩, h4⟩ := Holds.pur.1 h1
  exact ⟨s, fs, L, h2, h3, Holds.flat.1 h4⟩
theorem RefR.shuts (ha : a = M.a) (hp : plainR fs = M.files) (hc : CovA L fs) (h : Holds B (blk m (.cells (mA a s) ty_argosyref03_Disk (0, 0)) :: SlC ty_argosyref03_File 3 s (List.flatMap rfF fs) :: stars (List.map poolB L) :: Γ) w) : Holds B (RefR m M :: Γ) w := by
  subst ha
  exact Holds.ex.2 ⟨s, Holds.ex.2 ⟨fs, Holds.ex.2 ⟨L, Holds.flat.2 (Holds.pur.2 ⟨⟨hp, hc⟩, Holds.flat.2 h⟩)⟩⟩⟩

theorem mset_at {x : RF} {l1 l2 : RFs} (hb : ∀ p ∈ l1, p.1 ≠ n) (f' : FileD) (s' : Sl) : mset n f' (plainR (l1 ++ (n, x) :: l2)) = plainR (l1 ++ (n, (⟨f', s'⟩ : RF)) :: l2) := by
  induction l1 with
  | nil => exact if_pos rfl
  | cons p l1 ih =>
    show (if n = p.1 then _ else _) = _
    rw [if_neg (fun e => hb p List.mem_cons_self e.symm)]
    exact congrArg ((p.1, p.2.f) :: ·) (ih fun q hq => hb q (List.mem_cons_of_mem _ hq))
theorem filter_mdel : ∀ {fs : RFs}, ((plainR fs).map Prod.fst).Nodup → plainR (fs.filter (notN n)) = mdel n (plainR fs)
  | [], _ => rfl
  | p :: fs, hnd => by
    have hnd2 : (p.1 :: (plainR fs).map Prod.fst).Nodup := hnd
    obtain ⟨h1, h2⟩ := List.nodup_cons.1 hnd2
    by_cases hp : p.1 = n
    · have e1 : (p :: fs).filter (notN n) = fs.filter (notN n) := List.filter_cons_of_neg (by simp [notN, hp])
      have e2 : fs.filter (notN n) = fs := List.filter_eq_self.2 fun q hq => by
        have : q.1 ≠ n := fun e => h1 (by
          rw [hp, ← e]
          exact List.mem_map.2 ⟨(q.1, q.2.f), List.mem_map_of_mem (f := fun p : List UInt8 × RF => (p.1, p.2.f)) hq, rfl⟩)
        simp [notN, this]
      rw [e1, e2]
      exact (if_pos hp.symm).symm
    · have e1 : (p :: fs).filter (notN n) = p :: fs.filter (notN n) := List.filter_cons_of_pos (by simp [notN, hp])
      rw [e1]
      have ih := filter_mdel h2
      show (p.1, p.2.f) :: plainR (fs.filter (notN n)) = if n = p.1 then _ else _
      rw [if_neg (fun e => hp e.symm), ih]
theorem mdel_nodup : ∀ {fs : Files}, (fs.map Prod.fst).Nodup → ((mdel n fs).map Prod.fst).Nodup
  | [], h => h
  | p :: fs, h => by
    have h2 : (p.1 :: fs.map Prod.fst).Nodup := h
    obtain ⟨h3, h4⟩ := List.nodup_cons.1 h2
    unfold mdel
    split
    · exact h4
    · refine List.nodup_cons.2 ⟨fun hm => ?_, mdel_nodup h4⟩
      obtain ⟨q, hq, e⟩ := List.mem_map.1 hm
      refine h3 (List.mem_map.2 ⟨q, ?_, e⟩)
      clear h h2 h3 h4 hm e
      induction fs with
      | nil => exact hq
      | cons r fs ih =>
        unfold mdel at hq
        split at hq
        · exact List.mem_cons_of_mem _ hq
        · rcases List.mem_cons.1 hq with rfl | hq
          · exact List.mem_cons_self
          · exact List.mem_cons_of_mem _ (ih hq)
theorem covA_filter (P : List UInt8 × RF → Bool) (hc : CovA L fs) : CovA L (fs.filter P) := fun p hp => hc p (List.mem_filter.1 hp).1
theorem putR_mem {y p : List UInt8 × RF} : ∀ {fs : RFs}, p ∈ putR y fs → p = y ∨ p ∈ fs
  | [], h => by simpa [putR] using h
  | q :: fs, h => by
    unfold putR at h
    split at h
    · rcases List.mem_cons.1 h with h | h
      · exact .inl h
      · exact .inr h
    · rcases List.mem_cons.1 h with h | h
      · exact .inr (h ▸ List.mem_cons_self)
      · rcases putR_mem h with h | h
        · exact .inl h
        · exact .inr (List.mem_cons_of_mem _ h)
theorem covA_put {y : List UInt8 × RF} (hc : CovA L fs) (hy : Cov L y.2.s y.2.f.data) : CovA L (putR y fs) := fun p hp => by
  rcases putR_mem hp with rfl | hp
  · exact hy
  · exact hc p hp
theorem covA_set {x x' : RF} {l1 l2 : RFs} {L' : PoolL} (hc : CovA L (l1 ++ (n, x) :: l2)) (hg : ∀ s x, Cov L s x → Cov L' s x) (hy : Cov L' x'.s x'.f.data) : CovA L' (l1 ++ (n, x') :: l2) := fun p hp => by
  rcases List.mem_append.1 hp with hp | hp
  · exact hg _ _ (hc p (List.mem_append_left _ hp))
  · rcases List.mem_cons.1 hp with rfl | hp
    · exact hy
    · exact hg _ _ (hc p (List.mem_append_right _ (List.mem_cons_of_mem _ hp)))

theorem r_fset {x x' : RF} {l1 l2 : RFs} {o : Nat} {v : Value} {k : K} (h : Holds B (SlC ty_argosyref03_File 3 s ((l1 ++ (n, x) :: l2).flatMap rfF) :: Γ) w) (ho : o < 3) (hx : (rfF (n, x)).set o v = rfF (n, x')) (hv : flatV v = true)
    (hk : ∀ w, Holds B (SlC ty_argosyref03_File 3 s ((l1 ++ (n, x') :: l2).flatMap rfF) :: Γ) w → k w) : Idx s (l1.length : Int) 3 (fun t => St (t.add o) v k) w := by
  have hs := h.slCap
  have hn : (l1 ++ (n, x) :: l2).length = s.n := by
    have := hs.1
    rw [flatMap_len rfF 3 rfF_len] at this
    omega
  simp only [List.length_append, List.length_cons] at hn
  cases ha : s.a with
  | none => have := hs.2.2.2 ha; omega
  | some b =>
    refine ⟨b, _, ha, by omega, by omega, rfl, ?_⟩
    simp only [Int.toNat_natCast]
    rw [add_add2]
    refine r_stSl h ha (by rw [flatMap_len rfF 3 rfF_len, List.length_append, List.length_cons]; omega) hv fun w h => hk w ?_
    have e : ((l1 ++ (n, x) :: l2).flatMap rfF).set (l1.length * 3 + o) v = (l1 ++ (n, x') :: l2).flatMap rfF := by
      rw [List.flatMap_append, List.flatMap_append, List.flatMap_cons, List.flatMap_cons]
      have e1 : (l1.flatMap rfF).length = l1.length * 3 := flatMap_len rfF 3 rfF_len l1
      rw [List.set_append_right _ _ (by omega), e1, show l1.length * 3 + o - l1.length * 3 = o by omega, List.set_append_left _ _ (by simpa using ho), hx]
    rw [e] at h
    exact h
theorem pool_push {t : Sl} {x : List UInt8} (h : Holds B (Bytes ty_uint8 t x :: (blk m (.cells (mA a s) ty_argosyref03_Disk (0, 0)) :: SlC ty_argosyref03_File 3 s (List.flatMap rfF fs) :: stars (List.map poolB L) :: Γ)) w) : Holds B (blk m (.cells (mA a s) ty_argosyref03_Disk (0, 0)) :: SlC ty_argosyref03_File 3 s (List.flatMap rfF fs) :: stars (List.map poolB ((t, x) :: L)) :: Γ) w := by
  replace h := P2 h
  replace h := P2 h
  replace h := P3 h
  replace h := P3 h
  try simp only [N1, N2, N3, N4, N5, N6, N7] at h
  have h1 : Holds B (stars (poolB (t, x) :: L.map poolB) :: _) w := stars_cons.2 h
  replace h := h1
  clear h1
  replace h := P2 h
  replace h := P2 h
  try simp only [N1, N2, N3, N4, N5, N6, N7] at h
  exact h

theorem ref_Sync_spec {k : Int → K} (hM : OkD M) (h : Holds B (RefR m M :: Γ) w) (hk : ∀ w, Holds B (RefR m (M.sync n).1 :: Γ) w → k (M.sync n).2 w) : ref03_Disk_Sync.call (some ⟨m, 0, none⟩) (bs n) k w := by
  obtain ⟨s, fs, L, hp, hc, h⟩ := RefR.opens h
  have hfl : fs.length = M.files.length := by rw [← hp]; simp
  have hfew := hM.few
  have hu := hM.used
  have hro := hM.roomN
  refine ref03_Disk_Sync_ok _ _ _ _ ?_
  unfold ref03_Disk_Sync
  refine ref_find_spec (by omega) h (fun hd => ?_) (fun hd hb => ?_) (fun hd l1 x l2 he hb => ?_)
  · refine r_ite_t rfl ?_
    have e : M.sync n = (M, 3) := by unfold DiskD.sync; rw [if_pos hd]
    rw [e] at hk
    exact hk _ (RefR.shuts rfl hp hc h)
  · refine r_ite_t rfl ?_
    have e : M.sync n = (M, 60) := by
      unfold DiskD.sync
      rw [if_neg (by rw [hd]; decide), ← hp, mget_none hb]
    rw [e] at hk
    exact hk _ (RefR.shuts rfl hp hc h)
  · refine r_ite_f rfl ?_
    have e : M.sync n = (⟨(chg M.a).1, if (chg M.a).2 = 0 then mset n ⟨x.f.data, x.f.data.length⟩ M.files else M.files⟩, (chg M.a).2) := by
      unfold DiskD.sync
      rw [if_neg (by rw [hd]; decide), ← hp, mget_at he hb]
    rw [e] at hk
    refine ref_use_spec hM.left h fun w h => ?_
    refine r_ite (fun hz => ?_) (fun hz => ?_)
    · have hz' : (chg M.a).2 ≠ 0 := by simpa using hz
      rw [if_neg hz', chg_3 hz'] at hk
      exact hk _ (RefR.shuts rfl hp hc h)
    · have hz' : (chg M.a).2 = 0 := by simpa using hz
      rw [if_pos hz', hz'] at hk
      subst he
      have hx : (l1 ++ (n, x) :: l2)[l1.length]? = some (n, x) := by simp
      obtain ⟨g1, g2, _⟩ := cov_rd 2 h at2 (hc _ (List.mem_of_getElem? hx))
      have g2' : x.f.data.length = x.s.n := g2
      refine r_dr h ?_
      clear h
      intro w h
      refine r_nn rfl ?_
      try simp only [add_mk, Nat.zero_add, Nat.reduceAdd]
      refine r_ld (x := s) h rfl (by first | with_reducible exact M0 | with_reducible exact M1 | with_reducible exact M2 | with_reducible exact M3 | with_reducible exact M4 | with_reducible exact M5 | with_reducible exact M6 | with_reducible exact M7 | with_reducible exact M8 | with_reducible exact M9 | with_reducible exact M10 | with_reducible exact M11 | with_reducible exact M12) ?_ ?_
      · exact rfl
      refine r_ld (x := s) h rfl (by first | with_reducible exact M0 | with_reducible exact M1 | with_reducible exact M2 | with_reducible exact M3 | with_reducible exact M4 | with_reducible exact M5 | with_reducible exact M6 | with_reducible exact M7 | with_reducible exact M8 | with_reducible exact M9 | with_reducible exact M10 | with_reducible exact M11 | with_reducible exact M12) ?_ ?_
      · exact rfl
      refine r_fidx (h.rdC (by first | with_reducible exact M0 | with_reducible exact M1 | with_reducible exact M2 | with_reducible exact M3 | with_reducible exact M4 | with_reducible exact M5 | with_reducible exact M6 | with_reducible exact M7 | with_reducible exact M8 | with_reducible exact M9 | with_reducible exact M10 | with_reducible exact M11 | with_reducible exact M12)) hx fun t h0 h1 h2 h3 => ?_
      refine r_ld_of (x := x.s) h1 ?_
      replace h := P2 h
      replace h := P1 h
      replace h := P2 h
      try simp only [N1, N2, N3, N4, N5, N6, N7] at h
      refine r_fset (x' := ⟨⟨x.f.data, x.f.data.length⟩, x.s⟩) h (by decide) (by show [strV n, x.s.val, Value.int .i64 (x.s.n : Int)] = _; rw [← g2']) rfl fun w h => ?_
      replace h := P2 h
      replace h := P1 h
      replace h := P2 h
      try simp only [N1, N2, N3, N4, N5, N6, N7] at h
      refine hk _ (RefR.shuts rfl ?_ ?_ h)
      · show _ = mset n _ M.files
        rw [← hp, mset_at hb]
      · exact covA_set hc (fun _ _ h => h) (hc _ (List.mem_of_getElem? hx))

theorem ref_Remove_spec {k : Int → K} (hM : OkD M) (h : Holds B (RefR m M :: Γ) w) (hk : ∀ w, Holds B (RefR m (M.remove n).1 :: Γ) w → k (M.remove n).2 w) : ref03_Disk_Remove.call (some ⟨m, 0, none⟩) (bs n) k w := by
  obtain ⟨s, fs, L, hp, hc, h⟩ := RefR.opens h
  have hfl : fs.length = M.files.length := by rw [← hp]; simp
  have hfew := hM.few
  refine ref03_Disk_Remove_ok _ _ _ _ ?_
  unfold ref03_Disk_Remove
  refine ref_find_spec (by omega) h (fun hd => ?_) (fun hd hb => ?_) (fun hd l1 x l2 he hb => ?_)
  · refine r_ite_t rfl ?_
    have e : M.remove n = (M, 3) := by unfold DiskD.remove; rw [if_pos hd]
    rw [e] at hk
    exact hk _ (RefR.shuts rfl hp hc h)
  · refine r_ite_t rfl ?_
    have e : M.remove n = (M, 60) := by
      unfold DiskD.remove
      rw [if_neg (by rw [hd]; decide), ← hp, mget_none hb]
    rw [e] at hk
    exact hk _ (RefR.shuts rfl hp hc h)
  · refine r_ite_f rfl ?_
    have e : M.remove n = (⟨(chg M.a).1, if (chg M.a).2 = 0 then mdel n M.files else M.files⟩, (chg M.a).2) := by
      unfold DiskD.remove
      rw [if_neg (by rw [hd]; decide), ← hp, mget_at he hb]
    rw [e] at hk
    refine ref_use_spec hM.left h fun w h => ?_
    refine r_ite (fun hz => ?_) (fun hz => ?_)
    · have hz' : (chg M.a).2 ≠ 0 := by simpa using hz
      rw [if_neg hz', chg_3 hz'] at hk
      exact hk _ (RefR.shuts rfl hp hc h)
    · have hz' : (chg M.a).2 = 0 := by simpa using hz
      rw [if_pos hz', hz'] at hk
      refine ref_drop_spec (by omega) h fun s' w h => ?_
      refine hk _ (RefR.shuts rfl ?_ (covA_filter _ hc) h)
      show _ = mdel n M.files
      rw [← hp]
      exact filter_mdel (by rw [hp]; exact hM.nodup)

theorem ref_Rename_spec {k : Int → K} {n' : List UInt8} (hM : OkD M) (h : Holds B (RefR m M :: Γ) w) (hk : ∀ w, Holds B (RefR m (M.renameS n n').1 :: Γ) w → k (M.renameS n n').2 w) : ref03_Disk_Rename.call (some ⟨m, 0, none⟩) (bs n) (bs n') k w := by
  obtain ⟨s, fs, L, hp, hc, h⟩ := RefR.opens h
  have hfl : fs.length = M.files.length := by rw [← hp]; simp
  have hfew := hM.few
  refine ref03_Disk_Rename_ok _ _ _ _ _ ?_
  unfold ref03_Disk_Rename
  refine ref_find_spec (by omega) h (fun hd => ?_) (fun hd hb => ?_) (fun hd l1 x l2 he hb => ?_)
  · refine r_ite_t rfl ?_
    have e : M.renameS n n' = (M, 3) := by unfold DiskD.renameS; rw [if_pos hd]
    rw [e] at hk
    exact hk _ (RefR.shuts rfl hp hc h)
  · refine r_ite_t rfl ?_
    have e : M.renameS n n' = (M, 60) := by
      unfold DiskD.renameS
      rw [if_neg (by rw [hd]; decide), ← hp, mget_none hb]
    rw [e] at hk
    exact hk _ (RefR.shuts rfl hp hc h)
  · refine r_ite_f rfl ?_
    have e : M.renameS n n' = if named n' = false then (M, 1) else (⟨(chg M.a).1, if (chg M.a).2 = 0 then putS n' x.f (mdel n' (mdel n M.files)) else M.files⟩, (chg M.a).2) := by
      unfold DiskD.renameS
      rw [if_neg (by rw [hd]; decide), ← hp, mget_at he hb]
    rw [e] at hk
    have s1 : ∀ t, t = (!named n') → ref03_Disk_Rename.s1 k (some ⟨m, 0, none⟩) (bs n) (bs n') (l1.length : Int) t w := by
      rintro t rfl
      unfold ref03_Disk_Rename.s1
      refine r_ite (fun ht => ?_) (fun ht => ?_)
      · rw [if_pos (by simpa using ht)] at hk
        exact hk _ (RefR.shuts rfl hp hc h)
      · rw [if_neg (by simp at ht; simp [ht])] at hk
        refine ref_use_spec hM.left h fun w h => ?_
        refine r_ite (fun hz => ?_) (fun hz => ?_)
        · have hz' : (chg M.a).2 ≠ 0 := by simpa using hz
          rw [if_neg hz', chg_3 hz'] at hk
          exact hk _ (RefR.shuts rfl hp hc h)
        · have hz' : (chg M.a).2 = 0 := by simpa using hz
          rw [if_pos hz', hz'] at hk
          have hx : fs[l1.length]? = some (n, x) := by rw [he]; simp
          refine r_nn rfl ?_
          try simp only [add_mk, Nat.zero_add, Nat.reduceAdd]
          refine r_ld (x := s) h rfl (by first | with_reducible exact M0 | with_reducible exact M1 | with_reducible exact M2 | with_reducible exact M3 | with_reducible exact M4 | with_reducible exact M5 | with_reducible exact M6 | with_reducible exact M7 | with_reducible exact M8 | with_reducible exact M9 | with_reducible exact M10 | with_reducible exact M11 | with_reducible exact M12) ?_ ?_
          · exact rfl
          refine r_fidx (h.rdC (by first | with_reducible exact M0 | with_reducible exact M1 | with_reducible exact M2 | with_reducible exact M3 | with_reducible exact M4 | with_reducible exact M5 | with_reducible exact M6 | with_reducible exact M7 | with_reducible exact M8 | with_reducible exact M9 | with_reducible exact M10 | with_reducible exact M11 | with_reducible exact M12)) hx fun t h0 h1 h2 h3 => ?_
          refine r_ldN_of (cs := rfA (n, x)) rfl h3 ?_
          refine r_new h ?_
          clear h
          intro f9 w h
          try simp only [add_mk, Nat.zero_add, Nat.reduceAdd]
          first | refine T0 h rfl ?_ ?_ ?_ ?_ | refine T1 h rfl ?_ ?_ ?_ ?_ | refine T2 h rfl ?_ ?_ ?_ ?_ | refine T3 h rfl ?_ ?_ ?_ ?_ | refine T4 h rfl ?_ ?_ ?_ ?_ | refine T5 h rfl ?_ ?_ ?_ ?_ | refine T6 h rfl ?_ ?_ ?_ ?_ | refine T7 h rfl ?_ ?_ ?_ ?_ | refine T8 h rfl ?_ ?_ ?_ ?_
          · rfl
          · rfl
          · simp [flatV]
          clear h
          intro w h
          try simp only [N1, N2, N3, N4, N5, N6, N7] at h
          replace h := P3 h
          replace h := P3 h
          replace h := P3 h
          try simp only [N1, N2, N3, N4, N5, N6, N7] at h
          refine ref_drop_spec (by omega) h fun s1 w h => ?_
          have hl1 := List.length_filter_le (notN n) fs
          refine ref_drop_spec (by omega) h fun s2 w h => ?_
          have hl2 := List.length_filter_le (notN n') (fs.filter (notN n))
          first | refine S0 h rfl ?_ rfl ?_ | refine S1 h rfl ?_ rfl ?_ | refine S2 h rfl ?_ rfl ?_ | refine S3 h rfl ?_ rfl ?_ | refine S4 h rfl ?_ rfl ?_ | refine S5 h rfl ?_ rfl ?_ | refine S6 h rfl ?_ rfl ?_ | refine S7 h rfl ?_ rfl ?_ | refine S8 h rfl ?_ rfl ?_
          · first | exact Nat.lt_of_ble_eq_true rfl | (simp; done) | (simp; omega)
          clear h
          intro w h
          try simp only [N1, N2, N3, N4, N5, N6, N7] at h
          refine r_ldN_of (cs := rfA (n', x)) rfl (rdN_block (h.blockOf (by first | with_reducible exact M0 | with_reducible exact M1 | with_reducible exact M2 | with_reducible exact M3 | with_reducible exact M4 | with_reducible exact M5 | with_reducible exact M6 | with_reducible exact M7 | with_reducible exact M8 | with_reducible exact M9 | with_reducible exact M10 | with_reducible exact M11 | with_reducible exact M12)) (by
            intro i hi
            match i, hi with
            | 0, _ => rfl
            | 1, _ => rfl
            | 2, _ => rfl)) ?_
          refine ref_put_spec (by omega) h fun s3 w h => ?_
          replace h := P2 h
          replace h := P2 h
          replace h := P2 h
          replace h := D3 h
          try simp only [N1, N2, N3, N4, N5, N6, N7] at h
          refine hk _ (RefR.shuts rfl ?_ (covA_put (y := (n', x)) (covA_filter _ (covA_filter _ hc)) (hc (n, x) (List.mem_of_getElem? hx))) h)
          show _ = putS n' x.f (mdel n' (mdel n M.files))
          rw [putS_plain]
          have hnd : ((plainR fs).map Prod.fst).Nodup := by rw [hp]; exact hM.nodup
          have e3 := filter_mdel (n := n) hnd
          rw [filter_mdel (by rw [e3]; exact mdel_nodup hnd), e3, hp]
    have hsz := bs_size n'
    refine r_ite (fun hq => ?_) (fun hq => ?_)
    · simp only [decide_eq_true_eq] at hq
      refine s1 _ ?_
      have : n' = [] := List.length_eq_zero_iff.1 (by omega)
      unfold named
      simp [this]
    · simp only [decide_eq_false_iff_not] at hq
      refine s1 _ ?_
      have : n' ≠ [] := by
        intro e
        have : n'.length = 0 := by rw [e]; rfl
        omega
      unfold named
      rw [hsz]
      by_cases h16 : n'.length ≤ 16
      · simp [this, h16]; omega
      · simp [this, h16]; omega
end
end Go.Proofs.Ytgnkminakongkaa
