/- The disk and the document's disk: how their files stand to each other (no program). -/
import Derived.Test.YtgnkminakongkaaSRef03e
namespace Go.Proofs.Ytgnkminakongkaa
open Go Go.Sep
set_option linter.unusedSimpArgs false
set_option linter.unusedVariables false
set_option maxRecDepth 100000
structure RelD (D M : DiskD) : Prop where
  a : M.a = D.a
  perm : M.files.Perm D.files
  sort : (M.files.map Prod.fst).Pairwise (· < ·)

theorem usedL_perm {a b : Files} (h : a.Perm b) : usedL a = usedL b := by
  induction h with
  | nil => rfl
  | cons x _ ih => simp only [usedL]; omega
  | swap x y l => simp only [usedL]; omega
  | trans _ _ h1 h2 => exact h1.trans h2
section
variable {D M : DiskD} {n : List UInt8}
theorem RelD.ok (h : RelD D M) (hD : OkD D) : OkD M where
  room1 := by rw [h.a]; exact hD.room1
  roomN := by rw [h.a]; exact hD.roomN
  used := by rw [h.a, usedL_perm h.perm]; exact hD.used
  few := by rw [h.perm.length_eq]; exact hD.few
  left := by rw [h.a]; exact hD.left
  last := fun p hp => hD.last p (h.perm.mem_iff.1 hp)
  nodup := (h.perm.map Prod.fst).nodup_iff.2 hD.nodup
theorem RelD.get (h : RelD D M) (hD : OkD D) (n : List UInt8) : mget n M.files = mget n D.files := by
  have hM := h.ok hD
  cases hm : mget n D.files with
  | some f => exact mget_of_mem hM.nodup (h.perm.mem_iff.2 (mget_mem hm))
  | none =>
    cases hm2 : mget n M.files with
    | none => rfl
    | some f => exact absurd rfl (mget_none_mem hm _ (h.perm.mem_iff.1 (mget_mem hm2)))
theorem keys_mset {fs : Files} {f g : FileD} (hm : mget n fs = some f) : (mset n g fs).map Prod.fst = fs.map Prod.fst := by
  obtain ⟨l1, l2, h1, h2, _⟩ := mget_split hm
  rw [h2, h1]
  simp
theorem RelD.set (h : RelD D M) (hD : OkD D) {f g : FileD} {a : DkA} (hm : mget n D.files = some f) : RelD ⟨a, mset n g D.files⟩ ⟨a, mset n g M.files⟩ := by
  have hm2 : mget n M.files = some f := by rw [h.get hD, hm]
  refine ⟨rfl, ?_, ?_⟩
  · obtain ⟨l1, l2, h1, h2, _⟩ := mget_split hm
    obtain ⟨r1, r2, g1, g2, _⟩ := mget_split hm2
    show (mset n g M.files).Perm (mset n g D.files)
    rw [h2, g2]
    have hp := h.perm
    rw [h1, g1] at hp
    have := (List.perm_middle.symm.trans hp).trans List.perm_middle
    exact (List.perm_middle.trans ((List.perm_cons _).2 ((List.perm_cons _).1 this))).trans List.perm_middle.symm
  · show ((mset n g M.files).map Prod.fst).Pairwise _
    rw [keys_mset hm2]
    exact h.sort
theorem mdel_perm {A C : Files} (hp : A.Perm C) (hA : (A.map Prod.fst).Nodup) (hC : (C.map Prod.fst).Nodup) : (mdel n A).Perm (mdel n C) := by
  cases hm : mget n C with
  | none =>
    have hm2 : mget n A = none := by
      cases hm2 : mget n A with
      | none => rfl
      | some f => exact absurd rfl (mget_none_mem hm _ (hp.mem_iff.1 (mget_mem hm2)))
    have e1 : mdel n C = C := by
      rcases mfind n C with ⟨_, _, h, _⟩ | ⟨j, x, _, _, _, h2, _⟩
      · exact h
      · rw [h2] at hm; cases hm
    have e2 : mdel n A = A := by
      rcases mfind n A with ⟨_, _, h, _⟩ | ⟨j, x, _, _, _, h2, _⟩
      · exact h
      · rw [h2] at hm2; cases hm2
    rw [e1, e2]; exact hp
  | some f =>
    have hm2 : mget n A = some f := mget_of_mem hA (hp.mem_iff.2 (mget_mem hm))
    obtain ⟨l1, l2, h1, _, h3, _⟩ := mget_split hm
    obtain ⟨r1, r2, g1, _, g3, _⟩ := mget_split hm2
    rw [h3, g3]
    rw [h1, g1] at hp
    exact (List.perm_cons _).1 ((List.perm_middle.symm.trans hp).trans List.perm_middle)
theorem mdel_sub : ∀ fs : Files, (mdel n fs).Sublist fs
  | [] => List.Sublist.refl _
  | p :: fs => by
    unfold mdel
    split
    · exact List.sublist_cons_self _ _
    · exact (mdel_sub fs).cons_cons _
theorem mdel_not : ∀ {fs : Files}, (fs.map Prod.fst).Nodup → ∀ p ∈ mdel n fs, p.1 ≠ n
  | [], _, p, hp => by cases hp
  | q :: fs, h, p, hp => by
    have h2 : (q.1 :: fs.map Prod.fst).Nodup := h
    obtain ⟨h3, h4⟩ := List.nodup_cons.1 h2
    unfold mdel at hp
    split at hp
    · rename_i e
      intro e2
      exact h3 (by rw [← e, ← e2]; exact List.mem_map_of_mem hp)
    · rename_i e
      rcases List.mem_cons.1 hp with rfl | hp
      · exact fun e2 => e e2.symm
      · exact mdel_not h4 p hp
theorem putS_perm {f : FileD} : ∀ fs : Files, (putS n f fs).Perm ((n, f) :: fs)
  | [] => List.Perm.refl _
  | p :: fs => by
    unfold putS
    split
    · exact List.Perm.refl _
    · exact ((List.perm_cons p).2 (putS_perm fs)).trans (List.Perm.swap _ _ _)
theorem putS_sort {f : FileD} : ∀ {fs : Files}, (fs.map Prod.fst).Pairwise (· < ·) → (∀ p ∈ fs, p.1 ≠ n) → ((putS n f fs).map Prod.fst).Pairwise (· < ·)
  | [], _, _ => List.pairwise_singleton _ _
  | p :: fs, h, hn => by
    have h2 : (p.1 :: fs.map Prod.fst).Pairwise (· < ·) := h
    obtain ⟨h3, h4⟩ := List.pairwise_cons.1 h2
    unfold putS
    split
    · rename_i hlt
      refine List.pairwise_cons.2 ⟨fun x hx => ?_, h⟩
      rcases List.mem_cons.1 (show x ∈ p.1 :: fs.map Prod.fst from hx) with rfl | hx
      · exact hlt
      · exact List.lt_trans hlt (h3 x hx)
    · rename_i hlt
      have ih := putS_sort h4 (f := f) fun q hq => hn q (List.mem_cons_of_mem _ hq)
      refine List.pairwise_cons.2 ⟨fun x hx => ?_, ih⟩
      have hx' := (((putS_perm (n := n) (f := f) fs).map Prod.fst).mem_iff).1 hx
      rcases List.mem_cons.1 (show x ∈ n :: fs.map Prod.fst from hx') with rfl | hx'
      · have h5 : p.1 ≤ x := by rw [← List.not_lt]; exact hlt
        rcases List.le_iff_lt_or_eq.1 h5 with h6 | h6
        · exact h6
        · exact absurd h6 (hn p List.mem_cons_self)
      · exact h3 x hx'
theorem mset_perm {f : FileD} (fs : Files) : (mset n f fs).Perm ((n, f) :: mdel n fs) := by
  cases hm : mget n fs with
  | none =>
    have e1 : mdel n fs = fs := by
      rcases mfind n fs with ⟨_, _, h, _⟩ | ⟨j, x, _, _, _, h2, _⟩
      · exact h
      · rw [h2] at hm; cases hm
    rw [mset_none hm, e1]
    exact List.perm_append_comm
  | some g =>
    obtain ⟨l1, l2, h1, h2, h3, _⟩ := mget_split hm
    rw [h2, h3]
    exact List.perm_middle
theorem mset_putS {e g : FileD} : ∀ {fs : Files}, (∀ p ∈ fs, p.1 ≠ n) → mset n g (putS n e fs) = putS n g fs
  | [], _ => if_pos rfl
  | p :: fs, hn => by
    unfold putS
    split
    · exact if_pos rfl
    · have : n ≠ p.1 := fun e => hn p List.mem_cons_self e.symm
      show (if n = p.1 then _ else _) = _
      rw [if_neg this, mset_putS fun q hq => hn q (List.mem_cons_of_mem _ hq)]

theorem RelD.chg (h : RelD D M) : RelD ⟨(chg D.a).1, D.files⟩ ⟨(chg M.a).1, M.files⟩ := ⟨by rw [h.a], h.perm, h.sort⟩
theorem RelD.del (h : RelD D M) (hD : OkD D) {a : DkA} : RelD ⟨a, mdel n D.files⟩ ⟨a, mdel n M.files⟩ :=
  ⟨rfl, mdel_perm h.perm (h.ok hD).nodup hD.nodup, h.sort.sublist ((mdel_sub M.files).map _)⟩

theorem rel_read (h : RelD D M) (hD : OkD D) : M.read n = D.read n := by
  unfold DiskD.read
  rw [h.get hD, h.a]
theorem rel_sync (h : RelD D M) (hD : OkD D) : RelD (D.sync n).1 (M.sync n).1 ∧ (M.sync n).2 = (D.sync n).2 := by
  unfold DiskD.sync
  rw [h.get hD, h.a]
  split
  · exact ⟨h, rfl⟩
  cases hm : mget n D.files with
  | none => exact ⟨h, rfl⟩
  | some f =>
    simp only
    split
    · exact ⟨h.set hD hm, by first | rfl | trivial⟩
    · exact ⟨⟨rfl, h.perm, h.sort⟩, by first | rfl | trivial⟩
theorem rel_remove (h : RelD D M) (hD : OkD D) : RelD (D.remove n).1 (M.remove n).1 ∧ (M.remove n).2 = (D.remove n).2 := by
  unfold DiskD.remove
  rw [h.get hD, h.a]
  split
  · exact ⟨h, rfl⟩
  cases hm : mget n D.files with
  | none => exact ⟨h, rfl⟩
  | some f =>
    simp only
    split
    · exact ⟨h.del hD, by first | rfl | trivial⟩
    · exact ⟨⟨rfl, h.perm, h.sort⟩, by first | rfl | trivial⟩
theorem rel_cut {c : Int} (h : RelD D M) (hD : OkD D) : RelD (D.cut n c).1 (M.cut n c).1 ∧ (M.cut n c).2 = (D.cut n c).2 := by
  unfold DiskD.cut
  rw [h.get hD, h.a]
  split
  · exact ⟨h, rfl⟩
  cases hm : mget n D.files with
  | none => exact ⟨h, rfl⟩
  | some f =>
    simp only
    split
    · exact ⟨h, rfl⟩
    · simp only
      split
      · exact ⟨h.set hD hm, by first | rfl | trivial⟩
      · exact ⟨⟨rfl, h.perm, h.sort⟩, by first | rfl | trivial⟩
theorem rel_rename {n' : List UInt8} (h : RelD D M) (hD : OkD D) : RelD (D.rename n n').1 (M.renameS n n').1 ∧ (M.renameS n n').2 = (D.rename n n').2 := by
  unfold DiskD.rename DiskD.renameS
  rw [h.get hD, h.a]
  split
  · exact ⟨h, rfl⟩
  cases hm : mget n D.files with
  | none => exact ⟨h, rfl⟩
  | some f =>
    simp only
    split
    · exact ⟨h, rfl⟩
    · simp only
      split
      · refine ⟨⟨rfl, ?_, ?_⟩, by first | rfl | trivial⟩
        · show (putS n' f (mdel n' (mdel n M.files))).Perm (mset n' f (mdel n D.files))
          refine (putS_perm _).trans (((List.perm_cons _).2 ?_).trans (mset_perm _).symm)
          exact mdel_perm (mdel_perm h.perm (h.ok hD).nodup hD.nodup) (mdel_nodup (h.ok hD).nodup) (mdel_nodup hD.nodup)
        · exact putS_sort (h.sort.sublist (((mdel_sub _).trans (mdel_sub M.files)).map _)) (mdel_not (mdel_nodup (h.ok hD).nodup))
      · exact ⟨⟨rfl, h.perm, h.sort⟩, by first | rfl | trivial⟩
theorem rel_append {x : List UInt8} (h : RelD D M) (hD : OkD D) : RelD (D.append n x).1 (M.appendS n x).1 ∧ (M.appendS n x).2 = (D.append n x).2 := by
  unfold DiskD.append DiskD.appendS DiskD.openS
  rw [h.get hD, h.a, h.perm.length_eq, usedL_perm h.perm]
  split
  · exact ⟨h, rfl⟩
  split
  · exact ⟨h, rfl⟩
  split
  · exact ⟨h, rfl⟩
  · cases hm : mget n D.files with
    | none =>
      have hm2 : mget n M.files = none := by rw [h.get hD, hm]
      simp only [if_true, Option.getD_none]
      rw [mset_putS (mget_none_mem hm2)]
      refine ⟨⟨rfl, ?_, putS_sort h.sort (mget_none_mem hm2)⟩, by first | rfl | trivial⟩
      show (putS n _ M.files).Perm (mset n _ D.files)
      rw [mset_none hm]
      exact ((putS_perm _).trans ((List.perm_cons _).2 h.perm)).trans (List.perm_append_comm (l₁ := [_]))
    | some f =>
      rw [if_neg (by simp)]
      exact ⟨h.set hD hm, by first | rfl | trivial⟩
theorem rel_names (h : RelD D M) : D.names = M.files.map Prod.fst := by
  unfold DiskD.names
  rw [← sortL_perm (h.perm.map Prod.fst)]
  unfold sortL
  refine List.mergeSort_of_pairwise (h.sort.imp fun hlt => ?_)
  simp only [decide_eq_true_eq]
  exact List.le_of_lt hlt
theorem rel_crash (h : RelD D M) (hD : OkD D) (ks : List Int) : RelD (D.crash ks) ⟨oA M.a.room, crashG ks M.files⟩ := by
  have e : crashG ks M.files = (D.crash ks).files := by
    show _ = crashL ks D.file D.names
    unfold crashG crashL
    rw [rel_names h, List.zipIdx_map, List.map_map]
    refine List.map_congr_left fun p hp => ?_
    have hp1 : p.1 ∈ M.files := by
      obtain ⟨⟨q1, q2⟩, i⟩ := p
      have := List.mem_zipIdx hp
      rw [this.2.2]
      exact List.getElem_mem _
    have hf : D.file p.1.1 = p.1.2 := by
      unfold DiskD.file
      rw [mget_of_mem hD.nodup (h.perm.mem_iff.1 hp1)]
      rfl
    show _ = (p.1.1, crashF ks p.2 (D.file p.1.1))
    rw [hf]
  refine ⟨by show (⟨M.a.room, -1, false⟩ : DkA) = ⟨D.a.room, -1, false⟩; rw [h.a], by rw [← e], ?_⟩
  rw [show ((⟨oA M.a.room, crashG ks M.files⟩ : DiskD).files.map Prod.fst) = M.files.map Prod.fst by
    show (crashG ks M.files).map Prod.fst = _
    rw [e]
    show (crashL ks D.file D.names).map Prod.fst = _
    rw [crashL_fst, rel_names h]]
  exact h.sort
theorem rel_new (room : Int) : RelD (DiskD.new room) (DiskD.new room) := ⟨rfl, List.Perm.refl _, List.Pairwise.nil⟩
theorem rel_limit {c : Int} (h : RelD D M) : RelD { D with a := { D.a with left := c } } { M with a := { M.a with left := c } } := ⟨by show ({ M.a with left := c } : DkA) = _; rw [h.a], h.perm, h.sort⟩
end
end Go.Proofs.Ytgnkminakongkaa
