/- Save and Load of the document's checkpoints, beside the code's. -/
import Derived.Test.YtgnkminakongkaaSSnap
import Derived.Test.YtgnkminakongkaaSRel3
import Derived.Test.YtgnkminakongkaaSRefUnpack
namespace Go.Proofs.Ytgnkminakongkaa
open Go Go.Sep
set_option linter.unusedSimpArgs false
set_option linter.unusedVariables false
set_option maxRecDepth 100000
/-! ### what the calls leave is right, and the room stays -/
section
variable {D M : DiskD} {n x : List UInt8}
theorem ok_remove (hD : OkD D) : OkD (D.remove n).1 ∧ (D.remove n).1.a.room = D.a.room := by
  unfold DiskD.remove
  split
  · exact ⟨hD, rfl⟩
  cases hm : mget n D.files with
  | none => exact ⟨hD, rfl⟩
  | some f =>
    simp only
    split
    · exact ⟨(hD.del hm).1.chg, chg_room _⟩
    · exact ⟨hD.chg, chg_room _⟩
theorem ok_sync (hD : OkD D) : OkD (D.sync n).1 ∧ (D.sync n).1.a.room = D.a.room := by
  unfold DiskD.sync
  split
  · exact ⟨hD, rfl⟩
  cases hm : mget n D.files with
  | none => exact ⟨hD, rfl⟩
  | some f =>
    have hu := hD.used
    simp only
    split
    · exact ⟨(hD.set (f' := ⟨f.data, f.data.length⟩) hm (Nat.le_refl _) (by simp only; omega)).chg, chg_room _⟩
    · exact ⟨hD.chg, chg_room _⟩
theorem ok_append (hD : OkD D) : OkD (D.append n x).1 ∧ (D.append n x).1.a.room = D.a.room := by
  unfold DiskD.append
  split
  · exact ⟨hD, rfl⟩
  split
  · exact ⟨hD, rfl⟩
  split
  · exact ⟨hD, rfl⟩
  rename_i hnf
  refine ⟨?_, chg_room _⟩
  cases hm : mget n D.files with
  | none =>
    simp only [Option.getD_none, List.nil_append]
    have hfew : D.files.length < 32 := by
      by_cases h32 : 32 ≤ D.files.length
      · exact absurd (.inl ⟨hm, h32⟩) hnf
      · omega
    have hr : ¬ (D.a.room - (usedL D.files : Int) < x.length) := fun h => hnf (.inr h)
    exact (hD.push (f := ⟨x, 0⟩) hm hfew (Nat.zero_le _) (by simp only; omega)).chg
  | some f =>
    have hdl := data_le hD hm
    have hr : ¬ (D.a.room - (usedL D.files : Int) < x.length) := fun h => hnf (.inr h)
    simp only [Option.getD_some]
    exact (hD.set (f' := ⟨f.data ++ x, f.last⟩) hm (by simp; omega) (by simp; omega)).chg
theorem room_rename {n' : List UInt8} : (D.rename n n').1.a.room = D.a.room := by
  unfold DiskD.rename
  split
  · rfl
  cases hm : mget n D.files with
  | none => rfl
  | some f =>
    simp only
    split
    · rfl
    · exact chg_room _
theorem room_save : OkD D → (D.save n x).1.a.room = D.a.room := by
  intro hD
  have h1 := ok_remove (n := nextL n) hD
  have h2 := ok_append (n := nextL n) (x := packL x) h1.1
  have h3 := ok_sync (n := nextL n) h2.1
  have h4 : (save4 ((((D.remove (nextL n)).1.append (nextL n) (packL x)).1.sync (nextL n)).1) n).1.a.room = _ := room_rename
  unfold DiskD.save
  split
  · rfl
  split
  · exact h1.2
  unfold save2
  split
  · exact h2.2.trans h1.2
  unfold save3
  split
  · exact h3.2.trans (h2.2.trans h1.2)
  · exact h4.trans (h3.2.trans (h2.2.trans h1.2))
end
open Classical in
/-- What is loaded of what was read. -/
noncomputable def loadR (r : List UInt8 × Int) : List UInt8 × Int := if r.2 ≠ 0 then ([], r.2) else if h : ∃ b, packL b = r.1 then (h.choose, 0) else ([], 61)
theorem loadR_err {r : List UInt8 × Int} (h : r.2 ≠ 0) : loadR r = ([], r.2) := by unfold loadR; rw [if_pos h]
theorem loadR_no {r : List UInt8 × Int} (h : r.2 = 0) (hn : ∀ b, packL b ≠ r.1) : loadR r = ([], 61) := by
  unfold loadR
  rw [if_neg (fun h2 => h2 h), dif_neg (fun ⟨b, hb⟩ => hn b hb)]
theorem pack_ge (b : List UInt8) : b.length ≤ (packL b).length := by
  have h2 := framesL_len2 _ b rfl
  unfold packL
  rw [List.length_append, frameL_len]
  omega
theorem loadR_ok {r : List UInt8 × Int} {b : List UInt8} (h : r.2 = 0) (hb : packL b = r.1) (hl : r.1.length ≤ 100000) : loadR r = (b, 0) := by
  have he : ∃ b, packL b = r.1 := ⟨b, hb⟩
  unfold loadR
  rw [if_neg (fun h2 => h2 h), dif_pos he]
  have h1 := pack_ge he.choose
  rw [he.choose_spec] at h1
  rw [show he.choose = b from pack_inj (by omega) (he.choose_spec.trans hb.symm)]
section
variable {B w : World} {Γ : List HProp} {d m : Nat} {D M : DiskD} {n x : List UInt8}
theorem snap_LoadU_spec {k : Sl → Int → K} (hD : OkD D) (hl : (D.read n).1.length ≤ 100000) (h : Holds B (DiskR d D :: Γ) w)
    (hk : ∀ f w, Holds B (Bytes ty_uint8 f (loadR (D.read n)).1 :: DiskR d D :: Γ) w → k f (loadR (D.read n)).2 w) : snap_Load.call (some ⟨d, 0, none⟩) (bs n) k w := by
  refine snap_Load_spec hD hl h (fun he w h => ?_) (fun b f w he hb h => ?_) (fun he hn w h => ?_)
  · rw [loadR_err he] at hk
    exact hk _ _ (h.nilSl _ _)
  · rw [loadR_ok he hb hl] at hk
    exact hk _ _ h
  · rw [loadR_no he hn] at hk
    exact hk _ _ (h.nilSl _ _)
theorem ref08_LoadU_spec {k : Sl → Int → K} (hM : OkD M) (hl : (M.read n).1.length ≤ 100000) (h : Holds B (RefR m M :: Γ) w)
    (hk : ∀ f w, Holds B (Bytes ty_uint8 f (loadR (M.read n)).1 :: RefR m M :: Γ) w → k f (loadR (M.read n)).2 w) : ref08_Load.call (some ⟨m, 0, none⟩) (bs n) k w := by
  obtain ⟨s, fs, L, hp, hc, h⟩ := RefR.opens h
  have hfl : fs.length = M.files.length := by rw [← hp]; simp
  have hfew := hM.few
  have hu := hM.used
  have hro := hM.roomN
  have hML : (⟨M.a, plainR fs⟩ : DiskD) = M := by rw [hp]
  refine ref08_Load_ok _ _ _ _ ?_
  unfold ref08_Load
  refine ref_Read_spec (n := n) (by omega) (by rw [hp]; omega) hc h fun c w h => ?_
  rw [hML] at h ⊢
  have h2 := RefR.shuts (M := M) rfl hp hc h.tail
  refine r_ite (fun hq => ?_) (fun hq => ?_)
  · have he : (M.read n).2 ≠ 0 := by simpa using hq
    rw [loadR_err he] at hk
    replace h := h2
    refine r_new h ?_
    clear h
    intro t16 w h
    try simp only [add_mk, Nat.zero_add, Nat.reduceAdd]
    exact hk _ _ (bytes_new rfl rfl h)
  · have hz : (M.read n).2 = 0 := by simpa using hq
    have hsc := h.slCap
    replace h := P3 h
    replace h := P3 h
    replace h := P3 h
    try simp only [N1, N2, N3, N4, N5, N6, N7] at h
    replace h := (RefR.shuts (M := M) rfl hp hc h).swap
    refine ref08_Unpack_spec (d := (M.read n).1) hl hsc.2.1 h (fun w h => Bytes.rd h List.mem_cons_self) (fun b g w hb h => ?_) (fun hn f w h => ?_)
    · rw [loadR_ok hz hb hl] at hk
      exact hk _ _ (h.del 1 at1)
    · rw [loadR_no hz hn] at hk
      exact hk _ _ (h.del 1 at1)

theorem ref08_Save_spec {body : Sl} {k : Int → K} (hD : OkD D) (hR : RelD D M) (hx : x.length ≤ 10000) (hnl : n.length ≤ 1000) (hcap : body.n ≤ body.c) (h : Holds B (RefR m M :: Γ) w) (hr : ∀ w, Holds B Γ w → RdB w body x)
    (hk : ∀ M' w, RelD (D.save n x).1 M' → Holds B (RefR m M' :: Γ) w → k (D.save n x).2 w) : ref08_Save.call (some ⟨m, 0, none⟩) (bs n) body k w := by
  refine ref08_Save_ok _ _ _ _ _ ?_
  unfold ref08_Save
  have hsz : ((bs n).size : Int) = n.length := by simp [bs, ByteArray.size]
  have hpl := pack_len_le (b := x) (by omega)
  have h1s : (ByteArray.mk #[126]).size = 1 := rfl
  unfold DiskD.save at hk
  have s1 : ∀ t, t = decide (n = [] ∨ 15 < n.length) → ref08_Save.s1 k (some ⟨m, 0, none⟩) (bs n) body t w := by
    rintro t rfl
    unfold ref08_Save.s1
    refine r_ite (fun ht => ?_) (fun ht => ?_)
    · rw [if_pos (by simpa using ht)] at hk
      exact hk _ _ hR h
    · simp only [decide_eq_false_iff_not] at ht
      rw [if_neg ht] at hk
      refine ⟨bs (nextL n), by rw [h1s]; omega, (bs_app n [126]).symm, ?_⟩
      refine ref_Remove_spec (n := nextL n) (hR.ok hD) h fun w h => ?_
      obtain ⟨hR1, he1⟩ := rel_remove (n := nextL n) hR hD
      have hD1 := (ok_remove (n := nextL n) hD).1
      rw [he1]
      have s2 : ∀ t, t = decide ((D.remove (nextL n)).2 ≠ 0 ∧ (D.remove (nextL n)).2 ≠ 60) → ref08_Save.s2 k (some ⟨m, 0, none⟩) (bs n) body (D.remove (nextL n)).2 t w := by
        rintro t rfl
        unfold ref08_Save.s2
        refine r_ite (fun hq => ?_) (fun hq => ?_)
        · rw [if_pos (by simpa using hq)] at hk
          exact hk _ _ hR1 h
        · rw [if_neg (by simpa only [decide_eq_false_iff_not] using hq)] at hk
          refine ⟨bs (nextL n), by rw [h1s]; omega, (bs_app n [126]).symm, ?_⟩
          refine ref08_Pack_spec (xs := x) (by omega) hcap h (fun w h => hr w h.tail) fun f w h => ?_
          refine ref_Append_spec (n := nextL n) (d := packL x) (hR1.ok hD1) (by omega) h.swap (fun w h => Bytes.rd h List.mem_cons_self) fun w h => ?_
          obtain ⟨hR2, he2⟩ := rel_append (n := nextL n) (x := packL x) hR1 hD1
          have hD2 := (ok_append (n := nextL n) (x := packL x) hD1).1
          rw [he2]
          unfold save2 at hk
          refine r_ite (fun hq => ?_) (fun hq => ?_)
          · rw [if_pos (by simpa using hq)] at hk
            exact hk _ _ hR2 (h.del 1 at1)
          · rw [if_neg (by simpa using hq)] at hk
            refine ⟨bs (nextL n), by rw [h1s]; omega, (bs_app n [126]).symm, ?_⟩
            refine ref_Sync_spec (n := nextL n) (hR2.ok hD2) h fun w h => ?_
            obtain ⟨hR3, he3⟩ := rel_sync (n := nextL n) hR2 hD2
            have hD3 := (ok_sync (n := nextL n) hD2).1
            rw [he3]
            unfold save3 at hk
            refine r_ite (fun hq => ?_) (fun hq => ?_)
            · rw [if_pos (by simpa using hq)] at hk
              exact hk _ _ hR3 (h.del 1 at1)
            · rw [if_neg (by simpa using hq)] at hk
              refine ⟨bs (nextL n), by rw [h1s]; omega, (bs_app n [126]).symm, ?_⟩
              obtain ⟨hR4, he4⟩ := rel_rename (n := nextL n) (n' := n) hR3 hD3
              unfold save4 at hk
              refine ref_Rename_spec (n := nextL n) (n' := n) (hR3.ok hD3) h fun w h => ?_
              rw [he4]
              exact hk _ _ hR4 (h.del 1 at1)
      refine r_ite (fun hq => ?_) (fun hq => ?_)
      · simp only [decide_eq_true_eq] at hq
        exact s2 _ (by simp [hq])
      · simp only [decide_eq_false_iff_not, Decidable.not_not] at hq
        exact s2 _ (by simp [hq])
  refine r_ite (fun hq => ?_) (fun hq => ?_)
  · simp only [decide_eq_true_eq] at hq
    have : n = [] := List.length_eq_zero_iff.1 (by omega)
    exact s1 _ (by simp [this])
  · simp only [decide_eq_false_iff_not] at hq
    have : n ≠ [] := by
      intro e
      have : n.length = 0 := by rw [e]; rfl
      omega
    refine s1 _ ?_
    rw [hsz]
    by_cases h15 : 15 < n.length
    · rw [decide_eq_true (by omega), decide_eq_true (.inr h15)]
    · rw [decide_eq_false (by omega), decide_eq_false (by simp [this, h15])]
end
end Go.Proofs.Ytgnkminakongkaa
