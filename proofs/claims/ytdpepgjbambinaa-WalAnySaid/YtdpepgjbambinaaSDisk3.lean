/- The disk: Rename, Cut, Used, Append. -/
import Derived.Test.YtdpepgjbambinaaSDisk2
namespace Go.Proofs.Ytdpepgjbambinaa
open Go Go.Sep
set_option linter.unusedSimpArgs false
set_option linter.unusedVariables false
set_option maxRecDepth 100000

section
variable {B w : World} {Γ : List HProp}
/-- A file's block and bytes go in at a name; what was there goes. -/
theorem files_set {fs : List (List UInt8 × FileX)} {n : List UInt8} {x : FileX} (h : Holds B (blk x.p (.cells (fA x.f x.s) ty_disk_file (0, 0)) :: Bytes ty_uint8 x.s x.f.data :: stars (fs.map fB) :: Γ) w) :
    Holds B (stars ((mset n x fs).map fB) :: Γ) w := by
  cases hm : mget n fs with
  | none =>
    rw [mset_none hm]
    replace h := P1 h
    replace h := P1 h
    replace h := P2 h
    try simp only [N1, N2, N3, N4, N5, N6, N7] at h
    have h1 : Holds B (stars (fs.map fB) :: stars [fB (n, x)] :: Γ) w := by
      refine Holds.swap (stars_cons.2 ?_)
      have h2 : Holds B (fB (n, x) :: stars (fs.map fB) :: Γ) w := Holds.flat.2 (by
        replace h := P2 h
        replace h := P2 h
        try simp only [N1, N2, N3, N4, N5, N6, N7] at h
        exact h)
      have h3 := h2.starsNil
      exact h3.swap
    rw [List.map_append, List.map_cons, List.map_nil]
    exact stars_app.2 h1
  | some y =>
    obtain ⟨l1, l2, e1, h2, _⟩ := mget_split hm
    rw [h2]
    rw [e1] at h
    replace h := P1 h
    replace h := P1 h
    replace h := P2 h
    try simp only [N1, N2, N3, N4, N5, N6, N7] at h
    replace h := files_take h
    replace h := (h.del 0 at0).del 0 at0
    try simp only [N1, N2, N3, N4, N5, N6, N7] at h
    replace h := P1 h
    replace h := P1 h
    replace h := P3 h
    replace h := P3 h
    try simp only [N1, N2, N3, N4, N5, N6, N7] at h
    exact files_put h

theorem files_join {A A' : HProp} {l1 l2 : List (List UInt8 × FileX)} (h : Holds B (A :: A' :: stars (l1.map fB) :: stars (l2.map fB) :: Γ) w) : Holds B (A :: A' :: stars ((l1 ++ l2).map fB) :: Γ) w := by
  replace h := P1 h
  replace h := P1 h
  replace h := P3 h
  replace h := P3 h
  try simp only [N1, N2, N3, N4, N5, N6, N7] at h
  have h2 := stars_app.2 h
  rw [← List.map_append] at h2
  replace h := h2
  replace h := P2 h
  replace h := P2 h
  try simp only [N1, N2, N3, N4, N5, N6, N7] at h
  exact h
theorem cut_spec {d : Nat} {D : DiskD} {n : List UInt8} {c : Int} {k : Int → K} (hD : OkD D) (h : Holds B (DiskR d D :: Γ) w) (hk : ∀ w, OkD (D.cut n c).1 → Holds B (DiskR d (D.cut n c).1 :: Γ) w → k (D.cut n c).2 w) : disk_Disk_Cut.call (some ⟨d, 0, none⟩) (bs n) c k w := by
  obtain ⟨mb, fs, hp, h⟩ := DiskR.opens h
  refine disk_Disk_Cut_ok _ _ _ _ _ ?_
  unfold disk_Disk_Cut
  unfold DiskD.cut at hk
  refine find_spec h (fun hd w h => ?_) (fun hd hx w h => ?_) (fun x hd hx w h => ?_)
  · rw [if_pos hd] at hk
    refine r_ite_f rfl ?_
    unfold disk_Disk_Cut.s4 disk_Disk_Cut.s1 disk_Disk_Cut.s2 disk_Disk_Cut.s3
    exact r_ite_f rfl (r_ite_f rfl (r_ite_f rfl (hk _ hD (DiskR.shuts rfl hp h))))
  · rw [if_neg (by rw [hd]; simp), mget_x0 hp hx] at hk
    refine r_ite_f rfl ?_
    unfold disk_Disk_Cut.s4 disk_Disk_Cut.s1 disk_Disk_Cut.s2 disk_Disk_Cut.s3
    exact r_ite_f rfl (r_ite_f rfl (r_ite_f rfl (hk _ hD (DiskR.shuts rfl hp h))))
  · have hm := mget_x hp hx
    rw [if_neg (by rw [hd]; simp), hm] at hk
    simp only at hk
    obtain ⟨l1, l2, e1, hms, hmd, _⟩ := mget_split hx
    rw [e1] at h hp hx hms
    have hdl := data_le hD hm
    refine r_ite_t rfl ?_
    have bad : (c < 0 ∨ (x.f.data.length : Int) < c) → ∀ w, Holds B (DiskF d mb D.a (l1 ++ (n, x) :: l2) :: Γ) w → ∀ p, disk_Disk_Cut.s4 k (some ⟨d, 0, none⟩) c p 0 true w := fun hc w h p => by
      rw [if_pos hc] at hk
      unfold disk_Disk_Cut.s4 disk_Disk_Cut.s1 disk_Disk_Cut.s2 disk_Disk_Cut.s3
      exact r_ite_t rfl (r_ite_f rfl (r_ite_f rfl (hk _ hD (DiskR.shuts rfl hp h))))
    refine r_ite (fun hb => ?_) (fun hb => ?_)
    · simp only [decide_eq_true_eq] at hb
      exact bad (.inl hb) _ h _
    simp only [decide_eq_false_iff_not] at hb
    replace h := diskF_take h
    have hsn := Bytes.len h.tail
    refine r_nn rfl ?_
    refine r_ld (x := x.s) h rfl (by first | with_reducible exact M0 | with_reducible exact M1 | with_reducible exact M2 | with_reducible exact M3 | with_reducible exact M4 | with_reducible exact M5 | with_reducible exact M6 | with_reducible exact M7 | with_reducible exact M8 | with_reducible exact M9 | with_reducible exact M10 | with_reducible exact M11 | with_reducible exact M12) ?_ ?_
    · exact rfl
    by_cases hc2 : (x.f.data.length : Int) < c
    · rw [decide_eq_true (by omega)]
      exact bad (.inr hc2) _ (diskF_put h) _
    rw [decide_eq_false (by omega)]
    rw [if_neg (by omega)] at hk
    obtain ⟨c', hc'⟩ := Int.eq_ofNat_of_zero_le (show 0 ≤ c by omega)
    subst hc'
    simp only [Int.toNat_natCast] at hk
    unfold disk_Disk_Cut.s4 disk_Disk_Cut.s1
    refine r_ite_f rfl (r_ite_t rfl ?_)
    refine change_spec hD.left (diskF_put h) fun w h => ?_
    unfold disk_Disk_Cut.s2 disk_Disk_Cut.s3
    refine r_ite (fun hb2 => ?_) (fun hb2 => ?_)
    · simp only [decide_eq_true_eq] at hb2
      rw [if_pos hb2] at hk
      replace h := diskF_take h
      simp only at h
      have hsc := h.tail.slCap
      refine r_dr h ?_
      clear h
      intro w h
      refine r_nn rfl ?_
      try simp only [add_mk, Nat.zero_add, Nat.reduceAdd]
      refine r_ld (x := x.s) h rfl (by first | with_reducible exact M0 | with_reducible exact M1 | with_reducible exact M2 | with_reducible exact M3 | with_reducible exact M4 | with_reducible exact M5 | with_reducible exact M6 | with_reducible exact M7 | with_reducible exact M8 | with_reducible exact M9 | with_reducible exact M10 | with_reducible exact M11 | with_reducible exact M12) ?_ ?_
      · exact rfl
      refine ⟨_, by omega, by omega, by omega, by omega, rfl, ?_⟩
      simp only [Int.toNat_natCast, show (0 : Int).toNat = 0 from rfl, cut0 hsc.2.2.1, Nat.sub_zero]
      refine r_ld (x := (x.f.last : Int)) h rfl (by first | with_reducible exact M0 | with_reducible exact M1 | with_reducible exact M2 | with_reducible exact M3 | with_reducible exact M4 | with_reducible exact M5 | with_reducible exact M6 | with_reducible exact M7 | with_reducible exact M8 | with_reducible exact M9 | with_reducible exact M10 | with_reducible exact M11 | with_reducible exact M12) ?_ ?_
      · exact rfl
      refine r_ar (e' := ((min x.f.last c' : Nat) : Int)) (by split <;> omega) ?_
      first | refine S0 h rfl ?_ rfl ?_ | refine S1 h rfl ?_ rfl ?_ | refine S2 h rfl ?_ rfl ?_ | refine S3 h rfl ?_ rfl ?_ | refine S4 h rfl ?_ rfl ?_ | refine S5 h rfl ?_ rfl ?_ | refine S6 h rfl ?_ rfl ?_ | refine S7 h rfl ?_ rfl ?_ | refine S8 h rfl ?_ rfl ?_
      · first | exact Nat.lt_of_ble_eq_true rfl | (simp; done) | (simp; omega)
      clear h
      intro w h
      try simp only [N1, N2, N3, N4, N5, N6, N7] at h
      first | refine S0 h rfl ?_ rfl ?_ | refine S1 h rfl ?_ rfl ?_ | refine S2 h rfl ?_ rfl ?_ | refine S3 h rfl ?_ rfl ?_ | refine S4 h rfl ?_ rfl ?_ | refine S5 h rfl ?_ rfl ?_ | refine S6 h rfl ?_ rfl ?_ | refine S7 h rfl ?_ rfl ?_ | refine S8 h rfl ?_ rfl ?_
      · first | exact Nat.lt_of_ble_eq_true rfl | (simp; done) | (simp; omega)
      clear h
      intro w h
      try simp only [N1, N2, N3, N4, N5, N6, N7] at h
      replace h := P5 h
      replace h := P5 h
      replace h := P5 h
      replace h := P5 h
      replace h := P4 h
      replace h := P5 h
      try simp only [N1, N2, N3, N4, N5, N6, N7] at h
      replace h := (h.imp (SlC.cut (m := c') (by omega))).swap
      rw [Nat.mul_one, ← List.map_take] at h
      have hu := hD.used
      refine hk _ ((hD.set (f' := ⟨x.f.data.take c', min x.f.last c'⟩) hm (by simp; omega) (by simp; omega)).chg) (DiskR.shuts rfl ?_ (diskF_put (f := ⟨x.f.data.take c', min x.f.last c'⟩) (s := ⟨x.s.a, c', c'⟩) (x := ⟨x.f, x.p, x.s⟩) h))
      exact plain_app hp hx hms _ _ _
    · simp only [decide_eq_false_iff_not] at hb2
      rw [if_neg hb2] at hk
      exact hk _ hD.chg (DiskR.shuts rfl hp h)
end
end Go.Proofs.Ytdpepgjbambinaa
