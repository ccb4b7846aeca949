/- The document's disk: drop and put. -/
import Derived.Test.YtgnkminakongkaaSRef03
--! use SRef03
--! short
namespace Go.Proofs.Ytgnkminakongkaa
open Go Go.Sep
set_option linter.unusedSimpArgs false
set_option linter.unusedVariables false
set_option maxRecDepth 100000
def putR (y : List UInt8 × RF) : RFs → RFs
  | [] => [y]
  | p :: l => if y.1 < p.1 then y :: p :: l else p :: putR y l
section
variable {B w : World} {Γ : List HProp} {m : Nat} {a : DkA} {s : Sl} {fs : RFs} {L : PoolL} {n : List UInt8}

theorem r_appF {e : Sl} {o : RFs} {x : List UInt8 × RF} {k : Sl → K} (ho : o.length ≤ 10000) (h : Holds B (SlC ty_argosyref03_File 3 e (o.flatMap rfF) :: Γ) w)
    (hk : ∀ e' w, Holds B (SlC ty_argosyref03_File 3 e' ((o ++ [x]).flatMap rfF) :: Γ) w → k e' w) :
    Bld #[(.string ⟨#[]⟩), (Sl.val ⟨none, 0, 0⟩), (.int .i64 0)] (fun i => some (i * 3, 3)) [(0, (.agg (rfA x)))] (fun ct =>
      New 89 ct fun t => Do Try.prog (Builtin.append_ #[85, 85] 85 #[(Sl.val e), (Sl.val (Sl.mk (some t) 1 1))]) Sl.val k) w := by
  have hn : o.length = e.n := by
    have := h.slCap.1
    rw [flatMap_len rfF 3 rfF_len] at this
    omega
  refine r_bld1 rfl rfl ?_
  refine r_new h ?_
  clear h
  intro t w h
  try simp only [add_mk, Nat.zero_add, Nat.reduceAdd]
  have hx := RdC.of_blk (n := 1) (esz := 3) h List.mem_cons_self (vs := rfF x) rfl rfl 1
  refine r_append (h.pick 1 at1) (by kernel_rfl) (by kernel_rfl) (by' := 48) (by kernel_rfl) zero_ty_argosyref03_File rfl hx (fun v hv => rf_flat [x] v (by simpa using hv)) (by simp only; omega) (by decide) fun e' w h _ _ => ?_
  try simp only [N1, N2, N3, N4, N5, N6, N7] at h
  have e1 : o.flatMap rfF ++ rfF x = (o ++ [x]).flatMap rfF := by simp
  rw [e1] at h
  exact hk _ _ (h.del 1 at1)

abbrev notN (n : List UInt8) (p : List UInt8 × RF) : Bool := !(p.1 == n)
theorem ref_drop_spec {k : K} (hl : fs.length ≤ 1000) (h : Holds B (blk m (.cells (mA a s) ty_argosyref03_Disk (0, 0)) :: SlC ty_argosyref03_File 3 s (List.flatMap rfF fs) :: stars (List.map poolB L) :: Γ) w) (hk : ∀ s' w, Holds B (blk m (.cells (mA a s') ty_argosyref03_Disk (0, 0)) :: SlC ty_argosyref03_File 3 s' (List.flatMap rfF (fs.filter (notN n))) :: stars (List.map poolB L) :: Γ) w → k w) : ref03_Disk_drop.call (some ⟨m, 0, none⟩) (bs n) k w := by
  have hn := rf_n h
  refine ref03_Disk_drop_ok _ _ _ _ ?_
  unfold ref03_Disk_drop
  refine r_new h ?_
  clear h
  intro t6 w h
  try simp only [add_mk, Nat.zero_add, Nat.reduceAdd]
  refine LoopK.of (fun t w1 => ∃ j : Nat, t.2 = (j : Int) ∧ j ≤ fs.length ∧ Holds B (SlC ty_argosyref03_File 3 t.1 (((fs.take j).filter (notN n)).flatMap rfF) :: (blk m (.cells (mA a s) ty_argosyref03_Disk (0, 0)) :: SlC ty_argosyref03_File 3 s (List.flatMap rfF fs) :: stars (List.map poolB L) :: Γ)) w1) (fun t _ => ((s.n : Int) - t.2).toNat) ⟨0, rfl, by omega, h.imp (blk_SlC rfl rfl)⟩ ?_
  clear h
  rintro ⟨e, t2⟩ w ⟨j, h2, hj, h⟩
  simp only at h2 h
  subst h2
  unfold ref03_Disk_drop.b1
  refine r_nn rfl ?_
  try simp only [add_mk, Nat.zero_add, Nat.reduceAdd]
  refine r_ld (x := s) h rfl (by first | with_reducible exact M0 | with_reducible exact M1 | with_reducible exact M2 | with_reducible exact M3 | with_reducible exact M4 | with_reducible exact M5 | with_reducible exact M6 | with_reducible exact M7 | with_reducible exact M8 | with_reducible exact M9 | with_reducible exact M10 | with_reducible exact M11 | with_reducible exact M12) ?_ ?_
  · exact rfl
  refine r_ite (fun hlt => ?_) (fun hge => ?_)
  · simp only [decide_eq_true_eq] at hlt
    have hjl : j < fs.length := by omega
    have hx : fs[j]? = some fs[j] := List.getElem?_eq_getElem hjl
    have hte : (fs.take (j + 1)).filter (notN n) = (fs.take j).filter (notN n) ++ [fs[j]].filter (notN n) := by
      rw [List.take_succ_eq_append_getElem hjl, List.filter_append]
    generalize fs[j] = x at hx hte
    have htl : ((fs.take j).filter (notN n)).length ≤ 10000 := by
      have h1 := List.length_filter_le (notN n) (fs.take j)
      have h2 := List.length_take_le j fs
      omega
    refine r_ld (x := s) h rfl (by first | with_reducible exact M0 | with_reducible exact M1 | with_reducible exact M2 | with_reducible exact M3 | with_reducible exact M4 | with_reducible exact M5 | with_reducible exact M6 | with_reducible exact M7 | with_reducible exact M8 | with_reducible exact M9 | with_reducible exact M10 | with_reducible exact M11 | with_reducible exact M12) ?_ ?_
    · exact rfl
    refine r_fidx (h.rdC (by first | with_reducible exact M0 | with_reducible exact M1 | with_reducible exact M2 | with_reducible exact M3 | with_reducible exact M4 | with_reducible exact M5 | with_reducible exact M6 | with_reducible exact M7 | with_reducible exact M8 | with_reducible exact M9 | with_reducible exact M10 | with_reducible exact M11 | with_reducible exact M12)) hx fun t h0 h1 h2 h3 => ?_
    refine r_ld_of (x := bs x.1) h0 ?_
    rw [str_toList, str_toList]
    refine r_ite (fun he => ?_) (fun he => ?_)
    · have hte2 : [x].filter (notN n) = [x] := by simp only [List.filter_cons, notN, he, if_true, List.filter_nil]
      refine r_ld (x := s) h rfl (by first | with_reducible exact M0 | with_reducible exact M1 | with_reducible exact M2 | with_reducible exact M3 | with_reducible exact M4 | with_reducible exact M5 | with_reducible exact M6 | with_reducible exact M7 | with_reducible exact M8 | with_reducible exact M9 | with_reducible exact M10 | with_reducible exact M11 | with_reducible exact M12) ?_ ?_
      · exact rfl
      refine r_fidx (h.rdC (by first | with_reducible exact M0 | with_reducible exact M1 | with_reducible exact M2 | with_reducible exact M3 | with_reducible exact M4 | with_reducible exact M5 | with_reducible exact M6 | with_reducible exact M7 | with_reducible exact M8 | with_reducible exact M9 | with_reducible exact M10 | with_reducible exact M11 | with_reducible exact M12)) hx fun t h0 h1 h2 h3 => ?_
      refine r_ldN_of (cs := rfA x) rfl h3 ?_
      refine r_appF htl h fun e' w h => ?_
      unfold ref03_Disk_drop.s2
      refine r_add64 (by omega) (by omega) ?_
      exact ⟨⟨j + 1, by simp, by omega, by rw [hte, hte2]; exact h⟩, by omega⟩
    · have hte2 : [x].filter (notN n) = [] := by simp only [List.filter_cons, notN, he, List.filter_nil]; rfl
      unfold ref03_Disk_drop.s2
      refine r_add64 (by omega) (by omega) ?_
      exact ⟨⟨j + 1, by simp, by omega, by rw [hte, hte2, List.append_nil]; exact h⟩, by omega⟩
  · simp only [decide_eq_false_iff_not] at hge
    have : j = fs.length := by omega
    subst this
    rw [List.take_length] at h
    first | refine S0 h rfl ?_ rfl ?_ | refine S1 h rfl ?_ rfl ?_ | refine S2 h rfl ?_ rfl ?_ | refine S3 h rfl ?_ rfl ?_ | refine S4 h rfl ?_ rfl ?_ | refine S5 h rfl ?_ rfl ?_ | refine S6 h rfl ?_ rfl ?_ | refine S7 h rfl ?_ rfl ?_ | refine S8 h rfl ?_ rfl ?_
    · first | exact Nat.lt_of_ble_eq_true rfl | (simp; done) | (simp; omega)
    clear h
    intro w h
    try simp only [N1, N2, N3, N4, N5, N6, N7] at h
    replace h := P3 h
    replace h := P1 h
    replace h := P2 h
    replace h := D3 h
    try simp only [N1, N2, N3, N4, N5, N6, N7] at h
    exact hk _ _ h

theorem putR_skip {y x : List UInt8 × RF} {l1 l2 : RFs} (h1 : putR y fs = l1 ++ putR y (x :: l2)) (h2 : ¬ y.1 < x.1) : putR y fs = (l1 ++ [x]) ++ putR y l2 := by
  rw [h1, putR, if_neg h2]; simp
theorem putR_hit {y x : List UInt8 × RF} {l1 l2 : RFs} (h1 : putR y fs = l1 ++ putR y (x :: l2)) (h2 : y.1 < x.1) : putR y fs = (l1 ++ [y]) ++ x :: l2 := by
  rw [h1, putR, if_pos h2]; simp

theorem ref_put_spec {k : K} {y : List UInt8 × RF} (hl : fs.length ≤ 1000) (h : Holds B (blk m (.cells (mA a s) ty_argosyref03_Disk (0, 0)) :: SlC ty_argosyref03_File 3 s (List.flatMap rfF fs) :: stars (List.map poolB L) :: Γ) w) (hk : ∀ s' w, Holds B (blk m (.cells (mA a s') ty_argosyref03_Disk (0, 0)) :: SlC ty_argosyref03_File 3 s' (List.flatMap rfF (putR y fs)) :: stars (List.map poolB L) :: Γ) w → k w) : ref03_Disk_put.call (some ⟨m, 0, none⟩) (rfA y) k w := by
  have hn := rf_n h
  refine ref03_Disk_put_ok _ _ _ _ ?_
  unfold ref03_Disk_put
  refine r_new h ?_
  clear h
  intro f3 w h
  try simp only [add_mk, Nat.zero_add, Nat.reduceAdd]
  refine r_new h ?_
  clear h
  intro t7 w h
  try simp only [add_mk, Nat.zero_add, Nat.reduceAdd]
  refine LoopK.of (fun t w1 => ∃ (j : Nat) (o : RFs), t.2.2 = (j : Int) ∧ j ≤ fs.length ∧ o.length ≤ j + 1 ∧ (t.2.1 = false → o = fs.take j ∧ putR y fs = o ++ putR y (fs.drop j)) ∧ (t.2.1 = true → putR y fs = o ++ fs.drop j) ∧
    Holds B (SlC ty_argosyref03_File 3 t.1 (o.flatMap rfF) :: blk f3 (.cells (rfA y) 89 (0, 0)) :: (blk m (.cells (mA a s) ty_argosyref03_Disk (0, 0)) :: SlC ty_argosyref03_File 3 s (List.flatMap rfF fs) :: stars (List.map poolB L) :: Γ)) w1) (fun t _ => ((s.n : Int) - t.2.2).toNat) ⟨0, [], rfl, by omega, by simp, (fun _ => ⟨rfl, rfl⟩), (fun hf => by cases hf), h.imp (blk_SlC rfl rfl)⟩ ?_
  clear h
  rintro ⟨e, dn, t2⟩ w ⟨j, o, h2, hj, hol, hdf, hdt, h⟩
  simp only at h2 h hdf hdt
  subst h2
  unfold ref03_Disk_put.b1
  refine r_nn rfl ?_
  try simp only [add_mk, Nat.zero_add, Nat.reduceAdd]
  refine r_ld (x := s) h rfl (by first | with_reducible exact M0 | with_reducible exact M1 | with_reducible exact M2 | with_reducible exact M3 | with_reducible exact M4 | with_reducible exact M5 | with_reducible exact M6 | with_reducible exact M7 | with_reducible exact M8 | with_reducible exact M9 | with_reducible exact M10 | with_reducible exact M11 | with_reducible exact M12) ?_ ?_
  · exact rfl
  refine r_ite (fun hlt => ?_) (fun hge => ?_)
  · simp only [decide_eq_true_eq] at hlt
    have hjl : j < fs.length := by omega
    have hx : fs[j]? = some fs[j] := List.getElem?_eq_getElem hjl
    have hdr : fs.drop j = fs[j] :: fs.drop (j + 1) := List.drop_eq_getElem_cons hjl
    have htk : fs.take (j + 1) = fs.take j ++ [fs[j]] := List.take_succ_eq_append_getElem hjl
    generalize fs[j] = x at hx hdr htk
    refine r_dr h ?_
    clear h
    intro w h
    have s2 : ∀ (e : Sl) (o : RFs) (dn : Bool) (w : World), o.length ≤ j + 1 → (dn = false → o ++ [x] = fs.take (j + 1) ∧ putR y fs = (o ++ [x]) ++ putR y (fs.drop (j + 1))) → (dn = true → putR y fs = (o ++ [x]) ++ fs.drop (j + 1)) →
        Holds B (SlC ty_argosyref03_File 3 e (o.flatMap rfF) :: blk f3 (.cells (rfA y) 89 (0, 0)) :: (blk m (.cells (mA a s) ty_argosyref03_Disk (0, 0)) :: SlC ty_argosyref03_File 3 s (List.flatMap rfF fs) :: stars (List.map poolB L) :: Γ)) w →
        ref03_Disk_put.s2 k (fun a1 a2 a3 w' => (∃ (j' : Nat) (o : RFs), a3 = (j' : Int) ∧ j' ≤ fs.length ∧ o.length ≤ j' + 1 ∧ (a2 = false → o = fs.take j' ∧ putR y fs = o ++ putR y (fs.drop j')) ∧ (a2 = true → putR y fs = o ++ fs.drop j') ∧
          Holds B (SlC ty_argosyref03_File 3 a1 (o.flatMap rfF) :: blk f3 (.cells (rfA y) 89 (0, 0)) :: (blk m (.cells (mA a s) ty_argosyref03_Disk (0, 0)) :: SlC ty_argosyref03_File 3 s (List.flatMap rfF fs) :: stars (List.map poolB L) :: Γ)) w') ∧ ((s.n : Int) - a3).toNat < ((s.n : Int) - (j : Int)).toNat) ⟨m, 0, none⟩ ⟨f3, 0, none⟩ e dn (j : Int) w := by
      clear h hol hdf hdt
      intro e o dn w hol hdf hdt h
      unfold ref03_Disk_put.s2
      try simp only [add_mk, Nat.zero_add, Nat.reduceAdd]
      refine r_ld (x := s) h rfl (by first | with_reducible exact M0 | with_reducible exact M1 | with_reducible exact M2 | with_reducible exact M3 | with_reducible exact M4 | with_reducible exact M5 | with_reducible exact M6 | with_reducible exact M7 | with_reducible exact M8 | with_reducible exact M9 | with_reducible exact M10 | with_reducible exact M11 | with_reducible exact M12) ?_ ?_
      · exact rfl
      refine r_fidx (h.rdC (by first | with_reducible exact M0 | with_reducible exact M1 | with_reducible exact M2 | with_reducible exact M3 | with_reducible exact M4 | with_reducible exact M5 | with_reducible exact M6 | with_reducible exact M7 | with_reducible exact M8 | with_reducible exact M9 | with_reducible exact M10 | with_reducible exact M11 | with_reducible exact M12)) hx fun t h0 h1 h2 h3 => ?_
      refine r_ldN_of (cs := rfA x) rfl h3 ?_
      refine r_appF (by omega) h fun e' w h => ?_
      refine r_add64 (by omega) (by omega) ?_
      exact ⟨⟨j + 1, o ++ [x], by simp, by omega, by simp; omega, hdf, hdt, h⟩, by omega⟩
    have s3t : y.1 < x.1 → dn = false → ref03_Disk_put.s3 k (fun a1 a2 a3 w' => (∃ (j' : Nat) (o : RFs), a3 = (j' : Int) ∧ j' ≤ fs.length ∧ o.length ≤ j' + 1 ∧ (a2 = false → o = fs.take j' ∧ putR y fs = o ++ putR y (fs.drop j')) ∧ (a2 = true → putR y fs = o ++ fs.drop j') ∧
          Holds B (SlC ty_argosyref03_File 3 a1 (o.flatMap rfF) :: blk f3 (.cells (rfA y) 89 (0, 0)) :: (blk m (.cells (mA a s) ty_argosyref03_Disk (0, 0)) :: SlC ty_argosyref03_File 3 s (List.flatMap rfF fs) :: stars (List.map poolB L) :: Γ)) w') ∧ ((s.n : Int) - a3).toNat < ((s.n : Int) - (j : Int)).toNat) ⟨m, 0, none⟩ ⟨f3, 0, none⟩ e dn (j : Int) true w := by
      intro hlt2 hdn
      obtain ⟨hd1, hd2⟩ := hdf hdn
      unfold ref03_Disk_put.s3
      refine r_ite_t rfl ?_
      refine r_ldN_of (cs := rfA y) rfl (rdN_block (h.blockOf (by first | with_reducible exact M0 | with_reducible exact M1 | with_reducible exact M2 | with_reducible exact M3 | with_reducible exact M4 | with_reducible exact M5 | with_reducible exact M6 | with_reducible exact M7 | with_reducible exact M8 | with_reducible exact M9 | with_reducible exact M10 | with_reducible exact M11 | with_reducible exact M12)) (by
          intro i hi
          match i, hi with
          | 0, _ => rfl
          | 1, _ => rfl
          | 2, _ => rfl)) ?_
      refine r_appF (by omega) h fun e' w h => ?_
      refine s2 _ _ _ _ (by rw [List.length_append, hd1, List.length_take]; simp; omega) (fun hf => by cases hf) (fun _ => ?_) h
      rw [hdr] at hd2
      rw [putR_hit hd2 hlt2]
      simp
    refine r_ite (fun hdn => ?_) (fun hdn => ?_)
    · have hdn' : dn = false := by simpa using hdn
      obtain ⟨hd1, hd2⟩ := hdf hdn'
      refine r_ld (x := s) h rfl (by first | with_reducible exact M0 | with_reducible exact M1 | with_reducible exact M2 | with_reducible exact M3 | with_reducible exact M4 | with_reducible exact M5 | with_reducible exact M6 | with_reducible exact M7 | with_reducible exact M8 | with_reducible exact M9 | with_reducible exact M10 | with_reducible exact M11 | with_reducible exact M12) ?_ ?_
      · exact rfl
      refine r_fidx (h.rdC (by first | with_reducible exact M0 | with_reducible exact M1 | with_reducible exact M2 | with_reducible exact M3 | with_reducible exact M4 | with_reducible exact M5 | with_reducible exact M6 | with_reducible exact M7 | with_reducible exact M8 | with_reducible exact M9 | with_reducible exact M10 | with_reducible exact M11 | with_reducible exact M12)) hx fun t h0 h1 h2 h3 => ?_
      refine r_ld_of (x := bs x.1) h0 ?_
      refine r_ld (x := (bs y.1)) h rfl (by first | with_reducible exact M0 | with_reducible exact M1 | with_reducible exact M2 | with_reducible exact M3 | with_reducible exact M4 | with_reducible exact M5 | with_reducible exact M6 | with_reducible exact M7 | with_reducible exact M8 | with_reducible exact M9 | with_reducible exact M10 | with_reducible exact M11 | with_reducible exact M12) ?_ ?_
      · exact rfl
      rw [str_toList, str_toList, gt_dec]
      by_cases hc : y.1 < x.1
      · rw [decide_eq_true hc]
        exact s3t hc hdn'
      · rw [decide_eq_false hc]
        unfold ref03_Disk_put.s3
        refine r_ite_f rfl ?_
        rw [hdr] at hd2
        exact s2 _ _ _ _ (by omega) (fun _ => ⟨by rw [htk, hd1], putR_skip hd2 hc⟩) (fun hf => by rw [hdn'] at hf; cases hf) h
    · have hdn' : dn = true := by simpa using hdn
      unfold ref03_Disk_put.s3
      refine r_ite_f rfl ?_
      refine s2 _ _ _ _ (by omega) (fun hf => by rw [hdn'] at hf; cases hf) (fun _ => ?_) h
      rw [hdt hdn', hdr]
      simp
  · simp only [decide_eq_false_iff_not] at hge
    have : j = fs.length := by omega
    subst this
    refine r_ite (fun hdn => ?_) (fun hdn => ?_)
    · have hdn' : dn = false := by simpa using hdn
      obtain ⟨hd1, hd2⟩ := hdf hdn'
      rw [List.drop_length, putR] at hd2
      refine r_ldN_of (cs := rfA y) rfl (rdN_block (h.blockOf (by first | with_reducible exact M0 | with_reducible exact M1 | with_reducible exact M2 | with_reducible exact M3 | with_reducible exact M4 | with_reducible exact M5 | with_reducible exact M6 | with_reducible exact M7 | with_reducible exact M8 | with_reducible exact M9 | with_reducible exact M10 | with_reducible exact M11 | with_reducible exact M12)) (by
          intro i hi
          match i, hi with
          | 0, _ => rfl
          | 1, _ => rfl
          | 2, _ => rfl)) ?_
      refine r_appF (by omega) h fun e' w h => ?_
      rw [← hd2] at h
      unfold ref03_Disk_put.s4
      try simp only [add_mk, Nat.zero_add, Nat.reduceAdd]
      first | refine S0 h rfl ?_ rfl ?_ | refine S1 h rfl ?_ rfl ?_ | refine S2 h rfl ?_ rfl ?_ | refine S3 h rfl ?_ rfl ?_ | refine S4 h rfl ?_ rfl ?_ | refine S5 h rfl ?_ rfl ?_ | refine S6 h rfl ?_ rfl ?_ | refine S7 h rfl ?_ rfl ?_ | refine S8 h rfl ?_ rfl ?_
      · first | exact Nat.lt_of_ble_eq_true rfl | (simp; done) | (simp; omega)
      clear h
      intro w h
      try simp only [N1, N2, N3, N4, N5, N6, N7] at h
      replace h := P4 h
      replace h := P1 h
      replace h := P3 h
      replace h := D3 h
      replace h := D3 h
      try simp only [N1, N2, N3, N4, N5, N6, N7] at h
      exact hk _ _ h
    · have hdn' : dn = true := by simpa using hdn
      have hd2 := hdt hdn'
      rw [List.drop_length, List.append_nil] at hd2
      rw [← hd2] at h
      unfold ref03_Disk_put.s4
      try simp only [add_mk, Nat.zero_add, Nat.reduceAdd]
      first | refine S0 h rfl ?_ rfl ?_ | refine S1 h rfl ?_ rfl ?_ | refine S2 h rfl ?_ rfl ?_ | refine S3 h rfl ?_ rfl ?_ | refine S4 h rfl ?_ rfl ?_ | refine S5 h rfl ?_ rfl ?_ | refine S6 h rfl ?_ rfl ?_ | refine S7 h rfl ?_ rfl ?_ | refine S8 h rfl ?_ rfl ?_
      · first | exact Nat.lt_of_ble_eq_true rfl | (simp; done) | (simp; omega)
      clear h
      intro w h
      try simp only [N1, N2, N3, N4, N5, N6, N7] at h
      replace h := P4 h
      replace h := P1 h
      replace h := P3 h
      replace h := D3 h
      replace h := D3 h
      try simp only [N1, N2, N3, N4, N5, N6, N7] at h
      exact hk _ _ h
end
end Go.Proofs.Ytgnkminakongkaa
