/- The document's disk: Cut, Append, Crash. -/
import Derived.Test.YtgnkminakongkaaSRef03c
--! use SRef03
--! short
namespace Go.Proofs.Ytgnkminakongkaa
open Go Go.Sep
set_option linter.unusedSimpArgs false
set_option linter.unusedVariables false
set_option maxRecDepth 100000
section
variable {B w : World} {Γ : List HProp} {m : Nat} {a : DkA} {s : Sl} {fs : RFs} {L : PoolL} {n : List UInt8} {M : DiskD}
theorem Cov.cut {x : List UInt8} {c : Nat} (hc : Cov L s x) (hn : c ≤ s.n) (hcc : s.n ≤ s.c) : Cov L ⟨s.a, c, s.c⟩ (x.take c) := by
  rcases hc with ⟨rfl, rfl⟩ | ⟨p, hp, n, d, h1, h2, rfl, rfl⟩
  · have hc0 : c = 0 := by simpa using hn
    subst hc0
    exact .inl ⟨rfl, rfl⟩
  · exact .inr ⟨p, hp, c, d, by simp only at hn; omega, by simp only at hn hcc; omega, rfl, by
      simp only at hn
      rw [List.take_take, Nat.min_eq_left hn]⟩

theorem ref_Cut_spec {k : Int → K} {c : Int} (hM : OkD M) (h : Holds B (RefR m M :: Γ) w) (hk : ∀ w, Holds B (RefR m (M.cut n c).1 :: Γ) w → k (M.cut n c).2 w) : ref03_Disk_Cut.call (some ⟨m, 0, none⟩) (bs n) c k w := by
  obtain ⟨s, fs, L, hp, hc, h⟩ := RefR.opens h
  have hfl : fs.length = M.files.length := by rw [← hp]; simp
  have hfew := hM.few
  refine ref03_Disk_Cut_ok _ _ _ _ _ ?_
  unfold ref03_Disk_Cut
  refine ref_find_spec (by omega) h (fun hd => ?_) (fun hd hb => ?_) (fun hd l1 x l2 he hb => ?_)
  · refine r_ite_t rfl ?_
    have e : M.cut n c = (M, 3) := by unfold DiskD.cut; rw [if_pos hd]
    rw [e] at hk
    exact hk _ (RefR.shuts rfl hp hc h)
  · refine r_ite_t rfl ?_
    have e : M.cut n c = (M, 60) := by
      unfold DiskD.cut
      rw [if_neg (by rw [hd]; decide), ← hp, mget_none hb]
    rw [e] at hk
    exact hk _ (RefR.shuts rfl hp hc h)
  · refine r_ite_f rfl ?_
    have hm : mget n M.files = some x.f := by rw [← hp, mget_at he hb]
    have e : M.cut n c = if c < 0 ∨ (x.f.data.length : Int) < c then (M, 1) else (⟨(chg M.a).1, if (chg M.a).2 = 0 then mset n ⟨x.f.data.take c.toNat, min x.f.last c.toNat⟩ M.files else M.files⟩, (chg M.a).2) := by
      unfold DiskD.cut
      rw [if_neg (by rw [hd]; decide), hm]
    rw [e] at hk
    subst he
    have hx : (l1 ++ (n, x) :: l2)[l1.length]? = some (n, x) := by simp
    obtain ⟨g1, g2, g3, g4⟩ := cov_rd 2 h at2 (hc _ (List.mem_of_getElem? hx))
    simp only at g2 g3 g4
    have hdl := data_le hM hm
    have s1 : ∀ t, t = decide (c < 0 ∨ (x.f.data.length : Int) < c) → ref03_Disk_Cut.s1 k (some ⟨m, 0, none⟩) c (l1.length : Int) t w := by
      rintro t rfl
      unfold ref03_Disk_Cut.s1
      refine r_ite (fun ht => ?_) (fun ht => ?_)
      · rw [if_pos (by simpa using ht)] at hk
        exact hk _ (RefR.shuts rfl hp hc h)
      · simp only [decide_eq_false_iff_not] at ht
        rw [if_neg ht] at hk
        obtain ⟨c', hc'⟩ := Int.eq_ofNat_of_zero_le (show 0 ≤ c by omega)
        subst hc'
        simp only [Int.toNat_natCast] at hk
        refine ref_use_spec hM.left h fun w h => ?_
        refine r_ite (fun hz => ?_) (fun hz => ?_)
        · have hz' : (chg M.a).2 ≠ 0 := by simpa using hz
          rw [if_neg hz', chg_3 hz'] at hk
          exact hk _ (RefR.shuts rfl hp hc h)
        · have hz' : (chg M.a).2 = 0 := by simpa using hz
          rw [if_pos hz', hz'] at hk
          refine r_dr h ?_
          clear h
          intro w h
          refine r_nn rfl ?_
          try simp only [add_mk, Nat.zero_add, Nat.reduceAdd]
          refine r_ld (x := s) h rfl (by first | with_reducible exact M0 | with_reducible exact M1 | with_reducible exact M2 | with_reducible exact M3 | with_reducible exact M4 | with_reducible exact M5 | with_reducible exact M6 | with_reducible exact M7 | with_reducible exact M8 | with_reducible exact M9 | with_reducible exact M10 | with_reducible exact M11 | with_reducible exact M12) ?_ ?_
          · exact rfl
          refine r_ld (x := s) h rfl (by first | with_reducible exact M0 | with_reducible exact M1 | with_reducible exact M2 | with_reducible exact M3 | with_reducible exact M4 | with_reducible exact M5 | with_reducible exact M6 | with_reducible exact M7 | with_reducible exact M8 | with_reducible exact M9 | with_reducible exact M10 | with_reducible exact M11 | with_reducible exact M12) ?_ ?_
          · exact rfl
          refine r_fidx (h.rdC (by first | with_reducible exact M0 | with_reducible exact M1 | with_reducible exact M2 | with_reducible exact M3 | with_reducible exact M4 | with_reducible exact M5 | with_reducible exact M6 | with_reducible exact M7 | with_reducible exact M8 | with_reducible exact M9 | with_reducible exact M10 | with_reducible exact M11 | with_reducible exact M12)) hx fun t h0 h1 h2 h3 => ?_
          refine r_ld_of (x := x.s) h1 ?_
          refine ⟨_, by omega, by omega, by omega, by omega, rfl, ?_⟩
          simp only [Int.toNat_natCast, show (0 : Int).toNat = 0 from rfl, cut0 g4, Nat.sub_zero]
          replace h := P2 h
          replace h := P1 h
          replace h := P2 h
          try simp only [N1, N2, N3, N4, N5, N6, N7] at h
          refine r_fset (x' := ⟨⟨x.f.data.take c', x.f.last⟩, ⟨x.s.a, c', x.s.c⟩⟩) h (by decide) rfl rfl fun w h => ?_
          have hx2 : (l1 ++ (n, (⟨⟨x.f.data.take c', x.f.last⟩, ⟨x.s.a, c', x.s.c⟩⟩ : RF)) :: l2)[l1.length]? = some (n, ⟨⟨x.f.data.take c', x.f.last⟩, ⟨x.s.a, c', x.s.c⟩⟩) := by simp
          refine r_ld (x := s) h rfl (by first | with_reducible exact M0 | with_reducible exact M1 | with_reducible exact M2 | with_reducible exact M3 | with_reducible exact M4 | with_reducible exact M5 | with_reducible exact M6 | with_reducible exact M7 | with_reducible exact M8 | with_reducible exact M9 | with_reducible exact M10 | with_reducible exact M11 | with_reducible exact M12) ?_ ?_
          · exact rfl
          refine r_fidx (h.rdC (by first | with_reducible exact M0 | with_reducible exact M1 | with_reducible exact M2 | with_reducible exact M3 | with_reducible exact M4 | with_reducible exact M5 | with_reducible exact M6 | with_reducible exact M7 | with_reducible exact M8 | with_reducible exact M9 | with_reducible exact M10 | with_reducible exact M11 | with_reducible exact M12)) hx2 fun t h0 h1 h2 h3 => ?_
          refine r_ld_of (x := (x.f.last : Int)) h2 ?_
          unfold ref03_Disk_Cut.s2
          have hcv : Cov L ⟨x.s.a, c', x.s.c⟩ (x.f.data.take c') := Cov.cut (hc (n, x) (List.mem_of_getElem? hx)) (by omega) g3
          have fin : ∀ w, Holds B (SlC ty_argosyref03_File 3 s ((l1 ++ (n, (⟨⟨x.f.data.take c', min x.f.last c'⟩, ⟨x.s.a, c', x.s.c⟩⟩ : RF)) :: l2).flatMap rfF) :: blk m (.cells (mA (chg M.a).1 s) ty_argosyref03_Disk (0, 0)) :: stars (L.map poolB) :: Γ) w → k 0 w := by
            intro w h
            replace h := P2 h
            replace h := P1 h
            replace h := P2 h
            try simp only [N1, N2, N3, N4, N5, N6, N7] at h
            refine hk _ (RefR.shuts rfl ?_ ?_ h)
            · show _ = mset n _ M.files
              rw [← hp, mset_at hb]
            · exact covA_set hc (fun _ _ h => h) hcv
          refine r_ite (fun hq => ?_) (fun hq => ?_)
          · simp only [decide_eq_true_eq] at hq
            refine r_ld (x := s) h rfl (by first | with_reducible exact M0 | with_reducible exact M1 | with_reducible exact M2 | with_reducible exact M3 | with_reducible exact M4 | with_reducible exact M5 | with_reducible exact M6 | with_reducible exact M7 | with_reducible exact M8 | with_reducible exact M9 | with_reducible exact M10 | with_reducible exact M11 | with_reducible exact M12) ?_ ?_
            · exact rfl
            refine r_fset (x' := ⟨⟨x.f.data.take c', min x.f.last c'⟩, ⟨x.s.a, c', x.s.c⟩⟩) h (by decide) ?_ rfl fin
            rw [Nat.min_eq_right (by omega)]
            rfl
          · simp only [decide_eq_false_iff_not] at hq
            rw [Nat.min_eq_left (by omega)] at fin
            exact fin _ h
    refine r_ite (fun hq => ?_) (fun hq => ?_)
    · simp only [decide_eq_true_eq] at hq
      exact s1 _ (decide_eq_true (.inl hq)).symm
    · simp only [decide_eq_false_iff_not] at hq
      refine r_nn rfl ?_
      try simp only [add_mk, Nat.zero_add, Nat.reduceAdd]
      refine r_ld (x := s) h rfl (by first | with_reducible exact M0 | with_reducible exact M1 | with_reducible exact M2 | with_reducible exact M3 | with_reducible exact M4 | with_reducible exact M5 | with_reducible exact M6 | with_reducible exact M7 | with_reducible exact M8 | with_reducible exact M9 | with_reducible exact M10 | with_reducible exact M11 | with_reducible exact M12) ?_ ?_
      · exact rfl
      refine r_fidx (h.rdC (by first | with_reducible exact M0 | with_reducible exact M1 | with_reducible exact M2 | with_reducible exact M3 | with_reducible exact M4 | with_reducible exact M5 | with_reducible exact M6 | with_reducible exact M7 | with_reducible exact M8 | with_reducible exact M9 | with_reducible exact M10 | with_reducible exact M11 | with_reducible exact M12)) hx fun t h0 h1 h2 h3 => ?_
      refine r_ld_of (x := x.s) h1 ?_
      refine s1 _ ?_
      rw [← g2]
      by_cases hq2 : (x.f.data.length : Int) < c
      · simp [hq2]
      · simp [hq2, hq]

theorem ref_Append_s3 {k : Int → K} {x : RF} {l1 l2 : RFs} {data : Sl} {d : List UInt8} (ha : okA a) (hlen : (x.f.data ++ d).length ≤ 100000000) (hc : CovA L (l1 ++ (n, x) :: l2)) (hr : ∀ w, Holds B Γ w → RdB w data d)
    (h : Holds B (blk m (.cells (mA a s) ty_argosyref03_Disk (0, 0)) :: SlC ty_argosyref03_File 3 s (List.flatMap rfF (l1 ++ (n, x) :: l2)) :: stars (List.map poolB L) :: Γ) w)
    (hk : ∀ x' L' w, x'.f = ⟨x.f.data ++ d, x.f.last⟩ → CovA L' (l1 ++ (n, x') :: l2) → Holds B (blk m (.cells (mA (chg a).1 s) ty_argosyref03_Disk (0, 0)) :: SlC ty_argosyref03_File 3 s (List.flatMap rfF (l1 ++ (n, x') :: l2)) :: stars (List.map poolB L') :: Γ) w → k (chg a).2 w) : ref03_Disk_Append.s3 k ⟨m, 0, none⟩ data (l1.length : Int) w := by
  have hx : (l1 ++ (n, x) :: l2)[l1.length]? = some (n, x) := by simp
  have hxm := List.mem_of_getElem? hx
  obtain ⟨g1, g2, g3, g4⟩ := cov_rd 2 h at2 (hc _ hxm)
  simp only at g2 g3 g4
  have hdn : d.length = data.n := by have := (hr w h.tail.tail.tail).len; simpa using this
  have hlen' := hlen
  rw [List.length_append] at hlen'
  unfold ref03_Disk_Append.s3
  refine r_dr h ?_
  clear h
  intro w h
  refine r_withS h ?_
  try simp only [add_mk, Nat.zero_add, Nat.reduceAdd]
  refine r_ldS (x := s) rfl (by first | with_reducible exact M0 | with_reducible exact M1 | with_reducible exact M2 | with_reducible exact M3 | with_reducible exact M4 | with_reducible exact M5 | with_reducible exact M6 | with_reducible exact M7 | with_reducible exact M8 | with_reducible exact M9 | with_reducible exact M10 | with_reducible exact M11 | with_reducible exact M12) ?_ ?_
  · exact rfl
  refine r_ldS (x := s) rfl (by first | with_reducible exact M0 | with_reducible exact M1 | with_reducible exact M2 | with_reducible exact M3 | with_reducible exact M4 | with_reducible exact M5 | with_reducible exact M6 | with_reducible exact M7 | with_reducible exact M8 | with_reducible exact M9 | with_reducible exact M10 | with_reducible exact M11 | with_reducible exact M12) ?_ ?_
  · exact rfl
  refine r_idxA rfF rfF_len (by decide) (h.rdC (by first | with_reducible exact M0 | with_reducible exact M1 | with_reducible exact M2 | with_reducible exact M3 | with_reducible exact M4 | with_reducible exact M5 | with_reducible exact M6 | with_reducible exact M7 | with_reducible exact M8 | with_reducible exact M9 | with_reducible exact M10 | with_reducible exact M11 | with_reducible exact M12)) hx fun t ht => ?_
  refine r_ldS_of (x := x.s) (fun w h => ht w (h.rdC (by first | with_reducible exact M0 | with_reducible exact M1 | with_reducible exact M2 | with_reducible exact M3 | with_reducible exact M4 | with_reducible exact M5 | with_reducible exact M6 | with_reducible exact M7 | with_reducible exact M8 | with_reducible exact M9 | with_reducible exact M10 | with_reducible exact M11 | with_reducible exact M12)) 1 (show 1 < 3 by decide)) ?_
  refine r_new h ?_
  clear h
  intro t59 w h
  try simp only [add_mk, Nat.zero_add, Nat.reduceAdd]
  refine r_sv h.tail ?_
  obtain ⟨g1, _⟩ := cov_rd 3 h at3 (hc _ hxm)
  refine r_append (vs := []) (h.imp (blk_SlC rfl rfl)) (by kernel_rfl) (by kernel_rfl) (by' := 1) (by kernel_rfl) zero_ty_uint8 rfl g1 (byteV_flat _) (by simp only; omega) (by decide) fun e w h he _ => ?_
  simp only [List.nil_append] at h
  have hen : e.n = x.s.n := by simp only at he; omega
  refine r_sv h.tail ?_
  refine r_append h (by kernel_rfl) (by kernel_rfl) (by' := 1) (by kernel_rfl) zero_ty_uint8 rfl (hr _ h.tail.tail.tail.tail) (byteV_flat _) (by omega) (by decide) fun e2 w h he2 _ => ?_
  rw [← List.map_append] at h
  have he2n : e2.n = (x.f.data ++ d).length := by rw [List.length_append]; omega
  have hcap := h.slCap.2.1
  refine r_sv h.tail ?_
  replace h := pool_push h
  replace h := P2 h
  replace h := P1 h
  replace h := P2 h
  try simp only [N1, N2, N3, N4, N5, N6, N7] at h
  refine r_fset (x' := ⟨⟨x.f.data ++ d, x.f.last⟩, e2⟩) h (by decide) rfl rfl fun w h => ?_
  replace h := P2 h
  replace h := P1 h
  replace h := P2 h
  try simp only [N1, N2, N3, N4, N5, N6, N7] at h
  refine ref_use_spec ha h fun w h => ?_
  have hcv : CovA ((e2, x.f.data ++ d) :: L) (l1 ++ (n, (⟨⟨x.f.data ++ d, x.f.last⟩, e2⟩ : RF)) :: l2) := covA_set hc (fun _ _ h => Cov.grow h) (Cov.here he2n.symm hcap)
  refine r_ite (fun hz => ?_) (fun hz => ?_)
  · have hz' : (chg a).2 ≠ 0 := by simpa using hz
    have := hk _ _ _ rfl hcv h
    rw [chg_3 hz'] at this
    exact this
  · have hz' : (chg a).2 = 0 := by simpa using hz
    have := hk _ _ _ rfl hcv h
    rw [hz'] at this
    exact this

theorem putR_split {y : List UInt8 × RF} : ∀ {fs : RFs}, (∀ p ∈ fs, p.1 ≠ y.1) → ∀ {l1 l2 : RFs} {x : RF}, putR y fs = l1 ++ (y.1, x) :: l2 → (∀ p ∈ l1, p.1 ≠ y.1) → x = y.2
  | [], _, l1, l2, x, he, hb => by
    cases l1 with
    | nil => simp only [putR, List.nil_append, List.cons.injEq] at he; exact (congrArg Prod.snd he.1).symm
    | cons q l1 => simp [putR] at he
  | q :: fs, hn, l1, l2, x, he, hb => by
    unfold putR at he
    split at he
    · cases l1 with
      | nil => simp only [List.nil_append, List.cons.injEq] at he; exact (congrArg Prod.snd he.1).symm
      | cons r l1 =>
        simp only [List.cons_append, List.cons.injEq] at he
        exact absurd (congrArg Prod.fst he.1).symm (hb r List.mem_cons_self)
    · cases l1 with
      | nil =>
        simp only [List.nil_append, List.cons.injEq] at he
        exact absurd (congrArg Prod.fst he.1) (hn q List.mem_cons_self)
      | cons r l1 =>
        simp only [List.cons_append, List.cons.injEq] at he
        exact putR_split (fun p hp => hn p (List.mem_cons_of_mem _ hp)) he.2 (fun p hp => hb p (List.mem_cons_of_mem _ hp))
theorem putR_has {y : List UInt8 × RF} : ∀ fs : RFs, y ∈ putR y fs
  | [] => List.mem_cons_self
  | q :: fs => by
    unfold putR
    split
    · exact List.mem_cons_self
    · exact List.mem_cons_of_mem _ (putR_has fs)
theorem putR_len {y : List UInt8 × RF} : ∀ fs : RFs, (putR y fs).length = fs.length + 1
  | [] => rfl
  | q :: fs => by
    unfold putR
    split
    · rfl
    · simp [putR_len fs]

theorem ref_Append_spec {k : Int → K} {data : Sl} {d : List UInt8} (hM : OkD M) (hxl : d.length ≤ 90000000) (h : Holds B (RefR m M :: Γ) w) (hr : ∀ w, Holds B Γ w → RdB w data d)
    (hk : ∀ w, Holds B (RefR m (M.appendS n d).1 :: Γ) w → k (M.appendS n d).2 w) : ref03_Disk_Append.call (some ⟨m, 0, none⟩) (bs n) data k w := by
  have hdn : d.length = data.n := by have := (hr w h.tail).len; simpa using this
  obtain ⟨s, fs, L, hp, hc, h⟩ := RefR.opens h
  have hfl : fs.length = M.files.length := by rw [← hp]; simp
  have hfew := hM.few
  have hu := hM.used
  have hro := hM.roomN
  have hro1 := hM.room1
  refine ref03_Disk_Append_ok _ _ _ _ _ ?_
  unfold ref03_Disk_Append
  unfold DiskD.appendS at hk
  refine r_nn rfl ?_
  try simp only [add_mk, Nat.zero_add, Nat.reduceAdd]
  refine r_ld (x := M.a.down) h rfl (by first | with_reducible exact M0 | with_reducible exact M1 | with_reducible exact M2 | with_reducible exact M3 | with_reducible exact M4 | with_reducible exact M5 | with_reducible exact M6 | with_reducible exact M7 | with_reducible exact M8 | with_reducible exact M9 | with_reducible exact M10 | with_reducible exact M11 | with_reducible exact M12) ?_ ?_
  · exact rfl
  refine r_ite (fun hb => ?_) (fun hb => ?_)
  · rw [if_pos hb] at hk
    exact hk _ (RefR.shuts rfl hp hc h)
  rw [if_neg (by rw [hb]; simp)] at hk
  have s1 : ∀ t, t = (!named n) → ref03_Disk_Append.s1 k ⟨m, 0, none⟩ (bs n) data t w := by
    rintro t rfl
    unfold ref03_Disk_Append.s1
    refine r_ite (fun ht => ?_) (fun ht => ?_)
    · rw [if_pos (by simpa using ht)] at hk
      exact hk _ (RefR.shuts rfl hp hc h)
    rw [if_neg (by simp at ht; simp [ht])] at hk
    have s2 : ∀ (t : Bool) (i : Int) w, t = decide ((mget n M.files = none ∧ 32 ≤ M.files.length) ∨ M.a.room - usedL M.files < d.length) →
        ((∀ p ∈ fs, p.1 ≠ n) ∧ i = -1 ∨ ∃ l1 x l2, fs = l1 ++ (n, x) :: l2 ∧ (∀ p ∈ l1, p.1 ≠ n) ∧ i = (l1.length : Int)) →
        Holds B (blk m (.cells (mA M.a s) ty_argosyref03_Disk (0, 0)) :: SlC ty_argosyref03_File 3 s (List.flatMap rfF fs) :: stars (List.map poolB L) :: Γ) w → ref03_Disk_Append.s2 k ⟨m, 0, none⟩ (bs n) data i t w := by
      clear h
      rintro t i w rfl hi h
      unfold ref03_Disk_Append.s2
      refine r_ite (fun hq => ?_) (fun hq => ?_)
      · rw [if_pos (by simpa using hq)] at hk
        exact hk _ (RefR.shuts rfl hp hc h)
      simp only [decide_eq_false_iff_not] at hq
      rw [if_neg hq] at hk
      rcases hi with ⟨hb, rfl⟩ | ⟨l1, x, l2, he, hb, rfl⟩
      · have hm : mget n M.files = none := by rw [← hp]; exact mget_none hb
        refine r_ite_t rfl ?_
        have hcp : CovA L (putR (n, (⟨⟨[], 0⟩, ⟨none, 0, 0⟩⟩ : RF)) fs) := covA_put hc (.inl ⟨rfl, rfl⟩)
        refine ref_put_spec (y := (n, (⟨⟨[], 0⟩, ⟨none, 0, 0⟩⟩ : RF))) (by omega) h fun s' w h => ?_
        have hpl := putR_len (y := (n, (⟨⟨[], 0⟩, ⟨none, 0, 0⟩⟩ : RF))) fs
        refine ref_At_spec (by omega) h (fun hno => ?_) (fun l1 x l2 he hb2 => ?_)
        · exact absurd rfl (hno _ (putR_has fs))
        · have hx := putR_split hb he hb2
          subst hx
          have hpp := putS_plain n (⟨⟨[], 0⟩, ⟨none, 0, 0⟩⟩ : RF) fs
          rw [he] at h hcp hpp
          refine ref_Append_s3 hM.left (by simp only [List.nil_append]; omega) hcp hr h fun x' L' w hx' hc' h => ?_
          rw [hm] at hk
          simp only [Option.getD_none, List.nil_append] at hk hx'
          refine hk _ (RefR.shuts rfl ?_ hc' h)
          show _ = mset n ⟨d, 0⟩ (M.openS n)
          unfold DiskD.openS
          rw [if_pos hm, ← hp, ← hpp, mset_at hb2 _ x'.s, ← hx']
      · have hm : mget n M.files = some x.f := by rw [← hp, mget_at he hb]
        have hdl := data_le hM hm
        refine r_ite_f (by simp) ?_
        subst he
        refine ref_Append_s3 hM.left (by rw [List.length_append]; omega) hc hr h fun x' L' w hx' hc' h => ?_
        rw [hm] at hk
        simp only [Option.getD_some] at hk
        refine hk _ (RefR.shuts rfl ?_ hc' h)
        show _ = mset n ⟨x.f.data ++ d, x.f.last⟩ (M.openS n)
        unfold DiskD.openS
        rw [if_neg (by rw [hm]; simp), ← hp, mset_at hb _ x'.s, ← hx']
    have room : ∀ (i : Int) w, ¬ (mget n M.files = none ∧ 32 ≤ M.files.length) → ((∀ p ∈ fs, p.1 ≠ n) ∧ i = -1 ∨ ∃ l1 x l2, fs = l1 ++ (n, x) :: l2 ∧ (∀ p ∈ l1, p.1 ≠ n) ∧ i = (l1.length : Int)) → Holds B (blk m (.cells (mA M.a s) ty_argosyref03_Disk (0, 0)) :: SlC ty_argosyref03_File 3 s (List.flatMap rfF fs) :: stars (List.map poolB L) :: Γ) w →
        LdS (Holds B (blk m (.cells (mA M.a s) ty_argosyref03_Disk (0, 0)) :: SlC ty_argosyref03_File 3 s (List.flatMap rfF fs) :: stars (List.map poolB L) :: Γ)) ⟨m, 0, none⟩ (Value.int .i64) (fun t39 => ref03_Disk_Used.call (some ⟨m, 0, none⟩) fun t41 => Sv (Holds B (blk m (.cells (mA M.a s) ty_argosyref03_Disk (0, 0)) :: SlC ty_argosyref03_File 3 s (List.flatMap rfF fs) :: stars (List.map poolB L) :: Γ)) <| Ar (IntKind.wrap .i64 (t39 - t41)) fun t42 => ref03_Disk_Append.s2 k ⟨m, 0, none⟩ (bs n) data i (decide (t42 < (data.n : Int)))) w := by
      clear h
      intro i w hnf hi h
      refine r_ldS (x := M.a.room) rfl (by first | with_reducible exact M0 | with_reducible exact M1 | with_reducible exact M2 | with_reducible exact M3 | with_reducible exact M4 | with_reducible exact M5 | with_reducible exact M6 | with_reducible exact M7 | with_reducible exact M8 | with_reducible exact M9 | with_reducible exact M10 | with_reducible exact M11 | with_reducible exact M12) ?_ ?_
      · exact rfl
      refine ref_Used_spec (by omega) (by rw [hp]; omega) hc h ?_
      refine r_sv h ?_
      rw [hp]
      refine r_ar (e' := M.a.room - usedL M.files) (wrap64 (by omega) (by omega)) ?_
      refine s2 _ _ _ ?_ hi h
      rw [← hdn]
      by_cases hq : M.a.room - (usedL M.files : Int) < (d.length : Int)
      · rw [decide_eq_true hq, decide_eq_true (.inr hq)]
      · rw [decide_eq_false hq, decide_eq_false (by rintro (hh | hh); exact hnf hh; exact hq hh)]
    refine ref_At_spec (by omega) h (fun hno => ?_) (fun l1 x l2 he hb2 => ?_)
    · refine r_dr h ?_
      clear h
      intro w h
      refine r_withS h ?_
      refine r_ite_t rfl ?_
      try simp only [add_mk, Nat.zero_add, Nat.reduceAdd]
      refine r_ldS (x := s) rfl (by first | with_reducible exact M0 | with_reducible exact M1 | with_reducible exact M2 | with_reducible exact M3 | with_reducible exact M4 | with_reducible exact M5 | with_reducible exact M6 | with_reducible exact M7 | with_reducible exact M8 | with_reducible exact M9 | with_reducible exact M10 | with_reducible exact M11 | with_reducible exact M12) ?_ ?_
      · exact rfl
      have hn := rf_n h
      have hm : mget n M.files = none := by rw [← hp]; exact mget_none hno
      refine r_ite (fun hq => ?_) (fun hq => ?_)
      · simp only [decide_eq_true_eq] at hq
        exact s2 _ _ _ (decide_eq_true (.inl ⟨hm, by omega⟩)).symm (.inl ⟨hno, rfl⟩) h
      · simp only [decide_eq_false_iff_not] at hq
        exact room _ _ (fun hh => by omega) (.inl ⟨hno, rfl⟩) h
    · refine r_dr h ?_
      clear h
      intro w h
      refine r_withS h ?_
      refine r_ite_f (by simp) ?_
      have hm : mget n M.files = some x.f := by rw [← hp, mget_at he hb2]
      exact room _ _ (fun hh => by rw [hm] at hh; cases hh.1) (.inr ⟨l1, x, l2, he, hb2, rfl⟩) h
  have hsz := bs_size n
  refine r_ite (fun hq => ?_) (fun hq => ?_)
  · simp only [decide_eq_true_eq] at hq
    refine s1 _ ?_
    have : n = [] := List.length_eq_zero_iff.1 (by omega)
    unfold named
    simp [this]
  · simp only [decide_eq_false_iff_not] at hq
    refine s1 _ ?_
    have : n ≠ [] := by
      intro e
      have : n.length = 0 := by rw [e]; rfl
      omega
    unfold named
    rw [hsz]
    by_cases h16 : n.length ≤ 16
    · simp [this, h16]; omega
    · simp [this, h16]; omega

theorem ref_LimitR_spec {c : Int} {k : K} (h : Holds B (RefR m M :: Γ) w) (hk : ∀ w, Holds B (RefR m { M with a := { M.a with left := if -1 > c then -1 else c } } :: Γ) w → k w) : ref03_Disk_Limit.call (some ⟨m, 0, none⟩) c k w := by
  obtain ⟨s, fs, L, hp, hc, h⟩ := RefR.opens h
  exact ref_Limit_spec h fun w h => hk w (RefR.shuts rfl hp hc h)
theorem ref_NewR_spec {room : Int} {k : Option Addr → K} (h : Holds B Γ w) (hk : ∀ m w, Holds B (RefR m (DiskD.new room) :: Γ) w → k (some ⟨m, 0, none⟩) w) : ref03_New.call room k w :=
  ref_New_spec h fun m w h => hk m w (RefR.shuts (M := DiskD.new room) (fs := []) rfl rfl (fun _ hp => by cases hp) h)
end
end Go.Proofs.Ytgnkminakongkaa
