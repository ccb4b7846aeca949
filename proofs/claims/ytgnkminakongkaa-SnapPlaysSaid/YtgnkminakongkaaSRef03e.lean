/- The document's disk: Crash. -/
import Derived.Test.YtgnkminakongkaaSRef03d
--! use SRef03
--! short
namespace Go.Proofs.Ytgnkminakongkaa
open Go Go.Sep
set_option linter.unusedSimpArgs false
set_option linter.unusedVariables false
set_option maxRecDepth 100000
def crashG (ks : List Int) (fs : Files) : Files := fs.zipIdx.map fun p => (p.1.1, crashF ks p.2 p.1.2)
theorem crashG_snoc (ks : List Int) (fs : Files) (p : List UInt8 × FileD) : crashG ks (fs ++ [p]) = crashG ks fs ++ [(p.1, crashF ks fs.length p.2)] := by
  unfold crashG
  rw [List.zipIdx_append]
  simp
abbrev oA (room : Int) : DkA := ⟨room, -1, false⟩
section
variable {B w : World} {Γ : List HProp} {m : Nat} {a : DkA} {s : Sl} {fs : RFs} {L : PoolL} {n : List UInt8} {M : DiskD}

theorem ref_Crash_spec {keeps : Sl} {ks : List Int} {k : Option Addr → K} (hM : OkD M) (h : Holds B (RefR m M :: Γ) w) (hr : ∀ w, Holds B Γ w → RdC w keeps 1 (ks.map (Value.int .i64)))
    (hk : ∀ o w, Holds B (RefR o ⟨oA M.a.room, crashG ks M.files⟩ :: RefR m M :: Γ) w → k (some ⟨o, 0, none⟩) w) : ref03_Disk_Crash.call (some ⟨m, 0, none⟩) keeps k w := by
  have hkn : ks.length = keeps.n := by have := (hr w h.tail).len; simpa using this
  obtain ⟨s, fs, L, hp, hc, h⟩ := RefR.opens h
  have hfl : fs.length = M.files.length := by rw [← hp]; simp
  have hfew := hM.few
  have hn := rf_n h
  refine ref03_Disk_Crash_ok _ _ _ _ ?_
  unfold ref03_Disk_Crash
  refine r_nn rfl ?_
  try simp only [add_mk, Nat.zero_add, Nat.reduceAdd]
  refine r_ld (x := M.a.room) h rfl (by first | with_reducible exact M0 | with_reducible exact M1 | with_reducible exact M2 | with_reducible exact M3 | with_reducible exact M4 | with_reducible exact M5 | with_reducible exact M6 | with_reducible exact M7 | with_reducible exact M8 | with_reducible exact M9 | with_reducible exact M10 | with_reducible exact M11 | with_reducible exact M12) ?_ ?_
  · exact rfl
  refine r_new h ?_
  clear h
  intro o w h
  try simp only [add_mk, Nat.zero_add, Nat.reduceAdd]
  have h0 : Holds B (blk o (.cells (mA (oA M.a.room) (⟨none, 0, 0⟩ : Sl)) ty_argosyref03_Disk (0, 0)) :: SlC ty_argosyref03_File 3 (⟨none, 0, 0⟩ : Sl) (List.flatMap rfF ([] : RFs)) :: stars (List.map poolB ([] : PoolL)) :: (blk m (.cells (mA M.a s) ty_argosyref03_Disk (0, 0)) :: SlC ty_argosyref03_File 3 s (List.flatMap rfF fs) :: stars (List.map poolB L) :: Γ)) w := by
    replace h := (h.starsNil).nilSl ty_argosyref03_File 3
    replace h := P5 h
    replace h := P5 h
    replace h := P5 h
    replace h := P4 h
    replace h := P4 h
    replace h := P5 h
    try simp only [N1, N2, N3, N4, N5, N6, N7] at h
    exact h
  clear h
  refine LoopK.of (fun t w => ∃ (i : Nat) (so : Sl) (fo : RFs) (Lo : PoolL), t = (i : Int) ∧ i ≤ fs.length ∧ plainR fo = crashG ks (plainR (fs.take i)) ∧ CovA Lo fo ∧ Holds B (blk o (.cells (mA (oA M.a.room) so) ty_argosyref03_Disk (0, 0)) :: SlC ty_argosyref03_File 3 so (List.flatMap rfF fo) :: stars (List.map poolB Lo) :: (blk m (.cells (mA M.a s) ty_argosyref03_Disk (0, 0)) :: SlC ty_argosyref03_File 3 s (List.flatMap rfF fs) :: stars (List.map poolB L) :: Γ)) w) (fun t _ => ((s.n : Int) - t).toNat) ⟨0, _, _, _, rfl, by omega, rfl, (fun _ hp => by cases hp), h0⟩ ?_
  clear h0
  rintro t w ⟨i, so, fo, Lo, rfl, hi, hpo, hco, h⟩
  unfold ref03_Disk_Crash.b1
  try simp only [add_mk, Nat.zero_add, Nat.reduceAdd]
  refine r_ld (x := s) h rfl (by first | with_reducible exact M0 | with_reducible exact M1 | with_reducible exact M2 | with_reducible exact M3 | with_reducible exact M4 | with_reducible exact M5 | with_reducible exact M6 | with_reducible exact M7 | with_reducible exact M8 | with_reducible exact M9 | with_reducible exact M10 | with_reducible exact M11 | with_reducible exact M12) ?_ ?_
  · exact rfl
  refine r_ite (fun hb => ?_) (fun hb => ?_)
  · simp only [decide_eq_true_eq] at hb
    have hil : i < fs.length := by omega
    have hx : fs[i]? = some fs[i] := List.getElem?_eq_getElem hil
    have htk : fs.take (i + 1) = fs.take i ++ [fs[i]] := List.take_succ_eq_append_getElem hil
    generalize fs[i] = x at hx htk
    refine r_ld (x := s) h rfl (by first | with_reducible exact M0 | with_reducible exact M1 | with_reducible exact M2 | with_reducible exact M3 | with_reducible exact M4 | with_reducible exact M5 | with_reducible exact M6 | with_reducible exact M7 | with_reducible exact M8 | with_reducible exact M9 | with_reducible exact M10 | with_reducible exact M11 | with_reducible exact M12) ?_ ?_
    · exact rfl
    refine r_fidx (s := s) (fs := fs) (h.rdC (by first | with_reducible exact M0 | with_reducible exact M1 | with_reducible exact M2 | with_reducible exact M3 | with_reducible exact M4 | with_reducible exact M5 | with_reducible exact M6 | with_reducible exact M7 | with_reducible exact M8 | with_reducible exact M9 | with_reducible exact M10 | with_reducible exact M11 | with_reducible exact M12)) hx fun t h0 h1 h2 h3 => ?_
    refine r_ldN_of (cs := rfA x) rfl h3 ?_
    refine r_new h ?_
    clear h
    intro f7 w h
    try simp only [add_mk, Nat.zero_add, Nat.reduceAdd]
    first | refine T0 h rfl ?_ ?_ ?_ ?_ | refine T1 h rfl ?_ ?_ ?_ ?_ | refine T2 h rfl ?_ ?_ ?_ ?_ | refine T3 h rfl ?_ ?_ ?_ ?_ | refine T4 h rfl ?_ ?_ ?_ ?_ | refine T5 h rfl ?_ ?_ ?_ ?_ | refine T6 h rfl ?_ ?_ ?_ ?_ | refine T7 h rfl ?_ ?_ ?_ ?_ | refine T8 h rfl ?_ ?_ ?_ ?_
    · rfl
    · rfl
    · simp [flatV]
    clear h
    intro w h
    try simp only [N1, N2, N3, N4, N5, N6, N7] at h
    obtain ⟨g1, g2, g3, g4⟩ := cov_rd 6 h at6 (hc _ (List.mem_of_getElem? hx))
    have hxm : (x.1, x.2.f) ∈ M.files := by rw [← hp]; exact List.mem_map_of_mem (f := fun p : List UInt8 × RF => (p.1, p.2.f)) (List.mem_of_getElem? hx)
    have hxl := hM.last _ hxm
    have hxu := usedL_mem hxm
    have hu := hM.used
    have hro := hM.roomN
    simp only at hxl hxu
    have hkl := keepOf_le ks i x.2.f
    have hki : (kinds x.2.f : Int) = x.2.f.data.length - x.2.f.last + 1 := by unfold kinds; omega
    have hpn : (plainR fo).length = i := by rw [hpo]; unfold crashG; simp; omega
    have hfon : fo.length = i := by simpa using hpn
    have main : ∀ w, Holds B (blk f7 (.cells (rfA x) 89 (0, 0)) :: (blk o (.cells (mA (oA M.a.room) so) ty_argosyref03_Disk (0, 0)) :: SlC ty_argosyref03_File 3 so (List.flatMap rfF fo) :: stars (List.map poolB Lo) :: (blk m (.cells (mA M.a s) ty_argosyref03_Disk (0, 0)) :: SlC ty_argosyref03_File 3 s (List.flatMap rfF fs) :: stars (List.map poolB L) :: Γ))) w → ref03_Disk_Crash.s2 k (fun t w' => (∃ (i : Nat) (so : Sl) (fo : RFs) (Lo : PoolL), t = (i : Int) ∧ i ≤ fs.length ∧ plainR fo = crashG ks (plainR (fs.take i)) ∧ CovA Lo fo ∧ Holds B (blk o (.cells (mA (oA M.a.room) so) ty_argosyref03_Disk (0, 0)) :: SlC ty_argosyref03_File 3 so (List.flatMap rfF fo) :: stars (List.map poolB Lo) :: (blk m (.cells (mA M.a s) ty_argosyref03_Disk (0, 0)) :: SlC ty_argosyref03_File 3 s (List.flatMap rfF fs) :: stars (List.map poolB L) :: Γ)) w') ∧ ((s.n : Int) - t).toNat < ((s.n : Int) - (i : Int)).toNat) ⟨m, 0, none⟩ keeps ⟨o, 0, none⟩ (i : Int) ⟨f7, 0, none⟩ (keepOf ks i x.2.f : Int) w := by
      clear h
      intro w h
      unfold ref03_Disk_Crash.s2
      try simp only [add_mk, Nat.zero_add, Nat.reduceAdd]
      refine r_ld (x := (x.2.f.last : Int)) h rfl (by first | with_reducible exact M0 | with_reducible exact M1 | with_reducible exact M2 | with_reducible exact M3 | with_reducible exact M4 | with_reducible exact M5 | with_reducible exact M6 | with_reducible exact M7 | with_reducible exact M8 | with_reducible exact M9 | with_reducible exact M10 | with_reducible exact M11 | with_reducible exact M12) ?_ ?_
      · exact rfl
      refine r_ar (e' := ((x.2.f.last + keepOf ks i x.2.f : Nat) : Int)) (by rw [wrap64 (by omega) (by omega)]; omega) ?_
      refine r_dr h ?_
      clear h
      intro w h
      refine r_withS h ?_
      refine r_ldS (x := so) rfl (by first | with_reducible exact M0 | with_reducible exact M1 | with_reducible exact M2 | with_reducible exact M3 | with_reducible exact M4 | with_reducible exact M5 | with_reducible exact M6 | with_reducible exact M7 | with_reducible exact M8 | with_reducible exact M9 | with_reducible exact M10 | with_reducible exact M11 | with_reducible exact M12) ?_ ?_
      · exact rfl
      refine r_ldS (x := (bs x.1)) rfl (by first | with_reducible exact M0 | with_reducible exact M1 | with_reducible exact M2 | with_reducible exact M3 | with_reducible exact M4 | with_reducible exact M5 | with_reducible exact M6 | with_reducible exact M7 | with_reducible exact M8 | with_reducible exact M9 | with_reducible exact M10 | with_reducible exact M11 | with_reducible exact M12) ?_ ?_
      · exact rfl
      refine r_ldS (x := x.2.s) rfl (by first | with_reducible exact M0 | with_reducible exact M1 | with_reducible exact M2 | with_reducible exact M3 | with_reducible exact M4 | with_reducible exact M5 | with_reducible exact M6 | with_reducible exact M7 | with_reducible exact M8 | with_reducible exact M9 | with_reducible exact M10 | with_reducible exact M11 | with_reducible exact M12) ?_ ?_
      · exact rfl
      refine ⟨_, by omega, by omega, by omega, by omega, rfl, ?_⟩
      simp only [Int.toNat_natCast, show (0 : Int).toNat = 0 from rfl, cut0 g4, Nat.sub_zero]
      refine r_new h ?_
      clear h
      intro t66 w h
      try simp only [add_mk, Nat.zero_add, Nat.reduceAdd]
      refine r_sv h.tail ?_
      obtain ⟨g1, _⟩ := cov_rd 7 h at7 (hc _ (List.mem_of_getElem? hx))
      refine r_append (vs := []) (h.imp (blk_SlC rfl rfl)) (by kernel_rfl) (by kernel_rfl) (by' := 1) (by kernel_rfl) zero_ty_uint8 rfl (rdB_take (n := x.2.f.last + keepOf ks i x.2.f) g1 (by omega)) (byteV_flat _) (by simp only; omega) (by decide) fun e w h he _ => ?_
      simp only [List.nil_append] at h
      have hen : e.n = x.2.f.last + keepOf ks i x.2.f := by simp only at he; omega
      have hcap := h.slCap.2.1
      refine r_sv h.tail ?_
      refine r_bld1 rfl rfl ?_
      refine r_new h ?_
      clear h
      intro t74 w h
      try simp only [add_mk, Nat.zero_add, Nat.reduceAdd]
      refine r_sv h.tail.tail ?_
      have hsn : fo.length = so.n := by
        have := (h.pick 4 at4).slCap.1
        rw [flatMap_len rfF 3 rfF_len] at this
        omega
      have hxr := RdC.of_blk (n := 1) (esz := 3) h List.mem_cons_self (vs := rfF (x.1, (⟨crashF ks i x.2.f, e⟩ : RF))) rfl rfl 1
      refine r_append (h.pick 4 at4) (by kernel_rfl) (by kernel_rfl) (by' := 48) (by kernel_rfl) zero_ty_argosyref03_File rfl hxr (fun v hv => rf_flat [(x.1, (⟨crashF ks i x.2.f, e⟩ : RF))] v (by simpa using hv)) (by simp only; omega) (by decide) fun so' w h _ _ => ?_
      try simp only [N1, N2, N3, N4, N5, N6, N7] at h
      have e1 : fo.flatMap rfF ++ rfF (x.1, (⟨crashF ks i x.2.f, e⟩ : RF)) = (fo ++ [(x.1, (⟨crashF ks i x.2.f, e⟩ : RF))]).flatMap rfF := by simp
      rw [e1] at h
      first | refine S0 h rfl ?_ rfl ?_ | refine S1 h rfl ?_ rfl ?_ | refine S2 h rfl ?_ rfl ?_ | refine S3 h rfl ?_ rfl ?_ | refine S4 h rfl ?_ rfl ?_ | refine S5 h rfl ?_ rfl ?_ | refine S6 h rfl ?_ rfl ?_ | refine S7 h rfl ?_ rfl ?_ | refine S8 h rfl ?_ rfl ?_
      · first | exact Nat.lt_of_ble_eq_true rfl | (simp; done) | (simp; omega)
      clear h
      intro w h
      try simp only [N1, N2, N3, N4, N5, N6, N7] at h
      replace h := P8 h
      replace h := P8 h
      replace h := P8 h
      replace h := P8 h
      replace h := P4 h
      replace h := P8 h
      replace h := P7 h
      replace h := D7 h
      replace h := D7 h
      try simp only [N1, N2, N3, N4, N5, N6, N7] at h
      replace h := pool_push (a := oA M.a.room) h
      refine r_add64 (by omega) (by omega) ?_
      refine ⟨⟨i + 1, so', _, _, by omega, by omega, ?_, ?_, h⟩, by omega⟩
      · rw [htk]
        simp only [plainR, List.map_append, List.map_cons, List.map_nil]
        rw [crashG_snoc]
        have : (fs.take i).length = i := by rw [List.length_take]; omega
        rw [List.length_map, this]
        exact congrArg (· ++ _) hpo
      · intro p hp
        rcases List.mem_append.1 hp with hp | hp
        · exact Cov.grow (hco p hp)
        · simp only [List.mem_singleton] at hp
          subst hp
          exact Cov.here (by show ((x.2.f.data.take _).length = e.n); rw [List.length_take, hen]; omega) hcap
    try simp only [add_mk, Nat.zero_add, Nat.reduceAdd]
    refine r_ld (x := x.2.s) h rfl (by first | with_reducible exact M0 | with_reducible exact M1 | with_reducible exact M2 | with_reducible exact M3 | with_reducible exact M4 | with_reducible exact M5 | with_reducible exact M6 | with_reducible exact M7 | with_reducible exact M8 | with_reducible exact M9 | with_reducible exact M10 | with_reducible exact M11 | with_reducible exact M12) ?_ ?_
    · exact rfl
    refine r_ld (x := (x.2.f.last : Int)) h rfl (by first | with_reducible exact M0 | with_reducible exact M1 | with_reducible exact M2 | with_reducible exact M3 | with_reducible exact M4 | with_reducible exact M5 | with_reducible exact M6 | with_reducible exact M7 | with_reducible exact M8 | with_reducible exact M9 | with_reducible exact M10 | with_reducible exact M11 | with_reducible exact M12) ?_ ?_
    · exact rfl
    refine r_ar (e' := (x.2.f.data.length : Int) - x.2.f.last) (by rw [wrap64 (by omega) (by omega)]; omega) ?_
    refine r_ar (e' := (kinds x.2.f : Int)) (by rw [wrap64 (by omega) (by omega)]; omega) ?_
    refine r_ite (fun hb2 => ?_) (fun hb2 => ?_)
    · simp only [decide_eq_true_eq] at hb2
      have hkx : ks[i]? = some ks[i] := List.getElem?_eq_getElem (by omega)
      generalize ks[i] = kv at hkx
      refine r_idx1 (hr _ h.tail.tail.tail.tail.tail.tail.tail) hkx ?_
      have hkp : (0 : Int) < kinds x.2.f := by omega
      have hb1 := Int.tmod_lt_of_pos kv hkp
      have hb2 : -(kinds x.2.f : Int) < kv.tmod (kinds x.2.f) := by
        have := Int.tmod_lt_of_pos (-kv) hkp
        rw [Int.neg_tmod] at this
        omega
      refine r_cd (by omega) ?_
      refine r_ar rfl ?_
      have hkeep : (keepOf ks i x.2.f : Int) = (kv.tmod (kinds x.2.f) + kinds x.2.f).tmod (kinds x.2.f) := by
        have hnn := Int.tmod_nonneg (kinds x.2.f : Int) (show 0 ≤ kv.tmod (kinds x.2.f) + kinds x.2.f by omega)
        unfold keepOf
        rw [hkx]
        simp only
        omega
      have em : (kv.tmod (kinds x.2.f) + kinds x.2.f).tmod (kinds x.2.f) = (kv.tmod (kinds x.2.f) + kinds x.2.f).emod (kinds x.2.f) := by
        rw [Int.tmod_eq_emod_of_nonneg (by omega)]; rfl
      refine r_ite (fun hq => ?_) (fun hq => ?_)
      · simp only [decide_eq_true_eq] at hq
        refine r_ar (e' := (keepOf ks i x.2.f : Int)) ?_ (main _ h)
        rw [wrap64 (by omega) (by omega), hkeep, em]
        exact (Int.emod_eq_of_lt (by omega) (by omega)).symm
      · simp only [decide_eq_false_iff_not] at hq
        have e3 : kv.tmod (kinds x.2.f) = (keepOf ks i x.2.f : Int) := by
          rw [hkeep, em]
          have h9 : (kv.tmod (kinds x.2.f) + kinds x.2.f).emod (kinds x.2.f) = (kv.tmod (kinds x.2.f)).emod (kinds x.2.f) := Int.add_emod_right _ _
          rw [h9]
          exact (Int.emod_eq_of_lt (by omega) hb1).symm
        rw [e3]
        exact main _ h
    · simp only [decide_eq_false_iff_not] at hb2
      have hk0 : keepOf ks i x.2.f = 0 := by unfold keepOf; rw [List.getElem?_eq_none (by omega)]
      rw [hk0] at main
      exact main _ h
  · simp only [decide_eq_false_iff_not] at hb
    have : i = fs.length := by omega
    subst this
    rw [List.take_length, hp] at hpo
    replace h := P2 h
    replace h := P2 h
    replace h := P2 h
    replace h := P5 h
    replace h := P5 h
    replace h := P5 h
    try simp only [N1, N2, N3, N4, N5, N6, N7] at h
    have h1 := RefR.shuts (M := M) rfl hp hc h
    replace h := h1
    replace h := P3 h
    replace h := P3 h
    replace h := P3 h
    try simp only [N1, N2, N3, N4, N5, N6, N7] at h
    exact hk o _ (RefR.shuts (M := ⟨oA M.a.room, crashG ks M.files⟩) rfl hpo hco h)
end
end Go.Proofs.Ytgnkminakongkaa
