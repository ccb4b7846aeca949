/- The disk: Names, Crash. -/
import Derived.Test.YtdpepgjbambinaaSDisk4
namespace Go.Proofs.Ytdpepgjbambinaa
open Go Go.Sep
set_option linter.unusedSimpArgs false
set_option linter.unusedVariables false
set_option maxRecDepth 100000

def DiskD.names (D : DiskD) : List (List UInt8) := sortL (D.files.map Prod.fst)
def DiskD.file (D : DiskD) (n : List UInt8) : FileD := (mget n D.files).getD ⟨[], 0⟩
def kinds (f : FileD) : Nat := f.data.length - f.last + 1
def keepOf (keeps : List Int) (i : Nat) (f : FileD) : Nat := match keeps[i]? with
  | none => 0
  | some k => ((k.tmod (kinds f) + kinds f).tmod (kinds f)).toNat
theorem keepOf_le (keeps : List Int) (i : Nat) (f : FileD) : keepOf keeps i f ≤ f.data.length - f.last := by
  unfold keepOf
  split
  · exact Nat.zero_le _
  · rename_i k _
    have hk : (0 : Int) < kinds f := by unfold kinds; omega
    have := Int.tmod_lt_of_pos (k.tmod (kinds f) + kinds f) hk
    unfold kinds at *
    omega
def crashF (keeps : List Int) (i : Nat) (f : FileD) : FileD := ⟨f.data.take (f.last + keepOf keeps i f), f.last + keepOf keeps i f⟩
def crashL (keeps : List Int) (g : List UInt8 → FileD) (ns : List (List UInt8)) : Files := ns.zipIdx.map fun p => (p.1, crashF keeps p.2 (g p.1))
def DiskD.crash (D : DiskD) (keeps : List Int) : DiskD := ⟨⟨D.a.room, -1, false⟩, crashL keeps D.file D.names⟩
theorem crashL_fst (keeps : List Int) (g : List UInt8 → FileD) (ns : List (List UInt8)) : (crashL keeps g ns).map Prod.fst = ns := by
  unfold crashL
  rw [List.map_map]
  have : (Prod.fst ∘ fun p : List UInt8 × Nat => (p.1, crashF keeps p.2 (g p.1))) = Prod.fst := rfl
  rw [this, List.zipIdx_map_fst]
theorem crashL_len (keeps : List Int) (g : List UInt8 → FileD) (ns : List (List UInt8)) : (crashL keeps g ns).length = ns.length := by simp [crashL]
theorem crashL_snoc (keeps : List Int) (g : List UInt8 → FileD) (ns : List (List UInt8)) (n : List UInt8) : crashL keeps g (ns ++ [n]) = crashL keeps g ns ++ [(n, crashF keeps ns.length (g n))] := by
  unfold crashL
  rw [List.zipIdx_append, List.map_append]
  simp
theorem mget_mem {α β : Type} [DecidableEq α] {k : α} {x : β} {m : List (α × β)} (h : mget k m = some x) : (k, x) ∈ m := by
  obtain ⟨l1, l2, h1, _⟩ := mget_split h
  rw [h1]; simp
theorem mget_of_mem {α β : Type} [DecidableEq α] {p : α × β} : ∀ {m : List (α × β)}, (m.map Prod.fst).Nodup → p ∈ m → mget p.1 m = some p.2
  | [], _, h => by cases h
  | q :: m, hn, h => by
    simp only [List.map_cons, List.nodup_cons] at hn
    rcases List.mem_cons.1 h with rfl | h
    · simp [mget]
    · have : p.1 ≠ q.1 := fun e => hn.1 (by rw [← e]; exact List.mem_map_of_mem h)
      simp only [mget, if_neg this]
      exact mget_of_mem hn.2 h
theorem mget_some_of_key {α β : Type} [DecidableEq α] {k : α} {m : List (α × β)} (h : k ∈ m.map Prod.fst) : ∃ x, mget k m = some x := by
  cases hm : mget k m with
  | some x => exact ⟨x, rfl⟩
  | none =>
    obtain ⟨p, hp, rfl⟩ := List.mem_map.1 h
    exact absurd rfl (mget_none_mem hm p hp)
theorem names_mem {D : DiskD} {n : List UInt8} : n ∈ D.names ↔ n ∈ D.files.map Prod.fst := sortL_mem
theorem names_len (D : DiskD) : D.names.length = D.files.length := by unfold DiskD.names; rw [sortL_len]; simp
theorem names_nodup {D : DiskD} (h : OkD D) : D.names.Nodup := (List.mergeSort_perm _ _).nodup_iff.2 h.nodup
def sumL (g : List UInt8 → FileD) : List (List UInt8) → Nat
  | [] => 0
  | n :: ns => (g n).data.length + sumL g ns
theorem sumL_perm {g : List UInt8 → FileD} {a b : List (List UInt8)} (h : a.Perm b) : sumL g a = sumL g b := by
  induction h with
  | nil => rfl
  | cons x _ ih => simp only [sumL, ih]
  | swap x y l => simp only [sumL]; omega
  | trans _ _ ih1 ih2 => rw [ih1, ih2]
theorem sumL_files {D : DiskD} (h : OkD D) : sumL D.file (D.files.map Prod.fst) = usedL D.files := by
  have key : ∀ fs : Files, (∀ p ∈ fs, D.file p.1 = p.2) → sumL D.file (fs.map Prod.fst) = usedL fs := by
    intro fs
    induction fs with
    | nil => intro _; rfl
    | cons p fs ih =>
      intro hp
      simp only [List.map_cons, sumL, usedL, hp p List.mem_cons_self, ih (fun q hq => hp q (List.mem_cons_of_mem _ hq))]
  refine key _ fun p hp => ?_
  unfold DiskD.file
  rw [mget_of_mem h.nodup hp]; rfl
theorem crashL_used (keeps : List Int) (g : List UInt8 → FileD) : ∀ (ns : List (List UInt8)) (i : Nat), usedL ((ns.zipIdx i).map fun p => (p.1, crashF keeps p.2 (g p.1))) ≤ sumL g ns
  | [], _ => Nat.le_refl _
  | n :: ns, i => by
    have := crashL_used keeps g ns (i + 1)
    simp only [List.zipIdx_cons, List.map_cons, usedL, sumL, crashF, List.length_take] at this ⊢
    omega
theorem file_last {D : DiskD} (h : OkD D) (n : List UInt8) : (D.file n).last ≤ (D.file n).data.length := by
  unfold DiskD.file
  cases hm : mget n D.files with
  | none => simp
  | some f => exact (data_le h hm).2
theorem OkD.crash {D : DiskD} (h : OkD D) (keeps : List Int) : OkD (D.crash keeps) := by
  have hnd := names_nodup h
  refine ⟨h.room1, h.roomN, ?_, ?_, ⟨show (-9223372036854775808 : Int) < -1 by decide, show (-1 : Int) ≤ 9223372036854775807 by decide⟩, ?_, ?_⟩
  · have h1 := crashL_used keeps D.file D.names 0
    have h2 : sumL D.file D.names = usedL D.files := (sumL_perm (List.mergeSort_perm _ _)).trans (sumL_files h)
    have h3 := h.used
    simp only [DiskD.crash, crashL]
    omega
  · simp only [DiskD.crash, crashL_len, names_len]; exact h.few
  · intro p hp
    simp only [DiskD.crash, crashL] at hp
    obtain ⟨q, _, rfl⟩ := List.mem_map.1 hp
    have h1 := keepOf_le keeps q.2 (D.file q.1)
    have h2 := file_last h q.1
    simp only [crashF, List.length_take]
    omega
  · simp only [DiskD.crash, crashL_fst]; exact hnd

theorem at10 {a0 a1 a2 a3 a4 a5 a6 a7 a8 a9 x : HProp} {l : List HProp} : (a0 :: a1 :: a2 :: a3 :: a4 :: a5 :: a6 :: a7 :: a8 :: a9 :: x :: l)[10]? = some x := rfl
theorem at11 {a0 a1 a2 a3 a4 a5 a6 a7 a8 a9 b0 x : HProp} {l : List HProp} : (a0 :: a1 :: a2 :: a3 :: a4 :: a5 :: a6 :: a7 :: a8 :: a9 :: b0 :: x :: l)[11]? = some x := rfl
section
variable {B w : World} {Γ : List HProp}
theorem names_spec {d : Nat} {D : DiskD} {k : Sl → K} (hD : OkD D) (h : Holds B (DiskR d D :: Γ) w) (hk : ∀ s w, Holds B (SlS s D.names :: DiskR d D :: Γ) w → k s w) : disk_Disk_Names.call (some ⟨d, 0, none⟩) k w := by
  obtain ⟨mb, fs, hp, h⟩ := DiskR.opens h
  have hfl : fs.length = D.files.length := by rw [← hp]; simp
  have hfew := hD.few
  refine disk_Disk_Names_ok _ _ _ ?_
  unfold disk_Disk_Names
  replace h := DiskF.opens h
  refine r_nn rfl ?_
  try simp only [add_mk, Nat.zero_add, Nat.reduceAdd]
  refine r_ld (x := (some mb)) h rfl (by first | with_reducible exact M0 | with_reducible exact M1 | with_reducible exact M2 | with_reducible exact M3 | with_reducible exact M4 | with_reducible exact M5 | with_reducible exact M6 | with_reducible exact M7 | with_reducible exact M8 | with_reducible exact M9 | with_reducible exact M10 | with_reducible exact M11 | with_reducible exact M12) ?_ ?_
  · exact rfl
  replace h := P2 h
  replace h := P1 h
  replace h := P2 h
  try simp only [N1, N2, N3, N4, N5, N6, N7] at h
  refine sorted_keys_spec (by omega) h fun s w h => ?_
  have e : fs.map Prod.fst = D.files.map Prod.fst := by rw [← hp]; simp [plainF]
  rw [e] at h
  replace h := P3 h
  replace h := P2 h
  replace h := P3 h
  try simp only [N1, N2, N3, N4, N5, N6, N7] at h
  exact hk s _ (DiskR.shuts rfl hp (DiskF.shuts h)).swap

theorem crash_spec {d : Nat} {D : DiskD} {keeps : Sl} {ks : List Int} {k : Option Addr → K} (hD : OkD D) (h : Holds B (DiskR d D :: Γ) w) (hr : ∀ w, Holds B Γ w → RdC w keeps 1 (ks.map (Value.int .i64)))
    (hk : ∀ o w, Holds B (DiskR o (D.crash ks) :: DiskR d D :: Γ) w → k (some ⟨o, 0, none⟩) w) : disk_Disk_Crash.call (some ⟨d, 0, none⟩) keeps k w := by
  have hkn : ks.length = keeps.n := by have := (hr w h.tail).len; simpa using this
  obtain ⟨mb, fs, hp, h⟩ := DiskR.opens h
  refine disk_Disk_Crash_ok _ _ _ _ ?_
  unfold disk_Disk_Crash
  replace h := DiskF.opens h
  refine r_nn rfl ?_
  refine r_ld (x := D.a.room) h rfl (by first | with_reducible exact M0 | with_reducible exact M1 | with_reducible exact M2 | with_reducible exact M3 | with_reducible exact M4 | with_reducible exact M5 | with_reducible exact M6 | with_reducible exact M7 | with_reducible exact M8 | with_reducible exact M9 | with_reducible exact M10 | with_reducible exact M11 | with_reducible exact M12) ?_ ?_
  · exact rfl
  refine r_mkMap (d := .string) (E := ty_p_disk_file) (enc := strV) (cV := fV) h fun mo w h => ?_
  refine r_new h ?_
  clear h
  intro out w h
  try simp only [add_mk, Nat.zero_add, Nat.reduceAdd]
  replace h := P1 h
  replace h := P1 h
  replace h := P4 h
  replace h := P4 h
  replace h := P4 h
  try simp only [N1, N2, N3, N4, N5, N6, N7] at h
  have h1 := DiskR.shuts (D := D) rfl hp (DiskF.shuts h)
  refine names_spec hD h1 fun t20 w h => ?_
  clear h1
  have hnl := names_len D
  have hfew := hD.few
  have hnd := names_nodup hD
  have hO : Holds B (DiskR out ⟨⟨D.a.room, -1, false⟩, crashL ks D.file (D.names.take 0)⟩ :: SlS t20 D.names :: DiskR d D :: Γ) w := by
    have h5 := h.starsNil
    replace h := h5
    replace h := P2 h
    replace h := P2 h
    replace h := P2 h
    replace h := P4 h
    replace h := P4 h
    try simp only [N1, N2, N3, N4, N5, N6, N7] at h
    exact DiskR.shuts (D := ⟨⟨D.a.room, -1, false⟩, _⟩) (mb := mo) (fs := []) rfl rfl (DiskF.shuts h)
  clear h
  have hsn : D.names.length = t20.n := by have := (hO.pick 1 at1).slCap.1; simpa using this
  refine LoopK.of (fun t w => ∃ i : Nat, t = (i : Int) ∧ i ≤ D.names.length ∧ Holds B (DiskR out ⟨⟨D.a.room, -1, false⟩, crashL ks D.file (D.names.take i)⟩ :: SlS t20 D.names :: DiskR d D :: Γ) w) (fun t _ => ((t20.n : Int) - t).toNat) ⟨0, rfl, by omega, hO⟩ ?_
  clear hO hp
  rintro t w ⟨i, rfl, hi, h⟩
  unfold disk_Disk_Crash.b1
  refine r_ite (fun hb => ?_) (fun hb => ?_)
  · simp only [decide_eq_true_eq] at hb
    have hx : D.names[i]? = some D.names[i] := List.getElem?_eq_getElem (by omega)
    generalize hN : D.names[i] = n at hx
    have hnm : n ∈ D.files.map Prod.fst := names_mem.1 (List.mem_of_getElem? hx)
    have hrd : RdC w t20 1 ((D.names.map bs).map Value.string) := by
      have := h.rdC (E := ty_string) (esz := 1) (s := t20) (vs := D.names.map strV) (List.mem_cons_of_mem _ List.mem_cons_self)
      rw [List.map_map]
      exact this
    refine r_idx1 hrd (x := bs n) (by rw [List.getElem?_map, hx]; rfl) ?_
    replace h := P1 h
    replace h := P1 h
    replace h := P2 h
    try simp only [N1, N2, N3, N4, N5, N6, N7] at h
    obtain ⟨mb, fs, hp, h⟩ := DiskR.opens h
    replace h := DiskF.opens h
    try simp only [add_mk, Nat.zero_add, Nat.reduceAdd]
    refine r_ld (x := (some mb)) h rfl (by first | with_reducible exact M0 | with_reducible exact M1 | with_reducible exact M2 | with_reducible exact M3 | with_reducible exact M4 | with_reducible exact M5 | with_reducible exact M6 | with_reducible exact M7 | with_reducible exact M8 | with_reducible exact M9 | with_reducible exact M10 | with_reducible exact M11 | with_reducible exact M12) ?_ ?_
    · exact rfl
    refine r_file1 1 h at1 ?_
    obtain ⟨f, hf⟩ := mget_some_of_key hnm
    have hfx : ∃ x, mget n fs = some x ∧ x.f = f := by
      rw [← hp, mget_plain] at hf
      cases hm : mget n fs with
      | none => rw [hm] at hf; cases hf
      | some x => rw [hm] at hf; simp only [Option.map_some, Option.some.injEq] at hf; exact ⟨x, rfl, hf⟩
    obtain ⟨x, hx2, rfl⟩ := hfx
    have hDf : D.file n = x.f := by unfold DiskD.file; rw [hf]; rfl
    have hdl := data_le hD hf
    rw [hx2]
    have hkl := keepOf_le ks i x.f
    have main : ∀ w, Holds B (DiskF d mb D.a fs :: DiskR out ⟨⟨D.a.room, -1, false⟩, crashL ks D.file (D.names.take i)⟩ :: SlS t20 D.names :: Γ) w →
        disk_Disk_Crash.s2 k (fun t w' => (∃ i : Nat, t = (i : Int) ∧ i ≤ D.names.length ∧ Holds B (DiskR out ⟨⟨D.a.room, -1, false⟩, crashL ks D.file (D.names.take i)⟩ :: SlS t20 D.names :: DiskR d D :: Γ) w') ∧ ((t20.n : Int) - t).toNat < ((t20.n : Int) - (i : Int)).toNat) ⟨d, 0, none⟩ keeps ⟨out, 0, none⟩ (bs n) (some ⟨x.p, 0, none⟩) (keepOf ks i x.f : Int) t20 (t20.n : Int) (i : Int) w := by
      intro w h
      unfold disk_Disk_Crash.s2
      refine r_nn rfl ?_
      obtain ⟨l1, l2, e1, hms, _⟩ := mget_split hx2
      rw [e1] at h hp
      replace h := diskF_take h
      try simp only [add_mk, Nat.zero_add, Nat.reduceAdd]
      refine r_ld (x := (x.f.last : Int)) h rfl (by first | with_reducible exact M0 | with_reducible exact M1 | with_reducible exact M2 | with_reducible exact M3 | with_reducible exact M4 | with_reducible exact M5 | with_reducible exact M6 | with_reducible exact M7 | with_reducible exact M8 | with_reducible exact M9 | with_reducible exact M10 | with_reducible exact M11 | with_reducible exact M12) ?_ ?_
      · exact rfl
      refine r_ar (e' := ((x.f.last + keepOf ks i x.f : Nat) : Int)) (by rw [wrap64 (by omega) (by omega)]; omega) ?_
      replace h := P7 h
      replace h := P6 h
      replace h := P6 h
      replace h := P6 h
      replace h := P6 h
      replace h := P6 h
      replace h := P6 h
      replace h := P7 h
      try simp only [N1, N2, N3, N4, N5, N6, N7] at h
      obtain ⟨mo, fo, hpo, h⟩ := DiskR.opens h
      replace h := DiskF.opens h
      have hxs := Bytes.len (h.pick 4 at4)
      have hsc := (h.pick 4 at4).slCap
      refine r_dr h ?_
      clear h
      intro w h
      refine r_withS h ?_
      try simp only [add_mk, Nat.zero_add, Nat.reduceAdd]
      refine r_ldS (x := (some mo)) rfl (by first | with_reducible exact M0 | with_reducible exact M1 | with_reducible exact M2 | with_reducible exact M3 | with_reducible exact M4 | with_reducible exact M5 | with_reducible exact M6 | with_reducible exact M7 | with_reducible exact M8 | with_reducible exact M9 | with_reducible exact M10 | with_reducible exact M11 | with_reducible exact M12) ?_ ?_
      · exact rfl
      refine r_ldS (x := x.s) rfl (by first | with_reducible exact M0 | with_reducible exact M1 | with_reducible exact M2 | with_reducible exact M3 | with_reducible exact M4 | with_reducible exact M5 | with_reducible exact M6 | with_reducible exact M7 | with_reducible exact M8 | with_reducible exact M9 | with_reducible exact M10 | with_reducible exact M11 | with_reducible exact M12) ?_ ?_
      · exact rfl
      refine ⟨_, by omega, by omega, by omega, by omega, rfl, ?_⟩
      simp only [Int.toNat_natCast, show (0 : Int).toNat = 0 from rfl, cut0 hsc.2.2.1, Nat.sub_zero]
      have htl : (x.f.data.take (x.f.last + keepOf ks i x.f)).length ≤ 1000000000 := by simp; omega
      refine slices_Clone_spec (xs := x.f.data.take (x.f.last + keepOf ks i x.f)) h (fun w h => rdB_take (Bytes.rd (s := x.s) (xs := x.f.data) h (by first | with_reducible exact M0 | with_reducible exact M1 | with_reducible exact M2 | with_reducible exact M3 | with_reducible exact M4 | with_reducible exact M5 | with_reducible exact M6 | with_reducible exact M7 | with_reducible exact M8 | with_reducible exact M9 | with_reducible exact M10 | with_reducible exact M11 | with_reducible exact M12)) (by omega)) htl fun t75 w h _ => ?_
      refine r_sv h.tail ?_
      refine r_new h ?_
      clear h
      intro t78 w h
      try simp only [add_mk, Nat.zero_add, Nat.reduceAdd]
      refine r_sv h.tail.tail ?_
      replace h := P10 h
      replace h := P10 h
      replace h := P10 h
      replace h := P10 h
      replace h := P10 h
      replace h := P10 h
      replace h := P10 h
      replace h := P9 h
      replace h := P9 h
      replace h := P9 h
      replace h := P10 h
      try simp only [N1, N2, N3, N4, N5, N6, N7] at h
      refine r_upd (enc := strV) (cV := fV) (a := n) (v := (⟨crashF ks i x.f, t78, t75⟩ : FileX)) mapF keyE_str h fun w h => ?_
      replace h := P10 h
      replace h := P10 h
      replace h := P10 h
      replace h := P10 h
      replace h := P10 h
      replace h := P10 h
      replace h := P6 h
      replace h := P9 h
      replace h := P10 h
      replace h := P10 h
      replace h := P10 h
      try simp only [N1, N2, N3, N4, N5, N6, N7] at h
      replace h := files_set (n := n) (x := (⟨crashF ks i x.f, t78, t75⟩ : FileX)) h
      replace h := P8 h
      replace h := P8 h
      replace h := P8 h
      replace h := P8 h
      replace h := P8 h
      replace h := P8 h
      replace h := P6 h
      replace h := P8 h
      replace h := P8 h
      try simp only [N1, N2, N3, N4, N5, N6, N7] at h
      have hout := DiskR.shuts (D := ⟨⟨D.a.room, -1, false⟩, crashL ks D.file (D.names.take (i + 1))⟩) (a := ⟨D.a.room, -1, false⟩) (mb := mo) (fs := mset n (⟨crashF ks i x.f, t78, t75⟩ : FileX) fo) rfl (by
        show plainF (mset n (⟨crashF ks i x.f, t78, t75⟩ : FileX) fo) = crashL ks D.file (D.names.take (i + 1))
        have e2 := (mset_map (fun x : FileX => x.f) n (⟨crashF ks i x.f, t78, t75⟩ : FileX) fo).symm
        have e3 : plainF (mset n (⟨crashF ks i x.f, t78, t75⟩ : FileX) fo) = mset n (crashF ks i x.f) (plainF fo) := e2
        rw [e3, hpo]
        have hlt : i < D.names.length := by omega
        have e4 : D.names.take (i + 1) = D.names.take i ++ [n] := by rw [List.take_succ_eq_append_getElem hlt, hN]
        rw [e4, crashL_snoc, List.length_take, Nat.min_eq_left (by omega), hDf]
        refine mset_none ?_
        cases hm : mget n (crashL ks D.file (D.names.take i)) with
        | none => rfl
        | some y =>
          exfalso
          have h1 := List.mem_map_of_mem (f := Prod.fst) (mget_mem hm)
          rw [crashL_fst] at h1
          rw [← List.take_append_drop i D.names, List.nodup_append] at hnd
          have h2 : n ∈ D.names.drop i := by
            rw [← hN]
            exact List.mem_of_getElem? (i := 0) (by rw [List.getElem?_drop]; simp [List.getElem?_eq_getElem hlt])
          exact hnd.2.2 n h1 n h2 rfl) (DiskF.shuts h)
      refine r_add64 (by omega) (by omega) ?_
      refine ⟨⟨i + 1, by omega, by omega, ?_⟩, by omega⟩
      replace h := hout
      replace h := P7 h
      replace h := P1 h
      replace h := P7 h
      replace h := P7 h
      replace h := P7 h
      replace h := P7 h
      replace h := P7 h
      replace h := P7 h
      try simp only [N1, N2, N3, N4, N5, N6, N7] at h
      have h6 := DiskR.shuts (D := D) rfl hp (diskF_put h)
      replace h := h6
      replace h := P2 h
      replace h := P2 h
      try simp only [N1, N2, N3, N4, N5, N6, N7] at h
      exact h
    refine r_ite (fun hb2 => ?_) (fun hb2 => ?_)
    · simp only [decide_eq_true_eq] at hb2
      have hkx : ks[i]? = some ks[i] := List.getElem?_eq_getElem (by omega)
      generalize ks[i] = kv at hkx
      refine r_dr h ?_
      clear h
      intro w h
      refine r_nn rfl ?_
      obtain ⟨l1, l2, e1, hms, _⟩ := mget_split hx2
      rw [e1] at h hp
      replace h := diskF_take (DiskF.shuts h)
      have hxs := Bytes.len h.tail
      try simp only [add_mk, Nat.zero_add, Nat.reduceAdd]
      refine r_ld (x := x.s) h rfl (by first | with_reducible exact M0 | with_reducible exact M1 | with_reducible exact M2 | with_reducible exact M3 | with_reducible exact M4 | with_reducible exact M5 | with_reducible exact M6 | with_reducible exact M7 | with_reducible exact M8 | with_reducible exact M9 | with_reducible exact M10 | with_reducible exact M11 | with_reducible exact M12) ?_ ?_
      · exact rfl
      refine r_ld (x := (x.f.last : Int)) h rfl (by first | with_reducible exact M0 | with_reducible exact M1 | with_reducible exact M2 | with_reducible exact M3 | with_reducible exact M4 | with_reducible exact M5 | with_reducible exact M6 | with_reducible exact M7 | with_reducible exact M8 | with_reducible exact M9 | with_reducible exact M10 | with_reducible exact M11 | with_reducible exact M12) ?_ ?_
      · exact rfl
      have hki : (kinds x.f : Int) = x.f.data.length - x.f.last + 1 := by unfold kinds; omega
      refine r_ar (e' := (x.f.data.length : Int) - x.f.last) (by rw [wrap64 (by omega) (by omega)]; omega) ?_
      refine r_ar (e' := (kinds x.f : Int)) (by rw [wrap64 (by omega) (by omega)]; omega) ?_
      have hrk := hr _ h.tail.tail.tail.tail.tail.tail.tail.tail
      refine r_idx1 hrk hkx ?_
      have hkp : (0 : Int) < kinds x.f := by omega
      have hb1 := Int.tmod_lt_of_pos kv hkp
      have hb2 : -(kinds x.f : Int) < kv.tmod (kinds x.f) := by
        have := Int.tmod_lt_of_pos (-kv) hkp
        rw [Int.neg_tmod] at this
        omega
      refine r_cd (by omega) ?_
      refine r_ar rfl ?_
      refine r_ar (e' := kv.tmod (kinds x.f) + kinds x.f) (wrap64 (by omega) (by omega)) ?_
      refine r_cd (by omega) ?_
      have hnn := Int.tmod_nonneg (kinds x.f : Int) (show 0 ≤ kv.tmod (kinds x.f) + kinds x.f by omega)
      refine r_ar (e' := (keepOf ks i x.f : Int)) (by unfold keepOf; rw [hkx]; simp only; omega) ?_
      have h7 := diskF_put h
      rw [← e1] at h7
      exact main _ h7
    · simp only [decide_eq_false_iff_not] at hb2
      have hk0 : keepOf ks i x.f = 0 := by unfold keepOf; rw [List.getElem?_eq_none (by omega)]
      rw [hk0] at main
      exact main _ (DiskF.shuts h)
  · simp only [decide_eq_false_iff_not] at hb
    have hti : D.names.take i = D.names := List.take_of_length_le (by omega)
    rw [hti] at h
    exact hk out _ (h.del 1 at1)
theorem used_specR {d : Nat} {D : DiskD} {k : Int → K} (hD : OkD D) (h : Holds B (DiskR d D :: Γ) w) (hk : ∀ w, Holds B (DiskR d D :: Γ) w → k (usedL D.files : Int) w) : disk_Disk_Used.call (some ⟨d, 0, none⟩) k w := by
  obtain ⟨mb, fs, hp, h⟩ := DiskR.opens h
  have hux : usedX fs = usedL D.files := by rw [usedX_plain, hp]
  have hus := hD.used
  have hro := hD.roomN
  refine used_spec (by omega) h fun w h => ?_
  rw [hux]
  exact hk _ (DiskR.shuts rfl hp h)
/-- A name of a slice of names. -/
theorem r_name {s : Sl} {ns : List (List UInt8)} {j : Nat} {n : List UInt8} {k : ByteArray → K} (hr : RdC w s 1 (ns.map strV)) (hx : ns[j]? = some n) (hk : k (bs n) w) : Idx s (j : Int) 1 (fun t => Ld t Value.string k) w := by
  have hr2 : RdC w s 1 ((ns.map bs).map Value.string) := by rw [List.map_map]; exact hr
  exact r_idx1 hr2 (by rw [List.getElem?_map, hx]; rfl) hk

theorem bs_size (l : List UInt8) : ((bs l).size : Int) = (l.length : Int) := by simp [bs, ByteArray.size]
end
end Go.Proofs.Ytdpepgjbambinaa
