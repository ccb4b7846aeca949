/- SnapPlays. -/
import Derived.Test.YtgnkminakongkaaSSnapRef
import Derived.Test.YtgnkminakongkaaIRLaw08SnapPlays
import Derived.Test.YtgnkminakongkaaShapes
import Derived.Test.YtgnkminakongkaaRow
--! use SRef03
namespace Go.Proofs.Ytgnkminakongkaa
open Go Go.Sep
set_option linter.unusedSimpArgs false
set_option linter.unusedVariables false
set_option maxRecDepth 100000
structure OpD8 where
  kind : Int
  n : Int
  name : List UInt8
  body : List UInt8
  keeps : List Int
abbrev OpX8 := OpD8 × Sl × Sl
abbrev opF8 (x : OpX8) : List Value := [.int .i64 x.1.kind, .int .i64 x.1.n, .string (bs x.1.name), x.2.1.val, x.2.2.val]
abbrev opA8 (x : OpX8) : Array Value := #[.int .i64 x.1.kind, .int .i64 x.1.n, .string (bs x.1.name), x.2.1.val, x.2.2.val]
structure OpOk8 (B : World) (x : OpX8) : Prop where
  body : RdB B x.2.1 x.1.body
  cap : x.2.1.n ≤ x.2.1.c
  keeps : RdC B x.2.2 1 (x.1.keeps.map (Value.int .i64))
  n : x.1.n ≤ 9223372036854775807
theorem opF8_len (x : OpX8) : (opF8 x).length = 5 := rfl
structure OpFit8 (x : OpX8) : Prop where
  body : x.1.body.length ≤ 5000
  name : x.1.name.length ≤ 200
  keeps : x.1.keeps.length ≤ 100
theorem bits_and8 (n m : Int) (b : Nat) (hm : (BitVec.ofInt 64 m).toNat ≤ b) (hb : b ≤ 9223372036854775807) : 0 ≤ bitsOf .and .i64 n m ∧ bitsOf .and .i64 n m ≤ b := by
  unfold bitsOf
  simp only
  have h1 : ((BitVec.ofInt IntKind.i64.bits n &&& BitVec.ofInt IntKind.i64.bits m).toNat) ≤ b := by
    rw [BitVec.toNat_and]
    exact Nat.le_trans Nat.and_le_right hm
  rw [wrap64 (by omega) (by omega)]
  omega
section
variable {B w : World} {Γ : List HProp}
theorem law08_great_spec {k : Bool → K} {s : Sl} {L : List OpX8} (hs : RdC B s 5 (L.flatMap opF8)) (hL : ∀ x ∈ L, OpOk8 B x) (h : Holds B Γ w) (hk : ∀ r w, (r = false → L.length ≤ 40 ∧ ∀ x ∈ L, OpFit8 x) → Holds B Γ w → k r w) : law08_great.call s k w := by
  have hsn : L.length = s.n := by have := hs.len; rw [flatMap_len opF8 5 opF8_len] at this; omega
  refine law08_great_ok _ _ _ ?_
  unfold law08_great
  refine r_ite (fun _ => hk true _ (fun h => by cases h) h) (fun hb0 => ?_)
  simp only [decide_eq_false_iff_not] at hb0
  refine LoopK.of (fun t w => ∃ j : Nat, t = (j : Int) ∧ j ≤ L.length ∧ (∀ x ∈ L.take j, OpFit8 x) ∧ Holds B Γ w) (fun t _ => ((s.n : Int) - t).toNat) ⟨0, rfl, by omega, by simp, h⟩ ?_
  clear h
  rintro t w ⟨j, rfl, hj, hfit, h⟩
  unfold law08_great.b1
  refine r_ite (fun hb => ?_) (fun hb => ?_)
  · simp only [decide_eq_true_eq] at hb
    have hjl : j < L.length := by omega
    have hx : L[j]? = some L[j] := List.getElem?_eq_getElem hjl
    generalize hX : L[j] = x at hx
    have hxo := hL x (List.mem_of_getElem? hx)
    have hdn : x.1.body.length = x.2.1.n := by have := hxo.body.len; simpa using this
    have hkn : x.1.keeps.length = x.2.2.n := by have := hxo.keeps.len; simpa using this
    have yes : ∀ w, Holds B Γ w → ∀ X, law08_great.s2 k X s (s.n : Int) (j : Int) true w := fun w h X => by
      unfold law08_great.s2
      exact r_ite_t rfl (hk true _ (fun h => by cases h) h)
    refine r_idxN opF8 opF8_len (by decide) (hs.old h) hx (cs := opA8 x) rfl fun t40 => ?_
    refine r_new h ?_
    clear h
    intro o4 w h
    try simp only [add_mk, Nat.zero_add, Nat.reduceAdd]
    first | refine T0 h rfl ?_ ?_ ?_ ?_ | refine T1 h rfl ?_ ?_ ?_ ?_ | refine T2 h rfl ?_ ?_ ?_ ?_ | refine T3 h rfl ?_ ?_ ?_ ?_ | refine T4 h rfl ?_ ?_ ?_ ?_ | refine T5 h rfl ?_ ?_ ?_ ?_ | refine T6 h rfl ?_ ?_ ?_ ?_ | refine T7 h rfl ?_ ?_ ?_ ?_ | refine T8 h rfl ?_ ?_ ?_ ?_
    · rfl
    · rfl
    · simp [flatV]
    clear h
    intro w h
    try simp only [N1, N2, N3, N4, N5, N6, N7] at h
    try simp only [add_mk, Nat.zero_add, Nat.reduceAdd]
    refine r_ld (x := x.2.1) h rfl (by first | with_reducible exact M0 | with_reducible exact M1 | with_reducible exact M2 | with_reducible exact M3 | with_reducible exact M4 | with_reducible exact M5 | with_reducible exact M6 | with_reducible exact M7 | with_reducible exact M8 | with_reducible exact M9 | with_reducible exact M10 | with_reducible exact M11 | with_reducible exact M12) ?_ ?_
    · exact rfl
    refine r_ite (fun _ => yes _ h.tail _) (fun h1 => ?_)
    simp only [decide_eq_false_iff_not] at h1
    refine r_ld (x := (bs x.1.name)) h rfl (by first | with_reducible exact M0 | with_reducible exact M1 | with_reducible exact M2 | with_reducible exact M3 | with_reducible exact M4 | with_reducible exact M5 | with_reducible exact M6 | with_reducible exact M7 | with_reducible exact M8 | with_reducible exact M9 | with_reducible exact M10 | with_reducible exact M11 | with_reducible exact M12) ?_ ?_
    · exact rfl
    refine r_ite (fun _ => yes _ h.tail _) (fun h2 => ?_)
    simp only [decide_eq_false_iff_not, bs_size] at h2
    refine r_ld (x := x.2.2) h rfl (by first | with_reducible exact M0 | with_reducible exact M1 | with_reducible exact M2 | with_reducible exact M3 | with_reducible exact M4 | with_reducible exact M5 | with_reducible exact M6 | with_reducible exact M7 | with_reducible exact M8 | with_reducible exact M9 | with_reducible exact M10 | with_reducible exact M11 | with_reducible exact M12) ?_ ?_
    · exact rfl
    unfold law08_great.s2
    refine r_ite (fun _ => hk true _ (fun h => by cases h) h.tail) (fun h4 => ?_)
    simp only [decide_eq_false_iff_not] at h4
    refine r_add64 (by omega) (by omega) ?_
    refine ⟨⟨j + 1, by omega, by omega, fun y hy => ?_, h.tail⟩, by omega⟩
    rw [List.take_succ_eq_append_getElem hjl, hX] at hy
    rcases List.mem_append.1 hy with hy | hy
    · exact hfit y hy
    · simp only [List.mem_singleton] at hy
      subst hy
      exact ⟨by omega, by omega, by omega⟩
  · simp only [decide_eq_false_iff_not] at hb
    have : L.take j = L := List.take_of_length_le (by omega)
    rw [this] at hfit
    exact hk false _ (fun _ => ⟨by omega, hfit⟩) h

theorem read_len {D : DiskD} (hD : OkD D) (n : List UInt8) (hr : D.a.room ≤ 65536) : (D.read n).1.length ≤ 100000 := by
  have hu := hD.used
  unfold DiskD.read
  split
  · simp
  cases hm : mget n D.files with
  | none => simp
  | some f =>
    have h1 : f.data.length ≤ usedL D.files := usedL_mem (p := (n, f)) (mget_mem hm)
    show f.data.length ≤ 100000
    omega

theorem law08_SnapPlays_spec {k : Bool → K} {room : Int} {s : Sl} {L : List OpX8} (hs : RdC B s 5 (L.flatMap opF8)) (hL : ∀ x ∈ L, OpOk8 B x) (h : Holds B Γ w) (hk : ∀ w, Holds B Γ w → k true w) : law08_SnapPlays.call room s k w := by
  have hsn : L.length = s.n := by have := hs.len; rw [flatMap_len opF8 5 opF8_len] at this; omega
  refine law08_SnapPlays_ok _ _ _ _ ?_
  unfold law08_SnapPlays
  refine law08_speaks_spec h fun w h => ?_
  refine r_ite_f rfl ?_
  refine law08_great_spec hs hL h fun r w hr h => ?_
  refine r_ite (fun _ => hk _ h) (fun hr0 => ?_)
  obtain ⟨hL2, hfit⟩ := hr hr0
  obtain ⟨hm0, hm1⟩ := bits_and8 room 65535 65535 (by decide) (by decide)
  refine r_ar rfl ?_
  refine r_add64 (by omega) (by omega) ?_
  generalize hq : bitsOf .and .i64 room 65535 = q at hm0 hm1
  refine new_spec h (fun hb => by omega) fun d w _ _ h => ?_
  refine r_ar rfl ?_
  refine r_add64 (by omega) (by omega) ?_
  refine ref_NewR_spec h fun m w h => ?_
  refine r_ite_f rfl ?_
  refine LoopK.of (fun t w => ∃ (j d m : Nat) (D M : DiskD), t = (some ⟨d, 0, none⟩, some ⟨m, 0, none⟩, (j : Int)) ∧ j ≤ L.length ∧ OkD D ∧ RelD D M ∧ D.a.room ≤ 65536 ∧ Holds B (DiskR d D :: RefR m M :: Γ) w) (fun t _ => ((s.n : Int) - t.2.2).toNat) ⟨0, d, m, _, _, rfl, by omega, okN (by omega) (by omega), rel_new (1 + q), (by show 1 + q ≤ 65536; omega), h.swap⟩ ?_
  clear h
  rintro t w ⟨j, d, m, D, M, rfl, hj, hD, hR, hro, h⟩
  dsimp only
  unfold law08_SnapPlays.b1
  refine r_ite (fun hb => ?_) (fun _ => hk _ h.tail.tail)
  simp only [decide_eq_true_eq] at hb
  have hjl : j < L.length := by omega
  have hx : L[j]? = some L[j] := List.getElem?_eq_getElem hjl
  generalize L[j] = x at hx
  have hxo := hL x (List.mem_of_getElem? hx)
  have hxf := hfit x (List.mem_of_getElem? hx)
  have hxk := hxf.keeps
  have hxb := hxf.body
  have hxn := hxf.name
  refine r_idxN opF8 opF8_len (by decide) (hs.old h) hx (cs := opA8 x) rfl fun t50 => ?_
  refine r_new h ?_
  clear h
  intro o9 w h
  try simp only [add_mk, Nat.zero_add, Nat.reduceAdd]
  first | refine T0 h rfl ?_ ?_ ?_ ?_ | refine T1 h rfl ?_ ?_ ?_ ?_ | refine T2 h rfl ?_ ?_ ?_ ?_ | refine T3 h rfl ?_ ?_ ?_ ?_ | refine T4 h rfl ?_ ?_ ?_ ?_ | refine T5 h rfl ?_ ?_ ?_ ?_ | refine T6 h rfl ?_ ?_ ?_ ?_ | refine T7 h rfl ?_ ?_ ?_ ?_ | refine T8 h rfl ?_ ?_ ?_ ?_
  · rfl
  · rfl
  · simp [flatV]
  clear h
  intro w h
  try simp only [N1, N2, N3, N4, N5, N6, N7] at h
  try simp only [add_mk, Nat.zero_add, Nat.reduceAdd]
  have s2 : ∀ (d m : Nat) (D M : DiskD) w, OkD D → RelD D M → D.a.room ≤ 65536 → Holds B (DiskR d D :: RefR m M :: blk o9 (.cells (opA8 x) 81 (0, 0)) :: Γ) w → law08_SnapPlays.s2 k (fun d5_1 m7_1 t35_1 w' => (∃ (j d m : Nat) (D M : DiskD), (d5_1, m7_1, t35_1) = (some ⟨d, 0, none⟩, some ⟨m, 0, none⟩, (j : Int)) ∧ j ≤ L.length ∧ OkD D ∧ RelD D M ∧ D.a.room ≤ 65536 ∧ Holds B (DiskR d D :: RefR m M :: Γ) w') ∧ ((s.n : Int) - t35_1).toNat < ((s.n : Int) - (j : Int)).toNat) (some ⟨d, 0, none⟩) (some ⟨m, 0, none⟩) ⟨o9, 0, none⟩ s (s.n : Int) (j : Int) w := by
    clear h hD hR hro
    intro d m D M w hD hR hro h
    have hM := hR.ok hD
    have hrd := rel_read (n := x.1.name) hR hD
    have hrl := read_len hD x.1.name hro
    unfold law08_SnapPlays.s2
    try simp only [add_mk, Nat.zero_add, Nat.reduceAdd]
    refine r_ld (x := (bs x.1.name)) h rfl (by first | with_reducible exact M0 | with_reducible exact M1 | with_reducible exact M2 | with_reducible exact M3 | with_reducible exact M4 | with_reducible exact M5 | with_reducible exact M6 | with_reducible exact M7 | with_reducible exact M8 | with_reducible exact M9 | with_reducible exact M10 | with_reducible exact M11 | with_reducible exact M12) ?_ ?_
    · exact rfl
    refine snap_LoadU_spec (n := x.1.name) hD hrl h fun f w h => ?_
    refine r_ld (x := (bs x.1.name)) h rfl (by first | with_reducible exact M0 | with_reducible exact M1 | with_reducible exact M2 | with_reducible exact M3 | with_reducible exact M4 | with_reducible exact M5 | with_reducible exact M6 | with_reducible exact M7 | with_reducible exact M8 | with_reducible exact M9 | with_reducible exact M10 | with_reducible exact M11 | with_reducible exact M12) ?_ ?_
    · exact rfl
    replace h := P3 h
    replace h := P2 h
    replace h := P2 h
    replace h := P3 h
    try simp only [N1, N2, N3, N4, N5, N6, N7] at h
    refine ref08_LoadU_spec (n := x.1.name) hM (by rw [hrd]; exact hrl) h fun g w h => ?_
    rw [hrd] at h ⊢
    replace h := P4 h
    replace h := P2 h
    replace h := P3 h
    replace h := P3 h
    replace h := P4 h
    try simp only [N1, N2, N3, N4, N5, N6, N7] at h
    refine names_spec hD h fun t w h => ?_
    refine r_ite_f (by simp) ?_
    refine r_str (by kernel_rfl) (Bytes.rd (s := f) (xs := (loadR (D.read x.1.name)).1) h (List.mem_cons_of_mem _ (List.mem_cons_of_mem _ (List.mem_cons_of_mem _ List.mem_cons_self)))) ?_
    refine r_str (by kernel_rfl) (Bytes.rd (s := g) (xs := (loadR (D.read x.1.name)).1) h (List.mem_cons_of_mem _ (List.mem_cons_of_mem _ List.mem_cons_self))) ?_
    simp only [str_toList]
    refine r_ite_f (by simp) ?_
    have htn : D.names.length = t.n := by have := h.slCap.1; simpa using this
    replace h := P1 h
    replace h := P1 h
    replace h := P4 h
    replace h := D3 h
    replace h := D3 h
    replace h := D3 h
    try simp only [N1, N2, N3, N4, N5, N6, N7] at h
    obtain ⟨s', fs, Lp, hp, hc, h⟩ := RefR.opens h
    have hfl : fs.length = M.files.length := by rw [← hp]; simp
    have hn := rf_n h
    have hpl := hR.perm.length_eq
    have hnl := names_len D
    have hfew := hM.few
    refine r_nn rfl ?_
    try simp only [add_mk, Nat.zero_add, Nat.reduceAdd]
    refine r_ld (x := s') h rfl (by first | with_reducible exact M0 | with_reducible exact M1 | with_reducible exact M2 | with_reducible exact M3 | with_reducible exact M4 | with_reducible exact M5 | with_reducible exact M6 | with_reducible exact M7 | with_reducible exact M8 | with_reducible exact M9 | with_reducible exact M10 | with_reducible exact M11 | with_reducible exact M12) ?_ ?_
    · exact rfl
    unfold law08_SnapPlays.s3
    refine r_ite_f (by simp only [decide_eq_false_iff_not, Decidable.not_not]; omega) ?_
    refine LoopK.of (fun u w => ∃ i : Nat, u = (i : Int) ∧ i ≤ fs.length ∧ Holds B (blk m (.cells (mA M.a s') ty_argosyref03_Disk (0, 0)) :: SlC ty_argosyref03_File 3 s' (List.flatMap rfF fs) :: stars (List.map poolB Lp) :: (SlS t D.names :: DiskR d D :: Γ)) w) (fun u _ => ((t.n : Int) - u).toNat) ⟨0, rfl, by omega, h⟩ ?_
    clear h
    rintro u w ⟨i, rfl, hi, h⟩
    unfold law08_SnapPlays.b4
    refine r_ite (fun hb => ?_) (fun hb => ?_)
    · simp only [decide_eq_true_eq] at hb
      have hil : i < fs.length := by omega
      have hy : fs[i]? = some fs[i] := List.getElem?_eq_getElem hil
      generalize fs[i] = y at hy
      have hnx : D.names[i]? = some y.1 := by
        rw [rel_names hR, ← hp, List.getElem?_map, List.getElem?_map, hy]; rfl
      refine r_dr h ?_
      clear h
      intro w h
      have hrn := h.rdC (E := ty_string) (esz := 1) (s := t) (vs := D.names.map strV) (by first | with_reducible exact M0 | with_reducible exact M1 | with_reducible exact M2 | with_reducible exact M3 | with_reducible exact M4 | with_reducible exact M5 | with_reducible exact M6 | with_reducible exact M7 | with_reducible exact M8 | with_reducible exact M9 | with_reducible exact M10 | with_reducible exact M11 | with_reducible exact M12)
      refine r_name hrn hnx ?_
      refine r_nn rfl ?_
      try simp only [add_mk, Nat.zero_add, Nat.reduceAdd]
      refine r_ld (x := s') h rfl (by first | with_reducible exact M0 | with_reducible exact M1 | with_reducible exact M2 | with_reducible exact M3 | with_reducible exact M4 | with_reducible exact M5 | with_reducible exact M6 | with_reducible exact M7 | with_reducible exact M8 | with_reducible exact M9 | with_reducible exact M10 | with_reducible exact M11 | with_reducible exact M12) ?_ ?_
      · exact rfl
      refine r_fidx (h.rdC (by first | with_reducible exact M0 | with_reducible exact M1 | with_reducible exact M2 | with_reducible exact M3 | with_reducible exact M4 | with_reducible exact M5 | with_reducible exact M6 | with_reducible exact M7 | with_reducible exact M8 | with_reducible exact M9 | with_reducible exact M10 | with_reducible exact M11 | with_reducible exact M12)) hy fun a h0 h1 h2 h3 => ?_
      refine r_ld_of (x := bs y.1) h0 ?_
      refine r_ite_f (by simp) ?_
      refine r_add64 (by omega) (by omega) ?_
      exact ⟨⟨i + 1, by omega, by omega, h⟩, by omega⟩
    · refine r_add64 (by omega) (by omega) ?_
      have h6 := RefR.shuts (M := M) rfl hp hc h
      replace h := h6
      replace h := P2 h
      replace h := D2 h
      try simp only [N1, N2, N3, N4, N5, N6, N7] at h
      exact ⟨⟨j + 1, d, m, D, M, rfl, by omega, hD, hR, hro, h⟩, by omega⟩
  refine r_ld (x := x.1.kind) h rfl (by first | with_reducible exact M0 | with_reducible exact M1 | with_reducible exact M2 | with_reducible exact M3 | with_reducible exact M4 | with_reducible exact M5 | with_reducible exact M6 | with_reducible exact M7 | with_reducible exact M8 | with_reducible exact M9 | with_reducible exact M10 | with_reducible exact M11 | with_reducible exact M12) ?_ ?_
  · exact rfl
  refine r_ar rfl ?_
  refine r_ite (fun _ => ?_) (fun _ => ?_)
  · have hrd : ∀ {Δ : List HProp} w, Holds B Δ w → RdC w x.2.2 1 (x.1.keeps.map (Value.int .i64)) := fun w h => hxo.keeps.old h
    replace h := P2 h
    replace h := P2 h
    try simp only [N1, N2, N3, N4, N5, N6, N7] at h
    refine r_dr h ?_
    clear h
    intro w h
    refine r_withS h.tail.tail ?_
    refine r_ldS (x := x.2.2) rfl (by first | with_reducible exact M0 | with_reducible exact M1 | with_reducible exact M2 | with_reducible exact M3 | with_reducible exact M4 | with_reducible exact M5 | with_reducible exact M6 | with_reducible exact M7 | with_reducible exact M8 | with_reducible exact M9 | with_reducible exact M10 | with_reducible exact M11 | with_reducible exact M12) ?_ ?_
    · exact rfl
    refine r_ldS (x := x.2.2) rfl (by first | with_reducible exact M0 | with_reducible exact M1 | with_reducible exact M2 | with_reducible exact M3 | with_reducible exact M4 | with_reducible exact M5 | with_reducible exact M6 | with_reducible exact M7 | with_reducible exact M8 | with_reducible exact M9 | with_reducible exact M10 | with_reducible exact M11 | with_reducible exact M12) ?_ ?_
    · exact rfl
    refine crash_spec (ks := x.1.keeps) hD h (fun w h => hrd w h) fun o w h => ?_
    refine r_sv h.tail.tail.tail ?_
    replace h := P3 h
    replace h := P1 h
    replace h := P3 h
    replace h := D3 h
    try simp only [N1, N2, N3, N4, N5, N6, N7] at h
    refine ref_Crash_spec (ks := x.1.keeps) (hR.ok hD) h (fun w h => hrd w h) fun o2 w h => ?_
    refine r_ite_f rfl ?_
    replace h := P3 h
    replace h := P1 h
    replace h := P3 h
    replace h := D3 h
    try simp only [N1, N2, N3, N4, N5, N6, N7] at h
    exact s2 _ _ _ _ _ (hD.crash _) (rel_crash hR hD _) hro h
  refine r_ite (fun _ => ?_) (fun _ => ?_)
  · refine r_ld (x := x.1.n) h rfl (by first | with_reducible exact M0 | with_reducible exact M1 | with_reducible exact M2 | with_reducible exact M3 | with_reducible exact M4 | with_reducible exact M5 | with_reducible exact M6 | with_reducible exact M7 | with_reducible exact M8 | with_reducible exact M9 | with_reducible exact M10 | with_reducible exact M11 | with_reducible exact M12) ?_ ?_
    · exact rfl
    replace h := P2 h
    replace h := P2 h
    try simp only [N1, N2, N3, N4, N5, N6, N7] at h
    refine limit_spec h fun w h => ?_
    refine r_ld (x := x.1.n) h rfl (by first | with_reducible exact M0 | with_reducible exact M1 | with_reducible exact M2 | with_reducible exact M3 | with_reducible exact M4 | with_reducible exact M5 | with_reducible exact M6 | with_reducible exact M7 | with_reducible exact M8 | with_reducible exact M9 | with_reducible exact M10 | with_reducible exact M11 | with_reducible exact M12) ?_ ?_
    · exact rfl
    replace h := P2 h
    replace h := P1 h
    replace h := P2 h
    try simp only [N1, N2, N3, N4, N5, N6, N7] at h
    refine ref_LimitR_spec h fun w h => ?_
    replace h := P2 h
    replace h := P1 h
    replace h := P2 h
    try simp only [N1, N2, N3, N4, N5, N6, N7] at h
    have hn := hxo.n
    refine s2 d m { D with a := { D.a with left := if -1 > x.1.n then -1 else x.1.n } } _ _ ⟨hD.room1, hD.roomN, hD.used, hD.few, ?_, hD.last, hD.nodup⟩ (rel_limit hR) hro h
    constructor
    · show (-9223372036854775808 : Int) < if -1 > x.1.n then -1 else x.1.n
      split <;> omega
    · show (if -1 > x.1.n then -1 else x.1.n) ≤ (9223372036854775807 : Int)
      split <;> omega
  · have hrd : ∀ {Δ : List HProp} w, Holds B Δ w → RdB w x.2.1 x.1.body := fun w h => hxo.body.old h
    have hdn : x.1.body.length = x.2.1.n := by have := (hrd w h).len; simpa using this
    replace h := P2 h
    replace h := P2 h
    try simp only [N1, N2, N3, N4, N5, N6, N7] at h
    refine r_dr h ?_
    clear h
    intro w h
    refine r_withS h.tail.tail ?_
    refine r_ldS (x := (bs x.1.name)) rfl (by first | with_reducible exact M0 | with_reducible exact M1 | with_reducible exact M2 | with_reducible exact M3 | with_reducible exact M4 | with_reducible exact M5 | with_reducible exact M6 | with_reducible exact M7 | with_reducible exact M8 | with_reducible exact M9 | with_reducible exact M10 | with_reducible exact M11 | with_reducible exact M12) ?_ ?_
    · exact rfl
    refine r_ldS (x := x.2.1) rfl (by first | with_reducible exact M0 | with_reducible exact M1 | with_reducible exact M2 | with_reducible exact M3 | with_reducible exact M4 | with_reducible exact M5 | with_reducible exact M6 | with_reducible exact M7 | with_reducible exact M8 | with_reducible exact M9 | with_reducible exact M10 | with_reducible exact M11 | with_reducible exact M12) ?_ ?_
    · exact rfl
    refine r_ldS (x := (bs x.1.name)) rfl (by first | with_reducible exact M0 | with_reducible exact M1 | with_reducible exact M2 | with_reducible exact M3 | with_reducible exact M4 | with_reducible exact M5 | with_reducible exact M6 | with_reducible exact M7 | with_reducible exact M8 | with_reducible exact M9 | with_reducible exact M10 | with_reducible exact M11 | with_reducible exact M12) ?_ ?_
    · exact rfl
    refine r_ldS (x := x.2.1) rfl (by first | with_reducible exact M0 | with_reducible exact M1 | with_reducible exact M2 | with_reducible exact M3 | with_reducible exact M4 | with_reducible exact M5 | with_reducible exact M6 | with_reducible exact M7 | with_reducible exact M8 | with_reducible exact M9 | with_reducible exact M10 | with_reducible exact M11 | with_reducible exact M12) ?_ ?_
    · exact rfl
    refine r_new h ?_
    clear h
    intro t45 w h
    try simp only [add_mk, Nat.zero_add, Nat.reduceAdd]
    refine r_sv h.tail.tail.tail ?_
    refine r_append (vs := []) (h.imp (blk_SlC rfl rfl)) (by kernel_rfl) (by kernel_rfl) (by' := 1) (by kernel_rfl) zero_ty_uint8 rfl (hrd w h) (byteV_flat _) (by simp only; omega) (by decide) fun e w h hen _ => ?_
    simp only [List.nil_append] at h
    have hcap := h.slCap.2.1
    refine r_sv h.tail.tail.tail ?_
    replace h := P3 h
    replace h := P3 h
    replace h := P2 h
    replace h := P3 h
    try simp only [N1, N2, N3, N4, N5, N6, N7] at h
    refine snap_Save_spec (n := x.1.name) (x := x.1.body) hD (by omega) hcap h (fun w h => Bytes.rd (s := e) (xs := x.1.body) h List.mem_cons_self) fun w hD' h => ?_
    refine r_sv h.tail.tail.tail ?_
    replace h := P3 h
    replace h := P1 h
    replace h := P3 h
    replace h := D3 h
    try simp only [N1, N2, N3, N4, N5, N6, N7] at h
    refine ref08_Save_spec (n := x.1.name) (x := x.1.body) hD hR (by omega) (by omega) hxo.cap h (fun w h => hrd w h) fun M' w hR' h => ?_
    refine r_ite_f (by simp) ?_
    replace h := P2 h
    replace h := P1 h
    replace h := P2 h
    try simp only [N1, N2, N3, N4, N5, N6, N7] at h
    exact s2 _ _ _ _ _ hD' hR' (by rw [room_save hD]; exact hro) h
end
end Go.Proofs.Ytgnkminakongkaa

namespace Go.Proofs.Ytgnkminakongkaa
open Go Go.Sep Go.RowKit
theorem rdy_op8 {w : World} {cs : List Value} (hc : cs.length = 5) (y : Rdy w (.fld 0 1 (.int .i64) (.fld 1 1 (.int .i64) (.fld 2 1 .str (.fld 3 1 (.sl (.int .u8) 1) (.fld 4 1 (.sl (.int .i64) 1) .nil))))) cs) :
    ∃ x : OpX8, cs = opF8 x ∧ OpOk8 w x := by
  match cs, hc with
  | [a, b, c, e, f], _ =>
    obtain ⟨⟨x0, e0, _⟩, ⟨x1, e1, w1⟩, ⟨s2, e2, _⟩, ⟨s, e4, c4, _, h1, h2⟩, ⟨s', e5, _, _, h3, h4⟩, _⟩ := y
    cases e0; cases e1; cases e2; cases e4; cases e5
    obtain ⟨xs, _, g1⟩ := rd_bytes h1 h2
    obtain ⟨ks, _, g2, _⟩ := rd_ints h3 h4
    obtain ⟨n2, rfl⟩ := bs_of s2
    simp [Lit.wf, IntKind.min, IntKind.max, IntKind.signed, IntKind.bits] at w1
    exact ⟨(⟨x0, x1, n2, xs, ks⟩, s, s'), rfl, ⟨g1, c4, g2, by simp only; omega⟩⟩
theorem SnapPlays_walk (W : World) (x : Int) (_ : (Lit.int .i64 x).wf = true) (s : Sl) (y0 : Rdy W Sh_ty_s_argosylaw08_Op (Sl.val s).cells.toList) :
    Calls Try.prog 12 #[.int .i64 x, s.val] W (Ret fun v w' => v = .bool true ∧ Below W.heap.size W w') := by
  obtain ⟨h1, h2⟩ := rdy_sl y0
  obtain ⟨L, _, hL, hd⟩ := rd_list opF8 (fun x => OpOk8 W x) opF8_len h1 h2 fun cs hc hr => rdy_op8 hc hr
  exact law_call (law08_SnapPlays_spec hL hd (Holds.start W) fun w h => ⟨rfl, h⟩)
end Go.Proofs.Ytgnkminakongkaa
