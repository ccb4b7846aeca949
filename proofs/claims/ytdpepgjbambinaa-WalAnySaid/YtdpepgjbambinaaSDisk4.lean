/- The disk: Used, Append, Names, Crash. -/
import Derived.Test.YtdpepgjbambinaaSDisk3
namespace Go.Proofs.Ytdpepgjbambinaa
open Go Go.Sep
set_option linter.unusedSimpArgs false
set_option linter.unusedVariables false
set_option maxRecDepth 100000

def usedX : List (List UInt8 × FileX) → Nat
  | [] => 0
  | p :: fs => p.2.f.data.length + usedX fs
theorem usedX_app (l1 l2 : List (List UInt8 × FileX)) : usedX (l1 ++ l2) = usedX l1 + usedX l2 := by
  induction l1 with
  | nil => simp [usedX]
  | cons p l1 ih => simp only [List.cons_append, usedX, ih]; omega
theorem usedX_plain (fs : List (List UInt8 × FileX)) : usedX fs = usedL (plainF fs) := by
  induction fs with
  | nil => rfl
  | cons p fs ih => simp only [usedX, plainF, List.map_cons, usedL, ih]
section
variable {B w : World} {Γ : List HProp}
/-- A file's cells are read where they stand. -/
theorem file_rd {fs : List (List UInt8 × FileX)} {p : List UInt8 × FileX} (i : Nat) (h : Holds B Γ w) (hi : Γ[i]? = some (stars (fs.map fB))) (hp : p ∈ fs) :
    w.cell? ⟨p.2.p, 0, none⟩ = some p.2.s.val ∧ w.cell? ⟨p.2.p, 1, none⟩ = some (.int .i64 (p.2.f.last : Int)) ∧ p.2.f.data.length = p.2.s.n ∧ RdB w p.2.s p.2.f.data ∧ p.2.s.n ≤ p.2.s.c ∧ (∀ a, p.2.s.a = some a → a.spot = none) := by
  obtain ⟨l1, l2, rfl⟩ := List.append_of_mem hp
  have h1 := files_take (n := p.1) (x := p.2) (h.pick i hi)
  have hb := h1.block
  have hl := Bytes.len h1.tail
  have hsc := h1.tail.slCap
  exact ⟨cell_block hb rfl, cell_block hb rfl, hl, Bytes.rd h1 (List.mem_cons_of_mem _ List.mem_cons_self), hsc.2.1, hsc.2.2.1⟩

theorem used_spec {d mb : Nat} {a : DkA} {fs : List (List UInt8 × FileX)} {k : Int → K} (hu : usedX fs ≤ 100000000) (h : Holds B (DiskF d mb a fs :: Γ) w) (hk : ∀ w, Holds B (DiskF d mb a fs :: Γ) w → k (usedX fs : Int) w) : disk_Disk_Used.call (some ⟨d, 0, none⟩) k w := by
  replace h := DiskF.opens h
  refine disk_Disk_Used_ok _ _ _ ?_
  unfold disk_Disk_Used
  refine r_nn rfl ?_
  try simp only [add_mk, Nat.zero_add, Nat.reduceAdd]
  refine r_ld (x := (some mb)) h rfl (by first | with_reducible exact M0 | with_reducible exact M1 | with_reducible exact M2 | with_reducible exact M3 | with_reducible exact M4 | with_reducible exact M5 | with_reducible exact M6 | with_reducible exact M7 | with_reducible exact M8 | with_reducible exact M9 | with_reducible exact M10 | with_reducible exact M11 | with_reducible exact M12) ?_ ?_
  · exact rfl
  replace h := P2 h
  replace h := P1 h
  replace h := P2 h
  try simp only [N1, N2, N3, N4, N5, N6, N7] at h
  refine r_range mapF h fun r w h => ?_
  refine LoopK.of (fun t w => ∃ (n : Nat) (left : List (List UInt8 × FileX)) (cur : Option (List UInt8 × FileX)), t = (n : Int) ∧ n + usedX left = usedX fs ∧ Holds B (MapIt strV fV mb r fs left cur :: blk d (.cells (dA a mb) ty_disk_Disk (0, 0)) :: stars (fs.map fB) :: Γ) w) (fun _ w => itCount r fs.length w) ⟨0, fs, none, rfl, by omega, h⟩ ?_
  clear h
  rintro t w ⟨n, left, cur, rfl, hn, h⟩
  have hcnt := it_count h
  unfold disk_Disk_Used.b1
  refine r_next h (fun hl0 w h => ?_) (fun l1 p l2 w hl1 hpm h => ?_)
  · refine ⟨_, false, rfl, rfl, ?_⟩
    refine r_ite_f rfl ?_
    rw [hl0] at hn
    simp only [usedX, Nat.add_zero] at hn
    rw [hn]
    replace h := P2 h
    replace h := P1 h
    replace h := P2 h
    try simp only [N1, N2, N3, N4, N5, N6, N7] at h
    exact hk _ (DiskF.shuts h)
  · refine ⟨_, true, rfl, rfl, ?_⟩
    refine r_ite_t rfl ?_
    refine r_entry h ?_
    refine ⟨_, some ⟨p.2.p, 0, none⟩, rfl, rfl, ?_⟩
    refine r_nn rfl ?_
    obtain ⟨g1, _, g3, _⟩ := file_rd 2 h at2 hpm
    refine r_ld_of (x := p.2.s) g1 ?_
    rw [hl1, usedX_app] at hn
    simp only [usedX] at hn
    refine r_ar (e' := ((n + p.2.f.data.length : Nat) : Int)) (by rw [wrap64 (by omega) (by omega)]; omega) ?_
    refine ⟨⟨n + p.2.f.data.length, l1 ++ l2, some p, rfl, by rw [usedX_app]; omega, h⟩, ?_⟩
    rw [hcnt, it_count h, hl1]
    simp

theorem r_mlen {α β : Type} [DecidableEq α] {enc : α → Value} {cV : β → Value} {T E t mb : Nat} {d : TypeDesc} {m : List (α × β)} {k : Int → K} (i : Nat) (hT : mapIs Try.prog T d E) (h : Holds B Γ w) (hi : Γ[i]? = some (MapR enc cV mb m)) (hk : k (m.length : Int) w) : Rd Try.prog (Builtin.len_ #[T] t #[.map (some mb)]) (Value.int .i64) k w := by
  obtain ⟨kt, hT, hd⟩ := hT
  obtain ⟨es, c, ⟨hr, hst⟩, h⟩ := MapR.opens (h.pick i hi)
  have hlen : es.size = m.length := by have := congrArg List.length hr; simpa using this
  refine ⟨(m.length : Int), ?_, hk⟩
  have e0 : #[T][0]? = some T := rfl
  have e1 : #[Value.map (some mb)][0]? = some (.map (some mb)) := rfl
  unfold Builtin.len_
  simp only [e0, e1, Sem.run_bind, run_underlying hT, Result.andThen, MapKept.run_getObj_map h.block, Sem.run_pure, hlen, goInt]

theorem append_s1 {d mb : Nat} {D : DiskD} {n x : List UInt8} {data : Sl} {fs : List (List UInt8 × FileX)} {y : FileX} {k : Int → K} (hD : OkD D) (ha : okA D.a)
    (hy : mget n fs = some y) (hp : plainF fs = mset n y.f D.files) (hsm : y.f.data.length + x.length ≤ 1048576) (hr : ∀ w, Holds B Γ w → RdB w data x)
    (h : Holds B (DiskF d mb D.a fs :: Γ) w) (hk : ∀ w, Holds B (DiskR d ⟨(chg D.a).1, mset n ⟨y.f.data ++ x, y.f.last⟩ D.files⟩ :: Γ) w → k (chg D.a).2 w) : disk_Disk_Append.s1 k ⟨d, 0, none⟩ data (some ⟨y.p, 0, none⟩) w := by
  obtain ⟨l1, l2, e1, hms, _⟩ := mget_split hy
  rw [e1] at h hy hms
  unfold disk_Disk_Append.s1
  replace h := diskF_take h
  refine r_nn rfl ?_
  refine r_ld (x := y.s) h rfl (by first | with_reducible exact M0 | with_reducible exact M1 | with_reducible exact M2 | with_reducible exact M3 | with_reducible exact M4 | with_reducible exact M5 | with_reducible exact M6 | with_reducible exact M7 | with_reducible exact M8 | with_reducible exact M9 | with_reducible exact M10 | with_reducible exact M11 | with_reducible exact M12) ?_ ?_
  · exact rfl
  replace h := P5 h
  replace h := P5 h
  replace h := P5 h
  replace h := P5 h
  replace h := P4 h
  replace h := P5 h
  try simp only [N1, N2, N3, N4, N5, N6, N7] at h
  refine r_appB h (hr _ h.tail.tail.tail.tail.tail.tail) (by omega) fun s' w h _ _ => ?_
  replace h := P5 h
  replace h := P5 h
  replace h := P5 h
  replace h := P5 h
  replace h := P4 h
  replace h := P5 h
  try simp only [N1, N2, N3, N4, N5, N6, N7] at h
  first | refine S0 h rfl ?_ rfl ?_ | refine S1 h rfl ?_ rfl ?_ | refine S2 h rfl ?_ rfl ?_ | refine S3 h rfl ?_ rfl ?_ | refine S4 h rfl ?_ rfl ?_ | refine S5 h rfl ?_ rfl ?_ | refine S6 h rfl ?_ rfl ?_ | refine S7 h rfl ?_ rfl ?_ | refine S8 h rfl ?_ rfl ?_
  · first | exact Nat.lt_of_ble_eq_true rfl | (simp; done) | (simp; omega)
  clear h
  intro w h
  try simp only [N1, N2, N3, N4, N5, N6, N7] at h
  have h2 := diskF_put (f := ⟨y.f.data ++ x, y.f.last⟩) (s := s') h
  refine change_spec ha h2 fun w h => ?_
  refine hk _ (DiskR.shuts rfl ?_ h)
  have e2 : ∀ v, mset n v (mset n y.f D.files) = mset n v D.files := fun v => by
    cases hm : mget n D.files with
    | none =>
      have := mset_none (v := y.f) hm
      rw [this, mset_none (v := v) hm]
      have key : ∀ (m : List (List UInt8 × FileD)), mget n m = none → mset n v (m ++ [(n, y.f)]) = m ++ [(n, v)] := by
        intro m
        induction m with
        | nil => intro _; simp [mset]
        | cons p m ih =>
          intro hm
          simp only [mget] at hm
          split at hm
          · cases hm
          · rename_i hne
            simp only [List.cons_append, mset, if_neg hne, ih hm]
      exact key _ hm
    | some g =>
      obtain ⟨a1, a2, g1, g2, _, g4⟩ := mget_split hm
      rw [g2, g2]
      have key : ∀ (a1 : List (List UInt8 × FileD)), (∀ p ∈ a1, p.1 ≠ n) → mset n v (a1 ++ (n, y.f) :: a2) = a1 ++ (n, v) :: a2 := by
        intro a1
        induction a1 with
        | nil => intro _; simp [mset]
        | cons p a1 ih =>
          intro hne
          have : n ≠ p.1 := fun e => hne p List.mem_cons_self e.symm
          simp only [List.cons_append, mset, if_neg this, ih (fun q hq => hne q (List.mem_cons_of_mem _ hq))]
      exact key a1 g4
  show plainF (l1 ++ (n, (⟨⟨y.f.data ++ x, y.f.last⟩, y.p, s'⟩ : FileX)) :: l2) = mset n ⟨y.f.data ++ x, y.f.last⟩ D.files
  have e3 := plain_app (D := ⟨D.a, mset n y.f D.files⟩) (by rw [← e1]; exact hp) hy hms ⟨y.f.data ++ x, y.f.last⟩ y.p s'
  rw [e3]
  exact e2 _

theorem append_spec {d : Nat} {D : DiskD} {n x : List UInt8} {data : Sl} {k : Int → K} (hD : OkD D) (hxl : x.length ≤ 100000000) (h : Holds B (DiskR d D :: Γ) w) (hr : ∀ w, Holds B Γ w → RdB w data x)
    (hk : ∀ w, OkD (D.append n x).1 → Holds B (DiskR d (D.append n x).1 :: Γ) w → k (D.append n x).2 w) : disk_Disk_Append.call (some ⟨d, 0, none⟩) (bs n) data k w := by
  have hdn : x.length = data.n := by have := (hr w h.tail).len; simpa using this
  obtain ⟨mb, fs, hp, h⟩ := DiskR.opens h
  have hus := hD.used
  have hro := hD.roomN
  have hux : usedX fs = usedL D.files := by rw [usedX_plain, hp]
  have hfl : fs.length = D.files.length := by rw [← hp]; simp
  refine disk_Disk_Append_ok _ _ _ _ _ ?_
  unfold disk_Disk_Append
  unfold DiskD.append at hk
  replace h := DiskF.opens h
  refine r_nn rfl ?_
  try simp only [add_mk, Nat.zero_add, Nat.reduceAdd]
  refine r_ld (x := (some mb)) h rfl (by first | with_reducible exact M0 | with_reducible exact M1 | with_reducible exact M2 | with_reducible exact M3 | with_reducible exact M4 | with_reducible exact M5 | with_reducible exact M6 | with_reducible exact M7 | with_reducible exact M8 | with_reducible exact M9 | with_reducible exact M10 | with_reducible exact M11 | with_reducible exact M12) ?_ ?_
  · exact rfl
  refine r_file2 1 h at1 ?_
  refine r_ld (x := D.a.down) h rfl (by first | with_reducible exact M0 | with_reducible exact M1 | with_reducible exact M2 | with_reducible exact M3 | with_reducible exact M4 | with_reducible exact M5 | with_reducible exact M6 | with_reducible exact M7 | with_reducible exact M8 | with_reducible exact M9 | with_reducible exact M10 | with_reducible exact M11 | with_reducible exact M12) ?_ ?_
  · exact rfl
  refine r_ite (fun hb => ?_) (fun hb => ?_)
  · rw [if_pos hb] at hk
    exact hk _ hD (DiskR.shuts rfl hp (DiskF.shuts h))
  rw [if_neg (by rw [hb]; simp)] at hk
  refine named_spec h ?_
  cases hnm : named n with
  | false =>
    rw [if_pos hnm] at hk
    exact r_ite_t rfl (hk _ hD (DiskR.shuts rfl hp (DiskF.shuts h)))
  | true =>
    rw [if_neg (by rw [hnm]; simp)] at hk
    refine r_ite_f rfl ?_
    have main : ∀ (t : Bool) w, (t = true → mget n D.files = none ∧ 32 ≤ D.files.length) → (t = false → ¬ (mget n D.files = none ∧ 32 ≤ D.files.length)) → Holds B (DiskF d mb D.a fs :: Γ) w → disk_Disk_Append.s3 k ⟨d, 0, none⟩ (bs n) data (ptrF (mget n fs)) (mget n fs).isSome t w := by
      intro t w ht1 ht2 h
      unfold disk_Disk_Append.s3
      have full : ((mget n D.files = none ∧ 32 ≤ D.files.length) ∨ D.a.room - usedL D.files < x.length) → ∀ w, Holds B (DiskF d mb D.a fs :: Γ) w → k 2 w := fun hc w h => by
        rw [if_pos hc] at hk
        exact hk _ hD (DiskR.shuts rfl hp h)
      refine r_ite (fun hb2 => ?_) (fun hb2 => ?_)
      · unfold disk_Disk_Append.s2
        rw [hb2]
        exact r_ite_t rfl (full (.inl (ht1 hb2)) _ h)
      replace h := DiskF.opens h
      refine r_dr h ?_
      clear h
      intro w h
      refine r_withS h ?_
      refine r_ldS (x := D.a.room) rfl (by first | with_reducible exact M0 | with_reducible exact M1 | with_reducible exact M2 | with_reducible exact M3 | with_reducible exact M4 | with_reducible exact M5 | with_reducible exact M6 | with_reducible exact M7 | with_reducible exact M8 | with_reducible exact M9 | with_reducible exact M10 | with_reducible exact M11 | with_reducible exact M12) ?_ ?_
      · exact rfl
      refine used_spec (by omega) (DiskF.shuts h) fun w h => ?_
      refine r_sv (DiskF.opens h) ?_
      rw [hux]
      refine r_ar (e' := D.a.room - usedL D.files) (wrap64 (by have := hD.room1; omega) (by omega)) ?_
      unfold disk_Disk_Append.s2
      refine r_ite (fun hb3 => ?_) (fun hb3 => ?_)
      · simp only [decide_eq_true_eq] at hb3
        exact full (.inr (by omega)) _ h
      simp only [decide_eq_false_iff_not] at hb3
      have hnf : ¬ ((mget n D.files = none ∧ 32 ≤ D.files.length) ∨ D.a.room - usedL D.files < x.length) := by
        rintro (hc | hc)
        · exact ht2 hb2 hc
        · omega
      rw [if_neg hnf] at hk
      simp only at hk
      cases hm : mget n fs with
      | some y =>
        have hmD := mget_x hp hm
        have hdl := data_le hD hmD
        rw [hmD] at hk
        simp only [Option.getD_some] at hk
        have hul : y.f.data.length ≤ usedL D.files := by
          obtain ⟨l1, l2, h1, _⟩ := mget_split hmD
          have := usedL_mem (show (n, y.f) ∈ D.files by rw [h1]; simp)
          exact this
        have hsame : mset n y.f D.files = D.files := by
          obtain ⟨l1, l2, h1, h2, _⟩ := mget_split hmD
          rw [h2]; exact h1.symm
        refine r_ite_f rfl ?_
        refine append_s1 hD hD.left hm (by rw [hsame]; exact hp) (by omega) hr h fun w h => hk _ ?_ h
        exact (hD.set (f' := ⟨y.f.data ++ x, y.f.last⟩) hmD (by simp; omega) (by simp; omega)).chg
      | none =>
        have hmD := mget_x0 hp hm
        rw [hmD] at hk
        simp only [Option.getD_none, List.nil_append] at hk
        refine r_ite_t rfl ?_
        refine r_new h ?_
        clear h
        intro t52 w h
        try simp only [add_mk, Nat.zero_add, Nat.reduceAdd]
        have h1 := (h.nilSl ty_uint8 1)
        replace h := h1
        replace h := P1 h
        replace h := P2 h
        try simp only [N1, N2, N3, N4, N5, N6, N7] at h
        replace h := DiskF.opens h
        try simp only [add_mk, Nat.zero_add, Nat.reduceAdd]
        refine r_ld (x := (some mb)) h rfl (by first | with_reducible exact M0 | with_reducible exact M1 | with_reducible exact M2 | with_reducible exact M3 | with_reducible exact M4 | with_reducible exact M5 | with_reducible exact M6 | with_reducible exact M7 | with_reducible exact M8 | with_reducible exact M9 | with_reducible exact M10 | with_reducible exact M11 | with_reducible exact M12) ?_ ?_
        · exact rfl
        replace h := P4 h
        replace h := P4 h
        replace h := P4 h
        replace h := P3 h
        replace h := P4 h
        try simp only [N1, N2, N3, N4, N5, N6, N7] at h
        refine r_upd (enc := strV) (cV := fV) (a := n) (v := (⟨⟨[], 0⟩, t52, ⟨none, 0, 0⟩⟩ : FileX)) mapF keyE_str h fun w h => ?_
        replace h := P1 h
        replace h := P2 h
        replace h := P4 h
        replace h := P4 h
        try simp only [N1, N2, N3, N4, N5, N6, N7] at h
        replace h := files_set (n := n) (x := (⟨⟨[], 0⟩, t52, ⟨none, 0, 0⟩⟩ : FileX)) h
        replace h := P2 h
        replace h := P2 h
        try simp only [N1, N2, N3, N4, N5, N6, N7] at h
        have hpl : plainF (mset n (⟨⟨[], 0⟩, t52, ⟨none, 0, 0⟩⟩ : FileX) fs) = mset n ⟨[], 0⟩ D.files := by
          rw [← hp]
          exact (mset_map (fun x : FileX => x.f) n (⟨⟨[], 0⟩, t52, ⟨none, 0, 0⟩⟩ : FileX) fs).symm
        have hgm : mget n (mset n (⟨⟨[], 0⟩, t52, ⟨none, 0, 0⟩⟩ : FileX) fs) = some ⟨⟨[], 0⟩, t52, ⟨none, 0, 0⟩⟩ := by
          rw [mset_none hm]
          have key : ∀ (m : List (List UInt8 × FileX)), mget n m = none → ∀ v, mget n (m ++ [(n, v)]) = some v := by
            intro m
            induction m with
            | nil => intro _ v; simp [mget]
            | cons p m ih =>
              intro hm v
              simp only [mget] at hm
              split at hm
              · cases hm
              · rename_i hne
                simp only [List.cons_append, mget, if_neg hne, ih hm]
          exact key _ hm _
        refine append_s1 (y := (⟨⟨[], 0⟩, t52, ⟨none, 0, 0⟩⟩ : FileX)) hD hD.left hgm hpl (by simp; omega) hr (DiskF.shuts h) fun w h => hk _ ?_ (by simpa using h)
        have hfew : D.files.length < 32 := by
          have := ht2 hb2
          by_cases h32 : 32 ≤ D.files.length
          · exact absurd ⟨hmD, h32⟩ this
          · omega
        exact (hD.push (f := ⟨x, 0⟩) hmD hfew (Nat.zero_le _) (by simp only; omega)).chg
    cases hm : mget n fs with
    | none =>
      refine r_ite_t rfl ?_
      refine r_ld (x := (some mb)) h rfl (by first | with_reducible exact M0 | with_reducible exact M1 | with_reducible exact M2 | with_reducible exact M3 | with_reducible exact M4 | with_reducible exact M5 | with_reducible exact M6 | with_reducible exact M7 | with_reducible exact M8 | with_reducible exact M9 | with_reducible exact M10 | with_reducible exact M11 | with_reducible exact M12) ?_ ?_
      · exact rfl
      refine r_mlen 1 mapF h at1 ?_
      have := main (decide ((32 : Int) ≤ (fs.length : Int))) w (fun ht => ⟨mget_x0 hp hm, by simp only [decide_eq_true_eq] at ht; omega⟩) (fun ht => by simp only [decide_eq_false_iff_not] at ht; omega) (DiskF.shuts h)
      rw [hm] at this
      exact this
    | some y =>
      refine r_ite_f rfl ?_
      have := main false w (fun ht => by cases ht) (fun _ hc => by rw [mget_x hp hm] at hc; cases hc.1) (DiskF.shuts h)
      rw [hm] at this
      exact this
end
end Go.Proofs.Ytdpepgjbambinaa
