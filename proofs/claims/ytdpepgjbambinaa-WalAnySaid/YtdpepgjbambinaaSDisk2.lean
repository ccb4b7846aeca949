/- The disk: its calls on files. -/
import Derived.Test.YtdpepgjbambinaaSDisk
namespace Go.Proofs.Ytdpepgjbambinaa
open Go Go.Sep
set_option linter.unusedSimpArgs false
set_option linter.unusedVariables false
set_option maxRecDepth 100000

abbrev Files := List (List UInt8 × FileD)
def usedL : Files → Nat
  | [] => 0
  | p :: fs => p.2.data.length + usedL fs
theorem usedL_app (l1 l2 : Files) : usedL (l1 ++ l2) = usedL l1 + usedL l2 := by
  induction l1 with
  | nil => simp [usedL]
  | cons p l1 ih => simp only [List.cons_append, usedL, ih]; omega
theorem usedL_mem {fs : Files} {p : List UInt8 × FileD} (h : p ∈ fs) : p.2.data.length ≤ usedL fs := by
  induction fs with
  | nil => cases h
  | cons q fs ih =>
    rcases List.mem_cons.1 h with rfl | h
    · simp [usedL]
    · have := ih h; simp only [usedL]; omega
structure OkD (D : DiskD) : Prop where
  room1 : 1 ≤ D.a.room
  roomN : D.a.room ≤ 1048576
  used : (usedL D.files : Int) ≤ D.a.room
  few : D.files.length ≤ 32
  left : okA D.a
  last : ∀ p ∈ D.files, p.2.last ≤ p.2.data.length
  nodup : (D.files.map Prod.fst).Nodup

def DiskD.read (D : DiskD) (n : List UInt8) : List UInt8 × Int := if D.a.down = true then ([], 3) else match mget n D.files with
  | none => ([], 60)
  | some f => (f.data, 0)
def DiskD.sync (D : DiskD) (n : List UInt8) : DiskD × Int := if D.a.down = true then (D, 3) else match mget n D.files with
  | none => (D, 60)
  | some f => (⟨(chg D.a).1, if (chg D.a).2 = 0 then mset n ⟨f.data, f.data.length⟩ D.files else D.files⟩, (chg D.a).2)
def DiskD.remove (D : DiskD) (n : List UInt8) : DiskD × Int := if D.a.down = true then (D, 3) else match mget n D.files with
  | none => (D, 60)
  | some _ => (⟨(chg D.a).1, if (chg D.a).2 = 0 then mdel n D.files else D.files⟩, (chg D.a).2)
def DiskD.rename (D : DiskD) (n m : List UInt8) : DiskD × Int := if D.a.down = true then (D, 3) else match mget n D.files with
  | none => (D, 60)
  | some f => if named m = false then (D, 1) else (⟨(chg D.a).1, if (chg D.a).2 = 0 then mset m f (mdel n D.files) else D.files⟩, (chg D.a).2)
def DiskD.cut (D : DiskD) (n : List UInt8) (c : Int) : DiskD × Int := if D.a.down = true then (D, 3) else match mget n D.files with
  | none => (D, 60)
  | some f => if c < 0 ∨ (f.data.length : Int) < c then (D, 1) else (⟨(chg D.a).1, if (chg D.a).2 = 0 then mset n ⟨f.data.take c.toNat, min f.last c.toNat⟩ D.files else D.files⟩, (chg D.a).2)
def DiskD.append (D : DiskD) (n : List UInt8) (x : List UInt8) : DiskD × Int := if D.a.down = true then (D, 3) else if named n = false then (D, 1)
  else if (mget n D.files = none ∧ 32 ≤ D.files.length) ∨ D.a.room - usedL D.files < x.length then (D, 2)
  else (⟨(chg D.a).1, mset n ⟨((mget n D.files).getD ⟨[], 0⟩).data ++ x, ((mget n D.files).getD ⟨[], 0⟩).last⟩ D.files⟩, (chg D.a).2)

theorem chg_room (a : DkA) : (chg a).1.room = a.room := by
  unfold chg
  split
  · rfl
  · split <;> rfl
theorem chg_ok {a : DkA} (h : okA a) : okA (chg a).1 := by
  obtain ⟨h1, h2⟩ := h
  unfold chg
  split
  · exact ⟨h1, h2⟩
  · split
    · exact ⟨by simp only; omega, by simp only; omega⟩
    · exact ⟨h1, h2⟩

theorem OkD.chg {D : DiskD} (h : OkD D) : OkD ⟨(chg D.a).1, D.files⟩ :=
  ⟨by rw [chg_room]; exact h.room1, by rw [chg_room]; exact h.roomN, by rw [chg_room]; exact h.used, h.few, chg_ok h.left, h.last, h.nodup⟩
/-- One file's bytes become others. -/
theorem OkD.set {D : DiskD} (h : OkD D) {n : List UInt8} {f f' : FileD} (hm : mget n D.files = some f) (hl : f'.last ≤ f'.data.length) (hu : (usedL D.files : Int) - f.data.length + f'.data.length ≤ D.a.room) : OkD ⟨D.a, mset n f' D.files⟩ := by
  obtain ⟨l1, l2, h1, h2, _, h4⟩ := mget_split hm
  have e := h2 f'
  have hnd := h.nodup
  have hfew := h.few
  have hla := h.last
  rw [h1] at hu hnd hfew hla
  rw [usedL_app] at hu
  simp only [usedL] at hu
  refine ⟨h.room1, h.roomN, ?_, ?_, h.left, ?_, ?_⟩
  · simp only [e, usedL_app, usedL]; omega
  · simp only [e]; simpa using hfew
  · simp only [e]
    intro p hp
    rcases List.mem_append.1 hp with hp | hp
    · exact hla p (List.mem_append_left _ hp)
    · rcases List.mem_cons.1 hp with rfl | hp
      · exact hl
      · exact hla p (List.mem_append_right _ (List.mem_cons_of_mem _ hp))
  · simp only [e]; simpa using hnd
theorem mget_none_mem {α β : Type} [DecidableEq α] {k : α} {m : List (α × β)} (h : mget k m = none) : ∀ p ∈ m, p.1 ≠ k := by
  rcases mfind k m with ⟨_, _, _, h4⟩ | ⟨_, _, _, _, _, h1, _⟩
  · exact h4
  · rw [h] at h1; cases h1
theorem OkD.push {D : DiskD} (h : OkD D) {n : List UInt8} {f : FileD} (hm : mget n D.files = none) (hf : D.files.length < 32) (hl : f.last ≤ f.data.length) (hu : (usedL D.files : Int) + f.data.length ≤ D.a.room) : OkD ⟨D.a, mset n f D.files⟩ := by
  have e : mset n f D.files = D.files ++ [(n, f)] := mset_none hm
  refine ⟨h.room1, h.roomN, ?_, ?_, h.left, ?_, ?_⟩
  · simp only [e, usedL_app, usedL]; omega
  · simp only [e, List.length_append, List.length_singleton]; omega
  · simp only [e]
    intro p hp
    rcases List.mem_append.1 hp with hp | hp
    · exact h.last p hp
    · simp only [List.mem_singleton] at hp; subst hp; exact hl
  · simp only [e, List.map_append, List.map_cons, List.map_nil]
    rw [List.nodup_append]
    refine ⟨h.nodup, by simp, fun x hx y hy => ?_⟩
    simp only [List.mem_singleton] at hy
    subst hy
    obtain ⟨p, hp, rfl⟩ := List.mem_map.1 hx
    exact mget_none_mem hm p hp
theorem OkD.del {D : DiskD} (h : OkD D) {n : List UInt8} {f : FileD} (hm : mget n D.files = some f) : OkD ⟨D.a, mdel n D.files⟩ ∧ mget n (mdel n D.files) = none ∧ (mdel n D.files).length + 1 = D.files.length ∧ usedL (mdel n D.files) + f.data.length = usedL D.files := by
  obtain ⟨l1, l2, h1, _, h3, h4⟩ := mget_split hm
  have hnd := h.nodup
  have hfew := h.few
  have hla := h.last
  have hus := h.used
  rw [h1] at hnd hfew hla hus
  rw [usedL_app] at hus
  simp only [usedL] at hus
  have hsub : List.Sublist (l1 ++ l2) (l1 ++ (n, f) :: l2) := List.Sublist.append (List.Sublist.refl _) (List.sublist_cons_self _ _)
  refine ⟨⟨h.room1, h.roomN, ?_, ?_, h.left, ?_, ?_⟩, ?_, ?_, ?_⟩
  · simp only [h3, usedL_app]; omega
  · simp only [h3, List.length_append, List.length_cons] at *; omega
  · simp only [h3]; exact fun p hp => hla p (hsub.subset hp)
  · simp only [h3]; exact hnd.sublist (hsub.map _)
  · rw [h3]
    cases hx : mget n (l1 ++ l2) with
    | none => rfl
    | some y =>
      obtain ⟨a1, a2, e1, _⟩ := mget_split hx
      exfalso
      have hmem : n ∈ (l1 ++ l2).map Prod.fst := by rw [e1]; simp
      simp only [List.map_append, List.map_cons] at hnd hmem
      rw [List.nodup_append] at hnd
      obtain ⟨g1, g2, g3⟩ := hnd
      rcases List.mem_append.1 hmem with hmem | hmem
      · exact g3 n hmem n List.mem_cons_self rfl
      · exact (List.nodup_cons.1 g2).1 hmem
  · rw [h3, h1]; simp; omega
  · rw [h3, h1, usedL_app, usedL_app]; simp only [usedL]; omega
theorem OkD.put {D : DiskD} (h : OkD D) {n : List UInt8} {f : FileD} (hf : D.files.length < 32) (hl : f.last ≤ f.data.length) (hu : (usedL D.files : Int) + f.data.length ≤ D.a.room) : OkD ⟨D.a, mset n f D.files⟩ := by
  cases hm : mget n D.files with
  | none => exact h.push hm hf hl hu
  | some g => exact h.set hm hl (by omega)

section
variable {B w : World} {Γ : List HProp}
theorem mget_x {D : DiskD} {n : List UInt8} {fs : List (List UInt8 × FileX)} {x : FileX} (hp : plainF fs = D.files) (hx : mget n fs = some x) : mget n D.files = some x.f := by rw [← hp, mget_plain, hx]; rfl
theorem mget_x0 {D : DiskD} {n : List UInt8} {fs : List (List UInt8 × FileX)} (hp : plainF fs = D.files) (hx : mget n fs = none) : mget n D.files = none := by rw [← hp, mget_plain, hx]; rfl
theorem data_le {D : DiskD} (h : OkD D) {n : List UInt8} {f : FileD} (hm : mget n D.files = some f) : f.data.length ≤ 1048576 ∧ f.last ≤ f.data.length := by
  obtain ⟨l1, l2, h1, _⟩ := mget_split hm
  have hmem : (n, f) ∈ D.files := by rw [h1]; simp
  have h2 := usedL_mem hmem
  have h3 := h.used
  have h4 := h.roomN
  exact ⟨by simp only at h2; omega, h.last _ hmem⟩

theorem diskF_take {d mb : Nat} {a : DkA} {l1 l2 : List (List UInt8 × FileX)} {n : List UInt8} {x : FileX} (h : Holds B (DiskF d mb a (l1 ++ (n, x) :: l2) :: Γ) w) :
    Holds B (blk x.p (.cells (fA x.f x.s) ty_disk_file (0, 0)) :: Bytes ty_uint8 x.s x.f.data :: blk d (.cells (dA a mb) ty_disk_Disk (0, 0)) :: MapR strV fV mb (l1 ++ (n, x) :: l2) :: stars (l1.map fB) :: stars (l2.map fB) :: Γ) w := by
  replace h := DiskF.opens h
  replace h := P1 h
  replace h := P1 h
  replace h := P2 h
  try simp only [N1, N2, N3, N4, N5, N6, N7] at h
  replace h := files_take h
  replace h := P3 h
  replace h := P3 h
  replace h := P5 h
  replace h := P5 h
  replace h := P5 h
  replace h := P5 h
  try simp only [N1, N2, N3, N4, N5, N6, N7] at h
  exact h
theorem diskF_put {d mb : Nat} {a : DkA} {l1 l2 : List (List UInt8 × FileX)} {n : List UInt8} {x : FileX} {f : FileD} {s : Sl} (h : Holds B (blk x.p (.cells (fA f s) ty_disk_file (0, 0)) :: Bytes ty_uint8 s f.data :: blk d (.cells (dA a mb) ty_disk_Disk (0, 0)) :: MapR strV fV mb (l1 ++ (n, x) :: l2) :: stars (l1.map fB) :: stars (l2.map fB) :: Γ) w) :
    Holds B (DiskF d mb a (l1 ++ (n, ⟨f, x.p, s⟩) :: l2) :: Γ) w := by
  replace h := P3 h
  replace h := P3 h
  replace h := P5 h
  replace h := P5 h
  replace h := P5 h
  replace h := P5 h
  try simp only [N1, N2, N3, N4, N5, N6, N7] at h
  have h1 := files_put (n := n) (x := ⟨f, x.p, s⟩) h
  clear h
  have h := h1
  clear h1
  replace h := P1 h
  replace h := P2 h
  try simp only [N1, N2, N3, N4, N5, N6, N7] at h
  have h2 := mapR_congr (fs' := l1 ++ (n, ⟨f, x.p, s⟩) :: l2) (by simp) h
  exact DiskF.shuts h2.swap
theorem read_spec {d : Nat} {D : DiskD} {n : List UInt8} {k : Sl → Int → K} (hD : OkD D) (h : Holds B (DiskR d D :: Γ) w) (hk : ∀ s w, Holds B (Bytes ty_uint8 s (D.read n).1 :: DiskR d D :: Γ) w → k s (D.read n).2 w) : disk_Disk_Read.call (some ⟨d, 0, none⟩) (bs n) k w := by
  obtain ⟨mb, fs, hp, h⟩ := DiskR.opens h
  refine disk_Disk_Read_ok _ _ _ _ ?_
  unfold disk_Disk_Read
  unfold DiskD.read at hk
  refine find_spec h (fun hd w h => ?_) (fun hd hx w h => ?_) (fun x hd hx w h => ?_)
  · rw [if_pos hd] at hk
    refine r_ite_t rfl ?_
    exact hk _ _ ((DiskR.shuts rfl hp h).nilSl _ _)
  · rw [if_neg (by rw [hd]; simp), mget_x0 hp hx] at hk
    refine r_ite_t rfl ?_
    exact hk _ _ ((DiskR.shuts rfl hp h).nilSl _ _)
  · have hm := mget_x hp hx
    rw [if_neg (by rw [hd]; simp), hm] at hk
    refine r_ite_f rfl ?_
    obtain ⟨l1, l2, e1, _⟩ := mget_split hx
    rw [e1] at h hp
    replace h := diskF_take h
    refine r_nn rfl ?_
    refine r_ld (x := x.s) h rfl (by first | with_reducible exact M0 | with_reducible exact M1 | with_reducible exact M2 | with_reducible exact M3 | with_reducible exact M4 | with_reducible exact M5 | with_reducible exact M6 | with_reducible exact M7 | with_reducible exact M8 | with_reducible exact M9 | with_reducible exact M10 | with_reducible exact M11 | with_reducible exact M12) ?_ ?_
    · exact rfl
    refine slices_Clone_spec h (fun w h => Bytes.rd h (List.mem_cons_of_mem _ List.mem_cons_self)) (by have := (data_le hD hm).1; omega) fun s w h _ => ?_
    replace h := P6 h
    replace h := P6 h
    replace h := P6 h
    replace h := P6 h
    replace h := P6 h
    replace h := P6 h
    try simp only [N1, N2, N3, N4, N5, N6, N7] at h
    exact hk s _ (DiskR.shuts rfl hp (diskF_put h)).swap

theorem diskF_del {d mb : Nat} {a : DkA} {l1 l2 : List (List UInt8 × FileX)} (h : Holds B (stars (l1.map fB) :: stars (l2.map fB) :: blk d (.cells (dA a mb) ty_disk_Disk (0, 0)) :: MapR strV fV mb (l1 ++ l2) :: Γ) w) : Holds B (DiskF d mb a (l1 ++ l2) :: Γ) w := by
  have h2 := stars_app.2 h
  rw [← List.map_append] at h2
  replace h := h2
  replace h := P2 h
  replace h := P2 h
  try simp only [N1, N2, N3, N4, N5, N6, N7] at h
  exact DiskF.shuts h
theorem plain_app {l1 l2 : List (List UInt8 × FileX)} {n : List UInt8} {x : FileX} {D : DiskD} (hp : plainF (l1 ++ (n, x) :: l2) = D.files) (hx : mget n (l1 ++ (n, x) :: l2) = some x) (hms : ∀ v, mset n v (l1 ++ (n, x) :: l2) = l1 ++ (n, v) :: l2) (f : FileD) (p : Nat) (s : Sl) : plainF (l1 ++ (n, ⟨f, p, s⟩) :: l2) = mset n f D.files := by
  rw [← hp, ← hms]
  exact (mset_map (fun x : FileX => x.f) n (⟨f, p, s⟩ : FileX) _).symm

theorem sync_spec {d : Nat} {D : DiskD} {n : List UInt8} {k : Int → K} (hD : OkD D) (h : Holds B (DiskR d D :: Γ) w) (hk : ∀ w, OkD (D.sync n).1 → Holds B (DiskR d (D.sync n).1 :: Γ) w → k (D.sync n).2 w) : disk_Disk_Sync.call (some ⟨d, 0, none⟩) (bs n) k w := by
  obtain ⟨mb, fs, hp, h⟩ := DiskR.opens h
  refine disk_Disk_Sync_ok _ _ _ _ ?_
  unfold disk_Disk_Sync
  unfold DiskD.sync at hk
  refine find_spec h (fun hd w h => ?_) (fun hd hx w h => ?_) (fun x hd hx w h => ?_)
  · rw [if_pos hd] at hk
    refine r_ite_f rfl ?_
    unfold disk_Disk_Sync.s1 disk_Disk_Sync.s2
    exact r_ite_f rfl (hk _ hD (DiskR.shuts rfl hp h))
  · rw [if_neg (by rw [hd]; simp), mget_x0 hp hx] at hk
    refine r_ite_f rfl ?_
    unfold disk_Disk_Sync.s1 disk_Disk_Sync.s2
    exact r_ite_f rfl (hk _ hD (DiskR.shuts rfl hp h))
  · have hm := mget_x hp hx
    rw [if_neg (by rw [hd]; simp), hm] at hk
    simp only at hk
    refine r_ite_t rfl ?_
    refine change_spec hD.left h fun w h => ?_
    unfold disk_Disk_Sync.s1 disk_Disk_Sync.s2
    refine r_ite (fun hb => ?_) (fun hb => ?_)
    · simp only [decide_eq_true_eq] at hb
      rw [if_pos hb] at hk
      obtain ⟨l1, l2, e1, hms, _⟩ := mget_split hx
      rw [e1] at h hp hx hms
      replace h := diskF_take h
      refine r_nn rfl ?_
      refine r_ld (x := x.s) h rfl (by first | with_reducible exact M0 | with_reducible exact M1 | with_reducible exact M2 | with_reducible exact M3 | with_reducible exact M4 | with_reducible exact M5 | with_reducible exact M6 | with_reducible exact M7 | with_reducible exact M8 | with_reducible exact M9 | with_reducible exact M10 | with_reducible exact M11 | with_reducible exact M12) ?_ ?_
      · exact rfl
      have hsn := Bytes.len h.tail
      try simp only [add_mk, Nat.zero_add, Nat.reduceAdd]
      first | refine S0 h rfl ?_ rfl ?_ | refine S1 h rfl ?_ rfl ?_ | refine S2 h rfl ?_ rfl ?_ | refine S3 h rfl ?_ rfl ?_ | refine S4 h rfl ?_ rfl ?_ | refine S5 h rfl ?_ rfl ?_ | refine S6 h rfl ?_ rfl ?_ | refine S7 h rfl ?_ rfl ?_ | refine S8 h rfl ?_ rfl ?_
      · first | exact Nat.lt_of_ble_eq_true rfl | (simp; done) | (simp; omega)
      clear h
      intro w h
      try simp only [N1, N2, N3, N4, N5, N6, N7] at h
      rw [← hsn] at h
      have hdl := data_le hD hm
      refine hk _ ((hD.set (f' := ⟨x.f.data, x.f.data.length⟩) hm (Nat.le_refl _) (by have := hD.used; simp only; omega)).chg) (DiskR.shuts rfl ?_ (diskF_put (f := ⟨x.f.data, x.f.data.length⟩) h))
      exact plain_app hp hx hms _ _ _
    · simp only [decide_eq_false_iff_not] at hb
      rw [if_neg hb] at hk
      exact hk _ hD.chg (DiskR.shuts rfl hp h)

theorem remove_spec {d : Nat} {D : DiskD} {n : List UInt8} {k : Int → K} (hD : OkD D) (h : Holds B (DiskR d D :: Γ) w) (hk : ∀ w, OkD (D.remove n).1 → Holds B (DiskR d (D.remove n).1 :: Γ) w → k (D.remove n).2 w) : disk_Disk_Remove.call (some ⟨d, 0, none⟩) (bs n) k w := by
  obtain ⟨mb, fs, hp, h⟩ := DiskR.opens h
  refine disk_Disk_Remove_ok _ _ _ _ ?_
  unfold disk_Disk_Remove
  unfold DiskD.remove at hk
  refine find_spec h (fun hd w h => ?_) (fun hd hx w h => ?_) (fun x hd hx w h => ?_)
  · rw [if_pos hd] at hk
    refine r_ite_f rfl ?_
    unfold disk_Disk_Remove.s1 disk_Disk_Remove.s2
    exact r_ite_f rfl (hk _ hD (DiskR.shuts rfl hp h))
  · rw [if_neg (by rw [hd]; simp), mget_x0 hp hx] at hk
    refine r_ite_f rfl ?_
    unfold disk_Disk_Remove.s1 disk_Disk_Remove.s2
    exact r_ite_f rfl (hk _ hD (DiskR.shuts rfl hp h))
  · have hm := mget_x hp hx
    rw [if_neg (by rw [hd]; simp), hm] at hk
    simp only at hk
    refine r_ite_t rfl ?_
    refine change_spec hD.left h fun w h => ?_
    unfold disk_Disk_Remove.s1 disk_Disk_Remove.s2
    refine r_ite (fun hb => ?_) (fun hb => ?_)
    · simp only [decide_eq_true_eq] at hb
      rw [if_pos hb] at hk
      obtain ⟨l1, l2, e1, hms, hmd, _⟩ := mget_split hx
      replace h := DiskF.opens h
      refine r_nn rfl ?_
      try simp only [add_mk, Nat.zero_add, Nat.reduceAdd]
      refine r_ld (x := (some mb)) h rfl (by first | with_reducible exact M0 | with_reducible exact M1 | with_reducible exact M2 | with_reducible exact M3 | with_reducible exact M4 | with_reducible exact M5 | with_reducible exact M6 | with_reducible exact M7 | with_reducible exact M8 | with_reducible exact M9 | with_reducible exact M10 | with_reducible exact M11 | with_reducible exact M12) ?_ ?_
      · exact rfl
      replace h := P2 h
      replace h := P1 h
      replace h := P2 h
      try simp only [N1, N2, N3, N4, N5, N6, N7] at h
      refine r_mdelete (enc := strV) (cV := fV) (a := n) mapF keyE_str h fun w h => ?_
      rw [e1] at h hp hx hms hmd
      rw [hmd] at h
      replace h := P1 h
      replace h := P2 h
      try simp only [N1, N2, N3, N4, N5, N6, N7] at h
      replace h := files_take h
      replace h := (h.del 0 at0).del 0 at0
      try simp only [N1, N2, N3, N4, N5, N6, N7] at h
      refine hk _ (hD.del hm).1.chg (DiskR.shuts (mb := mb) (fs := l1 ++ l2) rfl ?_ (diskF_del h))
      show plainF (l1 ++ l2) = mdel n D.files
      rw [← hp, ← hmd]
      exact (mdel_map (fun x : FileX => x.f) n _).symm
    · simp only [decide_eq_false_iff_not] at hb
      rw [if_neg hb] at hk
      exact hk _ hD.chg (DiskR.shuts rfl hp h)
end
end Go.Proofs.Ytdpepgjbambinaa
