/- The disk: what it bears in memory, and its calls. -/
import Derived.Test.YtdpepgjbambinaaSKeys
import Derived.Test.YtdpepgjbambinaaSBy
import Derived.Test.YtdpepgjbambinaaIRDisk
namespace Go.Proofs.Ytdpepgjbambinaa
open Go Go.Sep
set_option linter.unusedSimpArgs false
set_option linter.unusedVariables false
set_option maxRecDepth 100000

structure FileD where
  data : List UInt8
  last : Nat
/-- Room, changes left, down. -/
structure DkA where
  room : Int
  left : Int
  down : Bool
structure DiskD where
  a : DkA
  files : List (List UInt8 × FileD)
structure FileX where
  f : FileD
  p : Nat
  s : Sl
abbrev fV (x : FileX) : Value := .pointer (some ⟨x.p, 0, none⟩)
abbrev fA (f : FileD) (s : Sl) : Array Value := #[s.val, .int .i64 (f.last : Int)]
def fB (x : List UInt8 × FileX) : HProp := stars [blk x.2.p (.cells (fA x.2.f x.2.s) ty_disk_file (0, 0)), Bytes ty_uint8 x.2.s x.2.f.data]
abbrev dA (a : DkA) (mb : Nat) : Array Value := #[.int .i64 a.room, .map (some mb), .int .i64 a.left, .bool a.down]
abbrev plainF (fs : List (List UInt8 × FileX)) : List (List UInt8 × FileD) := fs.map fun p => (p.1, p.2.f)
def DiskF (d mb : Nat) (a : DkA) (fs : List (List UInt8 × FileX)) : HProp := stars [blk d (.cells (dA a mb) ty_disk_Disk (0, 0)), MapR strV fV mb fs, stars (fs.map fB)]
def DiskR (d : Nat) (D : DiskD) : HProp := ex fun mb : Nat => ex fun fs : List (List UInt8 × FileX) => stars [pur (plainF fs = D.files), DiskF d mb D.a fs]

section
variable {B w : World} {Γ : List HProp}
theorem DiskR.opens {d : Nat} {D : DiskD} (h : Holds B (DiskR d D :: Γ) w) : ∃ mb fs, plainF fs = D.files ∧ Holds B (DiskF d mb D.a fs :: Γ) w := by
  obtain ⟨mb, h⟩ := Holds.ex.1 h
  obtain ⟨fs, h⟩ := Holds.ex.1 h
  obtain ⟨hp, h⟩ := Holds.pur.1 (Holds.flat.1 h)
  exact ⟨mb, fs, hp, h⟩
theorem DiskR.shuts {d mb : Nat} {D : DiskD} {a : DkA} {fs : List (List UInt8 × FileX)} (ha : a = D.a) (hp : plainF fs = D.files) (h : Holds B (DiskF d mb a fs :: Γ) w) : Holds B (DiskR d D :: Γ) w := by
  subst ha
  exact Holds.ex.2 ⟨mb, Holds.ex.2 ⟨fs, Holds.flat.2 (Holds.pur.2 ⟨hp, h⟩)⟩⟩
theorem DiskF.opens {d mb : Nat} {a : DkA} {fs : List (List UInt8 × FileX)} (h : Holds B (DiskF d mb a fs :: Γ) w) : Holds B (blk d (.cells (dA a mb) ty_disk_Disk (0, 0)) :: MapR strV fV mb fs :: stars (fs.map fB) :: Γ) w := Holds.flat.1 h
theorem DiskF.shuts {d mb : Nat} {a : DkA} {fs : List (List UInt8 × FileX)} (h : Holds B (blk d (.cells (dA a mb) ty_disk_Disk (0, 0)) :: MapR strV fV mb fs :: stars (fs.map fB) :: Γ) w) : Holds B (DiskF d mb a fs :: Γ) w := Holds.flat.2 h

theorem mget_split {α β : Type} [DecidableEq α] {k : α} {x : β} : ∀ {m : List (α × β)}, mget k m = some x → ∃ l1 l2, m = l1 ++ (k, x) :: l2 ∧ (∀ v, mset k v m = l1 ++ (k, v) :: l2) ∧ mdel k m = l1 ++ l2 ∧ ∀ p ∈ l1, p.1 ≠ k
  | [], h => by cases h
  | p :: m, h => by
    by_cases hk : k = p.1
    · simp only [mget, if_pos hk, Option.some.injEq] at h
      subst h
      refine ⟨[], m, by rw [hk]; rfl, fun v => by simp [mset, hk], by simp [mdel, hk], by simp⟩
    · simp only [mget, if_neg hk] at h
      obtain ⟨l1, l2, h1, h2, h3, h4⟩ := mget_split h
      refine ⟨p :: l1, l2, by rw [h1]; rfl, fun v => by simp [mset, hk, h2], by simp [mdel, hk, h3], fun q hq => ?_⟩
      rcases List.mem_cons.1 hq with rfl | hq
      · exact fun e => hk e.symm
      · exact h4 q hq
theorem mapR_congr {mb : Nat} {fs fs' : List (List UInt8 × FileX)} (he : fs.map (fun p => (strV p.1, fV p.2)) = fs'.map fun p => (strV p.1, fV p.2)) (h : Holds B (MapR strV fV mb fs :: Γ) w) : Holds B (MapR strV fV mb fs' :: Γ) w := by
  obtain ⟨es, c, ⟨hr, hst⟩, h⟩ := MapR.opens h
  exact MapR.shuts ⟨hr.trans he, hst⟩ h
theorem stars_app {L M : List HProp} : Holds B (stars (L ++ M) :: Γ) w ↔ Holds B (stars L :: stars M :: Γ) w := by
  constructor
  · intro h
    have h1 : Holds B ((L ++ M) ++ Γ) w := Holds.flat.1 h
    rw [List.append_assoc] at h1
    have h2 : Holds B (M ++ (L ++ Γ)) w := h1.perm (by rw [← List.append_assoc, ← List.append_assoc]; exact List.perm_append_comm.append_right Γ)
    have h3 : Holds B (stars M :: (L ++ Γ)) w := Holds.flat.2 h2
    have h4 : Holds B (L ++ (stars M :: Γ)) w := h3.perm List.perm_middle.symm
    exact Holds.flat.2 h4
  · intro h
    have h1 : Holds B (L ++ (stars M :: Γ)) w := Holds.flat.1 h
    have h2 : Holds B (stars M :: (L ++ Γ)) w := h1.perm List.perm_middle
    have h3 : Holds B (M ++ (L ++ Γ)) w := Holds.flat.1 h2
    refine Holds.flat.2 (h3.perm ?_)
    rw [← List.append_assoc]
    exact List.perm_append_comm.append_right Γ
theorem stars_cons {A : HProp} {L : List HProp} : Holds B (stars (A :: L) :: Γ) w ↔ Holds B (A :: stars L :: Γ) w := by
  constructor
  · intro h
    have h1 : Holds B (A :: (L ++ Γ)) w := Holds.flat.1 h
    have h2 : Holds B (L ++ (A :: Γ)) w := h1.perm List.perm_middle.symm
    exact (Holds.flat.2 h2 : Holds B (stars L :: A :: Γ) w).swap
  · intro h
    have h1 : Holds B (L ++ (A :: Γ)) w := Holds.flat.1 h.swap
    have h2 : Holds B (A :: (L ++ Γ)) w := h1.perm List.perm_middle
    exact Holds.flat.2 h2
/-- A file's block and bytes, taken out. -/
theorem files_take {l1 l2 : List (List UInt8 × FileX)} {n : List UInt8} {x : FileX} (h : Holds B (stars ((l1 ++ (n, x) :: l2).map fB) :: Γ) w) :
    Holds B (blk x.p (.cells (fA x.f x.s) ty_disk_file (0, 0)) :: Bytes ty_uint8 x.s x.f.data :: stars (l1.map fB) :: stars (l2.map fB) :: Γ) w := by
  rw [List.map_append, List.map_cons] at h
  have h1 := (stars_app.1 h).swap
  have h2 : Holds B (fB (n, x) :: stars (l2.map fB) :: stars (l1.map fB) :: Γ) w := stars_cons.1 h1
  have h3 := Holds.flat.1 h2
  simp only [List.cons_append, List.nil_append] at h3
  have h := h3
  replace h := P2 h
  replace h := P3 h
  replace h := P3 h
  replace h := P3 h
  try simp only [N1, N2, N3, N4, N5, N6, N7] at h
  exact h
theorem files_put {l1 l2 : List (List UInt8 × FileX)} {n : List UInt8} {x : FileX} (h : Holds B (blk x.p (.cells (fA x.f x.s) ty_disk_file (0, 0)) :: Bytes ty_uint8 x.s x.f.data :: stars (l1.map fB) :: stars (l2.map fB) :: Γ) w) :
    Holds B (stars ((l1 ++ (n, x) :: l2).map fB) :: Γ) w := by
  replace h := P2 h
  replace h := P3 h
  replace h := P3 h
  replace h := P3 h
  try simp only [N1, N2, N3, N4, N5, N6, N7] at h
  have h1 : Holds B (fB (n, x) :: stars (l2.map fB) :: stars (l1.map fB) :: Γ) w := Holds.flat.2 h
  have h2 : Holds B (stars (fB (n, x) :: l2.map fB) :: stars (l1.map fB) :: Γ) w := stars_cons.2 h1
  rw [List.map_append, List.map_cons]
  exact stars_app.2 h2.swap

theorem zero_file : zeroT Try.prog ty_p_disk_file (.pointer none) := zero_ty_p_disk_file
abbrev ptrF (o : Option FileX) : Option Addr := o.map fun x => ⟨x.p, 0, none⟩
theorem ptrF_val (o : Option FileX) : (o.map fV).getD (.pointer none) = Value.pointer (ptrF o) := by cases o <;> rfl
theorem r_file2 {mb : Nat} {fs : List (List UInt8 × FileX)} {n : List UInt8} {k : Option Addr → Bool → K} (i : Nat) (h : Holds B Γ w) (hi : Γ[i]? = some (MapR strV fV mb fs)) (hk : k (ptrF (mget n fs)) (mget n fs).isSome w) :
    Rd2 Try.prog (Instr.lookup ty_map_string_p_disk_file (.map (some mb)) (.string (bs n)) true) (fun x y => .tuple #[Value.pointer x, .bool y]) k w := by
  obtain ⟨es, c, ⟨hr, hst⟩, h⟩ := MapR.opens (h.pick i hi)
  have := run_lookZ (a := n) mapF keyE_str zero_file h.block hr true
  exact ⟨ptrF (mget n fs), _, by rw [ptrF_val] at this; exact this, hk⟩
theorem r_file1 {mb : Nat} {fs : List (List UInt8 × FileX)} {n : List UInt8} {k : Option Addr → K} (i : Nat) (h : Holds B Γ w) (hi : Γ[i]? = some (MapR strV fV mb fs)) (hk : k (ptrF (mget n fs)) w) :
    Rd Try.prog (Instr.lookup ty_map_string_p_disk_file (.map (some mb)) (.string (bs n)) false) Value.pointer k w := by
  obtain ⟨es, c, ⟨hr, hst⟩, h⟩ := MapR.opens (h.pick i hi)
  have := run_lookZ (a := n) mapF keyE_str zero_file h.block hr false
  exact ⟨ptrF (mget n fs), by rw [ptrF_val] at this; exact this, hk⟩
theorem mget_plain {n : List UInt8} {fs : List (List UInt8 × FileX)} : mget n (plainF fs) = (mget n fs).map FileX.f := mget_map (fun x : FileX => x.f) n fs

/-! ### the calls -/
def chg (a : DkA) : DkA × Int := if a.left = 0 then ({ a with down := true }, 3) else if 0 < a.left then ({ a with left := a.left - 1 }, 0) else (a, 0)
/-- A number of calls that fits. -/
def okA (a : DkA) : Prop := -9223372036854775808 < a.left ∧ a.left ≤ 9223372036854775807

theorem change_spec {d mb : Nat} {a : DkA} {fs : List (List UInt8 × FileX)} {k : Int → K} (ha : okA a) (h : Holds B (DiskF d mb a fs :: Γ) w) (hk : ∀ w, Holds B (DiskF d mb (chg a).1 fs :: Γ) w → k (chg a).2 w) : disk_Disk_change.call (some ⟨d, 0, none⟩) k w := by
  replace h := DiskF.opens h
  obtain ⟨ha1, ha2⟩ := ha
  unfold chg at hk
  refine disk_Disk_change_ok _ _ _ ?_
  unfold disk_Disk_change
  refine r_nn rfl ?_
  try simp only [add_mk, Nat.zero_add, Nat.reduceAdd]
  refine r_ld (x := a.left) h rfl (by first | with_reducible exact M0 | with_reducible exact M1 | with_reducible exact M2 | with_reducible exact M3 | with_reducible exact M4 | with_reducible exact M5 | with_reducible exact M6 | with_reducible exact M7 | with_reducible exact M8 | with_reducible exact M9 | with_reducible exact M10 | with_reducible exact M11 | with_reducible exact M12) ?_ ?_
  · exact rfl
  refine r_ite (fun hb => ?_) (fun hb => ?_)
  · simp only [decide_eq_true_eq] at hb
    rw [if_pos hb] at hk
    first | refine S0 h rfl ?_ rfl ?_ | refine S1 h rfl ?_ rfl ?_ | refine S2 h rfl ?_ rfl ?_ | refine S3 h rfl ?_ rfl ?_ | refine S4 h rfl ?_ rfl ?_ | refine S5 h rfl ?_ rfl ?_ | refine S6 h rfl ?_ rfl ?_ | refine S7 h rfl ?_ rfl ?_ | refine S8 h rfl ?_ rfl ?_
    · first | exact Nat.lt_of_ble_eq_true rfl | (simp; done) | (simp; omega)
    clear h
    intro w h
    try simp only [N1, N2, N3, N4, N5, N6, N7] at h
    exact hk _ (DiskF.shuts h)
  simp only [decide_eq_false_iff_not] at hb
  rw [if_neg hb] at hk
  refine r_ld (x := a.left) h rfl (by first | with_reducible exact M0 | with_reducible exact M1 | with_reducible exact M2 | with_reducible exact M3 | with_reducible exact M4 | with_reducible exact M5 | with_reducible exact M6 | with_reducible exact M7 | with_reducible exact M8 | with_reducible exact M9 | with_reducible exact M10 | with_reducible exact M11 | with_reducible exact M12) ?_ ?_
  · exact rfl
  refine r_ite (fun hb2 => ?_) (fun hb2 => ?_)
  · simp only [decide_eq_true_eq] at hb2
    rw [if_pos hb2] at hk
    refine r_ld (x := a.left) h rfl (by first | with_reducible exact M0 | with_reducible exact M1 | with_reducible exact M2 | with_reducible exact M3 | with_reducible exact M4 | with_reducible exact M5 | with_reducible exact M6 | with_reducible exact M7 | with_reducible exact M8 | with_reducible exact M9 | with_reducible exact M10 | with_reducible exact M11 | with_reducible exact M12) ?_ ?_
    · exact rfl
    refine r_add64 (by omega) (by omega) ?_
    first | refine S0 h rfl ?_ rfl ?_ | refine S1 h rfl ?_ rfl ?_ | refine S2 h rfl ?_ rfl ?_ | refine S3 h rfl ?_ rfl ?_ | refine S4 h rfl ?_ rfl ?_ | refine S5 h rfl ?_ rfl ?_ | refine S6 h rfl ?_ rfl ?_ | refine S7 h rfl ?_ rfl ?_ | refine S8 h rfl ?_ rfl ?_
    · first | exact Nat.lt_of_ble_eq_true rfl | (simp; done) | (simp; omega)
    clear h
    intro w h
    try simp only [N1, N2, N3, N4, N5, N6, N7] at h
    unfold disk_Disk_change.s1
    exact hk _ (DiskF.shuts h)
  · simp only [decide_eq_false_iff_not] at hb2
    rw [if_neg hb2] at hk
    unfold disk_Disk_change.s1
    exact hk _ (DiskF.shuts h)

theorem find_spec {d mb : Nat} {a : DkA} {fs : List (List UInt8 × FileX)} {n : List UInt8} {k : Option Addr → Int → K} (h : Holds B (DiskF d mb a fs :: Γ) w)
    (hd : a.down = true → ∀ w, Holds B (DiskF d mb a fs :: Γ) w → k none 3 w) (hn : a.down = false → mget n fs = none → ∀ w, Holds B (DiskF d mb a fs :: Γ) w → k none 60 w)
    (hs : ∀ x, a.down = false → mget n fs = some x → ∀ w, Holds B (DiskF d mb a fs :: Γ) w → k (some ⟨x.p, 0, none⟩) 0 w) : disk_Disk_find.call (some ⟨d, 0, none⟩) (bs n) k w := by
  replace h := DiskF.opens h
  refine disk_Disk_find_ok _ _ _ _ ?_
  unfold disk_Disk_find
  refine r_nn rfl ?_
  try simp only [add_mk, Nat.zero_add, Nat.reduceAdd]
  refine r_ld (x := (some mb)) h rfl (by first | with_reducible exact M0 | with_reducible exact M1 | with_reducible exact M2 | with_reducible exact M3 | with_reducible exact M4 | with_reducible exact M5 | with_reducible exact M6 | with_reducible exact M7 | with_reducible exact M8 | with_reducible exact M9 | with_reducible exact M10 | with_reducible exact M11 | with_reducible exact M12) ?_ ?_
  · exact rfl
  refine r_file2 1 h at1 ?_
  refine r_ld (x := a.down) h rfl (by first | with_reducible exact M0 | with_reducible exact M1 | with_reducible exact M2 | with_reducible exact M3 | with_reducible exact M4 | with_reducible exact M5 | with_reducible exact M6 | with_reducible exact M7 | with_reducible exact M8 | with_reducible exact M9 | with_reducible exact M10 | with_reducible exact M11 | with_reducible exact M12) ?_ ?_
  · exact rfl
  refine r_ite (fun hb => hd hb _ (DiskF.shuts h)) (fun hb => ?_)
  cases hm : mget n fs with
  | none => exact r_ite_t rfl (hn hb hm _ (DiskF.shuts h))
  | some x => exact r_ite_f rfl (hs x hb hm _ (DiskF.shuts h))

def named (n : List UInt8) : Bool := decide (n ≠ [] ∧ n.length ≤ 16)
theorem named_spec {n : List UInt8} {k : Bool → K} (h : Holds B Γ w) (hk : k (named n) w) : disk_named.call (bs n) k w := by
  refine disk_named_ok _ _ _ ?_
  unfold disk_named
  have e1 : (bs n).toList = n := by rw [show bs n = ByteArray.mk n.toArray from rfl, str_toList]
  have e2 : (⟨#[]⟩ : ByteArray).toList = [] := str_toList []
  have e3 : ((bs n).size : Int) = (n.length : Int) := by simp [bs, ByteArray.size]
  rw [e1, e2, e3]
  by_cases hn : n = []
  · refine r_ite_f (by simp [hn]) ?_
    unfold disk_named.s1
    have e : named n = false := by simp [named, hn]
    rw [e] at hk
    exact hk
  · refine r_ite_t (by simp [hn]) ?_
    unfold disk_named.s1
    have e : named n = decide ((n.length : Int) ≤ 16) := by
      unfold named
      by_cases h16 : n.length ≤ 16
      · rw [decide_eq_true ⟨hn, h16⟩, decide_eq_true (by omega)]
      · rw [decide_eq_false (fun hx => h16 hx.2), decide_eq_false (by omega)]
    rw [e] at hk
    exact hk

def DiskD.new (room : Int) : DiskD := ⟨⟨room, -1, false⟩, []⟩
theorem new_spec {room : Int} {k : Option Addr → Int → K} (h : Holds B Γ w) (hbad : room < 1 ∨ 1048576 < room → k none 1 w) (hok : ∀ d w, 1 ≤ room → room ≤ 1048576 → Holds B (DiskR d (.new room) :: Γ) w → k (some ⟨d, 0, none⟩) 0 w) : disk_New.call room k w := by
  refine disk_New_ok _ _ _ ?_
  unfold disk_New
  have s1 : ∀ b, (b = true → room < 1 ∨ 1048576 < room) → (b = false → 1 ≤ room ∧ room ≤ 1048576) → disk_New.s1 k room b w := fun b h1 h2 => by
    unfold disk_New.s1
    refine r_ite (fun hb => hbad (h1 hb)) (fun hb => ?_)
    obtain ⟨h3, h4⟩ := h2 hb
    refine r_mkMap (d := .string) (E := ty_p_disk_file) (enc := strV) (cV := fV) h fun mb w h => ?_
    refine r_new h ?_
    clear h
    intro d w h
    try simp only [add_mk, Nat.zero_add, Nat.reduceAdd]
    exact hok d _ h3 h4 (DiskR.shuts (D := .new room) (mb := mb) (fs := []) rfl rfl (DiskF.shuts (by
      have h5 := h.starsNil
      replace h := h5
      replace h := P2 h
      replace h := P2 h
      try simp only [N1, N2, N3, N4, N5, N6, N7] at h
      exact h)))
  refine r_ite (fun hb => ?_) (fun hb => ?_)
  · simp only [decide_eq_true_eq] at hb
    exact s1 _ (fun _ => .inl hb) (fun h => by cases h)
  · simp only [decide_eq_false_iff_not] at hb
    exact s1 _ (fun h => .inr (by simpa using h)) (fun h => by simp only [decide_eq_false_iff_not] at h; omega)
end
end Go.Proofs.Ytdpepgjbambinaa
