/- The log, in plain: what stands in its files; Append, Sync, a crash, Open (no program). -/
import Derived.Test.YtdpepgjbambinaaSWal4
import Derived.Test.YtdpepgjbambinaaSCrash3
namespace Go.Proofs.Ytdpepgjbambinaa
open Go Go.Sep
set_option linter.unusedSimpArgs false
set_option linter.unusedVariables false
set_option maxRecDepth 100000
def catF (rs : List (List UInt8)) : List UInt8 := rs.flatMap frameL
theorem catF_nil : catF [] = [] := rfl
theorem catF_cons (r : List UInt8) (rs : List (List UInt8)) : catF (r :: rs) = frameL r ++ catF rs := rfl
theorem catF_app (a b : List (List UInt8)) : catF (a ++ b) = catF a ++ catF b := List.flatMap_append
theorem catF_one (r : List UInt8) : catF [r] = frameL r := by simp [catF]
def Small (rs : List (List UInt8)) : Prop := ∀ r ∈ rs, r.length ≤ 4096
theorem unframe_part {r : List UInt8} (hr : r.length ≤ 4096) {m : Nat} (hm : m < (frameL r).length) : (frameL r).take m = [] ∨ (unframeL ((frameL r).take m)).2.2 ≠ 0 := by
  by_cases he : (unframeL ((frameL r).take m)).2.2 = 0
  · exfalso
    have hF := unfF ((frameL r).take m)
    obtain ⟨q1, q2, q3⟩ := hF.ok he
    have q4 := hF.small
    generalize hu : (unframeL ((frameL r).take m)).1 = b at q2 q3 q4
    generalize (unframeL ((frameL r).take m)).2.1 = n at q1 q2 q3
    have e1 : frameL b ++ (((frameL r).take m).drop n ++ (frameL r).drop m) = frameL r ++ [] := by
      rw [← List.append_assoc, ← q3, List.take_append_drop, List.append_nil]
    have e2 := frame_inj q4 hr e1
    have e3 := congrArg List.length e2.2
    have e4 := congrArg List.length q3
    simp only [List.length_append, List.length_drop, List.length_take, List.length_nil] at e3 e4
    omega
  · exact .inr he
theorem parse_take : ∀ (p : List (List UInt8)) (m : Nat), Small p → m ≤ (catF p).length → ∃ k, k ≤ p.length ∧ parseL ((catF p).take m) = (p.take k, (catF (p.take k)).length) ∧ (catF (p.take k)).length ≤ m ∧ (k < p.length → m < (catF (p.take (k + 1))).length)
  | [], m, _, hm => ⟨0, Nat.le_refl _, by simp [catF_nil, parse_nil], by simp [catF_nil], fun h => by simp at h⟩
  | r :: p, m, hs, hm => by
    have hr : r.length ≤ 4096 := hs r List.mem_cons_self
    have hfl := frameL_len r
    rw [catF_cons] at hm ⊢
    by_cases hlt : m < (frameL r).length
    · refine ⟨0, Nat.zero_le _, ?_, by simp [catF_nil], fun _ => by rw [List.take_succ_cons, List.take_zero, catF_one]; exact hlt⟩
      rw [List.take_append_of_le_length (by omega)]
      simp only [List.take_zero, catF_nil, List.length_nil]
      rcases unframe_part hr hlt with h | h
      · rw [h, parse_nil]
      · exact parse_bad h
    · rw [List.length_append] at hm
      obtain ⟨k, h1, h2, h3, h4⟩ := parse_take p (m - (frameL r).length) (fun x hx => hs x (List.mem_cons_of_mem _ hx)) (by omega)
      have e1 : (frameL r ++ catF p).take m = frameL r ++ (catF p).take (m - (frameL r).length) := by
        rw [List.take_append, List.take_of_length_le (by omega)]
      have hu := unframe_frame ((catF p).take (m - (frameL r).length)) hr
      refine ⟨k + 1, by simp; omega, ?_, ?_, fun hk => ?_⟩
      · rw [e1, parse_ok (by intro e; have h9 := congrArg List.length e; rw [List.length_append, List.length_nil] at h9; omega) (by rw [hu]), hu]
        simp only
        rw [← hfl, List.drop_left, h2, List.take_succ_cons, catF_cons, List.length_append]
      · rw [List.take_succ_cons, catF_cons, List.length_append]; omega
      · rw [List.take_succ_cons, catF_cons, List.length_append]
        have := h4 (by simpa using hk)
        omega
theorem catF_take_le (p : List (List UInt8)) (k : Nat) : (catF (p.take k)).length ≤ (catF p).length := by
  have h := catF_app (p.take k) (p.drop k)
  rw [List.take_append_drop] at h
  rw [h, List.length_append]; omega
theorem parse_cat {p : List (List UInt8)} (hs : Small p) : parseL (catF p) = (p, (catF p).length) := by
  obtain ⟨k, h1, h2, h3, h4⟩ := parse_take p (catF p).length hs (Nat.le_refl _)
  rw [List.take_length] at h2
  have hk : k = p.length := by
    by_cases hk : k < p.length
    · have := h4 hk
      have := catF_take_le p (k + 1)
      omega
    · omega
  rw [hk, List.take_length] at h2
  exact h2

/-! ### names of files -/
theorem fileW_inj {n : List UInt8} {i j : Nat} (hi : i ≤ 9) (hj : j ≤ 9) (h : fileW n i = fileW n j) : i = j := by
  unfold fileW at h
  have h1 := List.append_cancel_left h
  simp only [List.cons.injEq, and_true] at h1
  have h2 := congrArg UInt8.toNat h1
  rw [u8N, u8N] at h2
  omega
theorem mget_mset_self {n : List UInt8} {v : FileD} : ∀ m : Files, mget n (mset n v m) = some v
  | [] => if_pos rfl
  | p :: m => by
    unfold mset
    split
    · exact if_pos rfl
    · rename_i hne
      show (if n = p.1 then _ else _) = _
      rw [if_neg hne]
      exact mget_mset_self m
theorem mget_mset_ne {n n' : List UInt8} {v : FileD} (hn : n' ≠ n) : ∀ m : Files, mget n' (mset n v m) = mget n' m
  | [] => if_neg hn
  | p :: m => by
    unfold mset
    split
    · rename_i he
      show (if n' = n then _ else _) = if n' = p.1 then _ else _
      rw [if_neg hn, if_neg (fun e => hn (e.trans he.symm))]
    · show (if n' = p.1 then _ else _) = if n' = p.1 then _ else _
      rw [mget_mset_ne hn m]
theorem mset_len_le {n : List UInt8} {v : FileD} : ∀ m : Files, (mset n v m).length ≤ m.length + 1
  | [] => Nat.le_refl _
  | p :: m => by
    unfold mset
    split
    · simp
    · simp only [List.length_cons]
      have := mset_len_le (n := n) (v := v) m
      omega
theorem mset_used {n : List UInt8} {v : FileD} (m : Files) : usedL (mset n v m) + ((mget n m).getD ⟨[], 0⟩).data.length = usedL m + v.data.length := by
  cases hm : mget n m with
  | none =>
    rw [mset_none hm, usedL_app]
    simp [usedL]
  | some f =>
    obtain ⟨l1, l2, h1, h2, _⟩ := mget_split hm
    rw [h2]
    conv => rhs; rw [h1]
    rw [usedL_app, usedL_app]
    simp only [usedL, Option.getD_some]
    omega

/-- A disk with the power on. -/
structure Free (D : DiskD) : Prop where
  left : D.a.left = -1
  down : D.a.down = false
theorem chg_fr {a : DkA} (h : a.left = -1) : chg a = (a, 0) := by
  unfold chg
  rw [if_neg (by omega), if_neg (by omega)]
theorem append_free {D : DiskD} {n x : List UInt8} (hF : Free D) (hn : named n = true) (hfew : D.files.length < 32) (hroom : (usedL D.files : Int) + x.length ≤ D.a.room) :
    D.append n x = (⟨D.a, mset n ⟨((mget n D.files).getD ⟨[], 0⟩).data ++ x, ((mget n D.files).getD ⟨[], 0⟩).last⟩ D.files⟩, 0) := by
  unfold DiskD.append
  rw [if_neg (by rw [hF.down]; decide), if_neg (by rw [hn]; decide), if_neg, chg_fr hF.left]
  rintro (h | h)
  · omega
  · omega
theorem sync_free {D : DiskD} {n : List UInt8} {f : FileD} (hF : Free D) (hm : mget n D.files = some f) : D.sync n = (⟨D.a, mset n ⟨f.data, f.data.length⟩ D.files⟩, 0) := by
  unfold DiskD.sync
  rw [if_neg (by rw [hF.down]; decide), hm]
  simp only [chg_fr hF.left, if_true]

/-! ### a log and its files -/
structure LogI (W : WalD) (D : DiskD) (q : List (List (List UInt8))) (p : List (List UInt8)) (lk : Nat) (there : Bool) : Prop where
  name : 1 ≤ W.name.length ∧ W.name.length ≤ 8
  size : 16 ≤ W.size ∧ W.size ≤ 65536
  qf : ∀ i x, q[i]? = some x → mget (fileW W.name i) D.files = some ⟨catF x, (catF x).length⟩
  pf : mget (fileW W.name q.length) D.files = if there = true then some ⟨catF p, lk⟩ else none
  new : there = false → p = [] ∧ q = [] ∧ lk = 0
  no : ∀ i, q.length < i → i ≤ 9 → mget (fileW W.name i) D.files = none
  qlen : q.length ≤ 9
  part : W.part = q.length
  used : W.used = (catF p).length
  recs : W.recs = q.flatten ++ p
  dirty : W.dirty = false → lk = (catF p).length
  mark : ∃ j, j ≤ p.length ∧ lk = (catF (p.take j)).length
  small : Small p ∧ ∀ x ∈ q, Small x
theorem named_file {n : List UInt8} {i : Nat} (h1 : 1 ≤ n.length) (h2 : n.length ≤ 8) : named (fileW n i) = true := by
  unfold named fileW
  simp
  omega

/-- The first n records last. -/
def Lasts (q : List (List (List UInt8))) (p : List (List UInt8)) (lk n : Nat) : Prop := ∃ j, j ≤ p.length ∧ lk = (catF (p.take j)).length ∧ n ≤ q.flatten.length + j
def cntL (q : List (List (List UInt8))) (there : Bool) : Nat := q.length + if there = true then 1 else 0
/-- What a call on a log leaves alone, and what it uses. -/
structure Beside (W : WalD) (D D' : DiskD) (n : Nat) : Prop where
  a : D'.a = D.a
  used : usedL D'.files ≤ usedL D.files + n
  few : D'.files.length ≤ D.files.length + 1
  others : ∀ m, (∀ k, k ≤ 9 → m ≠ fileW W.name k) → mget m D'.files = mget m D.files
theorem Beside.refl (W : WalD) (D : DiskD) (n : Nat) : Beside W D D n := ⟨rfl, by omega, by omega, fun _ _ => rfl⟩
section
variable {W : WalD} {D : DiskD} {q : List (List (List UInt8))} {p : List (List UInt8)} {lk : Nat} {there : Bool}
theorem logI_sync (hI : LogI W D q p lk there) (hF : Free D) (ht : there = true ∨ W.dirty = false) : ∃ D' W', W.syncW D = (D', W', 0) ∧ LogI W' D' q p (catF p).length there ∧ W'.dirty = false ∧ W'.name = W.name ∧ W'.size = W.size ∧ W'.recs = W.recs ∧ W'.part = W.part ∧ W'.used = W.used ∧ D'.a = D.a ∧ usedL D'.files = usedL D.files ∧ D'.files.length = D.files.length ∧ ∀ m, m ≠ fileW W.name W.part → mget m D'.files = mget m D.files := by
  have hpt := hI.part
  unfold WalD.syncW
  by_cases hd : W.dirty = false
  · rw [if_pos hd]
    have hlk := hI.dirty hd
    refine ⟨D, W, rfl, ?_, hd, rfl, rfl, rfl, rfl, rfl, rfl, rfl, rfl, fun _ _ => rfl⟩
    rw [← hlk]
    exact hI
  · rw [if_neg hd]
    have ht' : there = true := by
      rcases ht with h | h
      · exact h
      · exact absurd h hd
    have hpf := hI.pf
    rw [if_pos ht'] at hpf
    rw [← hpt] at hpf
    rw [sync_free hF hpf]
    have hu := mset_used (n := fileW W.name W.part) (v := ⟨catF p, (catF p).length⟩) D.files
    rw [hpf] at hu
    simp only [Option.getD_some] at hu
    have hlen : (mset (fileW W.name W.part) ⟨catF p, (catF p).length⟩ D.files).length = D.files.length := by
      obtain ⟨l1, l2, h1, h2, _⟩ := mget_split hpf
      rw [h2]
      conv => rhs; rw [h1]
      simp
    refine ⟨_, _, rfl, ?_, by simp, rfl, rfl, rfl, rfl, rfl, rfl, (by simp only; omega), hlen, fun m hm => mget_mset_ne hm _⟩
    refine ⟨hI.name, hI.size, fun i x hx => ?_, ?_, fun hf => ?_, fun i h1 h2 => ?_, hI.qlen, hI.part, hI.used, hI.recs, fun _ => rfl, ⟨p.length, Nat.le_refl _, by rw [List.take_length]⟩, hI.small⟩
    · have hil : i < q.length := (List.getElem?_eq_some_iff.1 hx).1
      have hql := hI.qlen
      show mget (fileW W.name i) (mset _ _ D.files) = _
      rw [mget_mset_ne (fun e => by have := fileW_inj (by omega) (by omega) e; omega)]
      exact hI.qf i x hx
    · show mget (fileW W.name q.length) (mset _ _ D.files) = _
      rw [if_pos ht', ← hpt, mget_mset_self]
    · rw [ht'] at hf; cases hf
    · have hql := hI.qlen
      show mget (fileW W.name i) (mset _ _ D.files) = _
      rw [mget_mset_ne (fun e => by have := fileW_inj (by omega) (by omega) e; omega)]
      exact hI.no i h1 h2

/-- A record comes behind the others of the last part. -/
theorem logI_put (hI : LogI W D q p lk there) (hF : Free D) {r : List UInt8} (hr : r.length ≤ 4096) (hfew : D.files.length < 32) (hroom : (usedL D.files : Int) + (6 + r.length) ≤ D.a.room) :
    ∃ D' W', W.put D W.part W.used r = (D', W', 0) ∧ LogI W' D' q (p ++ [r]) lk true ∧ W'.name = W.name ∧ W'.size = W.size ∧ W'.recs = W.recs ++ [r] ∧ Beside W D D' (6 + r.length) ∧ (∀ n, Lasts q p lk n → Lasts q (p ++ [r]) lk n) ∧ D'.files.length + cntL q there ≤ D.files.length + cntL q true := by
  have hpt := hI.part
  have hfl := frameL_len r
  have hql := hI.qlen
  unfold WalD.put
  rw [append_free hF (named_file hI.name.1 hI.name.2) hfew (by omega)]
  simp only
  rw [if_neg (by simp)]
  have hget : ((mget (fileW W.name W.part) D.files).getD ⟨[], 0⟩) = ⟨catF p, lk⟩ := by
    rw [hpt, hI.pf]
    cases there with
    | true => rfl
    | false => obtain ⟨h1, _, h3⟩ := hI.new rfl; rw [h1, h3]; rfl
  rw [hget]
  simp only
  have hcat : catF p ++ frameL r = catF (p ++ [r]) := by rw [catF_app, catF_one]
  rw [hcat]
  have hu := mset_used (n := fileW W.name W.part) (v := ⟨catF (p ++ [r]), lk⟩) D.files
  rw [hget] at hu
  simp only [catF_app, catF_one, List.length_append] at hu
  have hlen := mset_len_le (n := fileW W.name W.part) (v := ⟨catF (p ++ [r]), lk⟩) D.files
  refine ⟨_, _, rfl, ?_, rfl, rfl, rfl, ⟨rfl, ?_, hlen, fun m hm => mget_mset_ne (hm _ (by omega)) _⟩, fun n hn => ?_, ?_⟩
  · refine ⟨hI.name, hI.size, fun i x hx => ?_, ?_, (fun hf => by cases hf), fun i h1 h2 => ?_, hI.qlen, hI.part, ?_, ?_, (fun hf => by cases hf), ?_, ?_⟩
    · have hil : i < q.length := (List.getElem?_eq_some_iff.1 hx).1
      show mget (fileW W.name i) (mset _ _ D.files) = _
      rw [mget_mset_ne (fun e => by have := fileW_inj (by omega) (by omega) e; omega)]
      exact hI.qf i x hx
    · show mget (fileW W.name q.length) (mset _ _ D.files) = _
      rw [if_pos rfl, ← hpt, mget_mset_self]
    · show mget (fileW W.name i) (mset _ _ D.files) = _
      rw [mget_mset_ne (fun e => by have := fileW_inj (by omega) (by omega) e; omega)]
      exact hI.no i h1 h2
    · show W.used + (frameL r).length = _
      rw [catF_app, catF_one, List.length_append, hI.used]
    · show W.recs ++ [r] = _
      rw [hI.recs, List.append_assoc]
    · obtain ⟨j, h1, h2⟩ := hI.mark
      exact ⟨j, by simp; omega, by rw [List.take_append_of_le_length h1]; exact h2⟩
    · refine ⟨fun x hx => ?_, hI.small.2⟩
      rcases List.mem_append.1 hx with hx | hx
      · exact hI.small.1 x hx
      · simp only [List.mem_singleton] at hx
        subst hx; exact hr
  · show usedL (mset _ _ D.files) ≤ _
    rw [hfl] at hu
    simp only [catF_app, catF_one]
    omega
  · obtain ⟨j, j1, j2, j3⟩ := hn
    exact ⟨j, by simp; omega, by rw [List.take_append_of_le_length j1]; exact j2, j3⟩
  · show (mset _ _ D.files).length + _ ≤ _
    unfold cntL
    cases there with
    | false => simp; omega
    | true =>
      have hpf := hI.pf
      rw [if_pos rfl, ← hpt] at hpf
      obtain ⟨l1, l2, g1, g2, _⟩ := mget_split hpf
      rw [g2]
      have : D.files.length = (l1 ++ (fileW W.name W.part, (⟨catF p, lk⟩ : FileD)) :: l2).length := congrArg List.length g1
      simp only [List.length_append, List.length_cons] at this ⊢
      omega

/-- Append: the record is there, or the log is full. -/
theorem logI_app (hI : LogI W D q p lk there) (hF : Free D) {r : List UInt8} (hr : r.length ≤ 4096) (hfew : D.files.length < 32) (hroom : (usedL D.files : Int) + (6 + r.length) ≤ D.a.room) :
    (W.app D r = (D, W, 2) ∧ W.part = 9 ∧ there = true) ∨ ∃ D' W' q' p' lk', W.app D r = (D', W', 0) ∧ LogI W' D' q' p' lk' true ∧ W'.name = W.name ∧ W'.size = W.size ∧ W'.recs = W.recs ++ [r] ∧ Beside W D D' (6 + r.length) ∧ (∀ n, Lasts q p lk n → Lasts q' p' lk' n) ∧ D'.files.length + cntL q there ≤ D.files.length + cntL q' true := by
  unfold WalD.app
  have hpt := hI.part
  have hql := hI.qlen
  by_cases hc : 0 < W.used ∧ W.size < ((W.used + (frameL r).length : Nat) : Int)
  · rw [if_pos hc]
    have ht : there = true := by
      cases there with
      | true => rfl
      | false =>
        obtain ⟨h1, _⟩ := hI.new rfl
        have := hI.used
        rw [h1, catF_nil] at this
        simp at this
        omega
    by_cases h9 : W.part = 9
    · rw [if_pos h9]; exact .inl ⟨rfl, h9, ht⟩
    rw [if_neg h9]
    obtain ⟨D1, W1, e1, hI1, hd1, hn1, hs1, hr1, hp1, hu1, ha1, hU1, hL1, hO1⟩ := logI_sync hI hF (.inl ht)
    rw [e1]
    simp only
    rw [if_neg (by simp)]
    right
    -- the new part
    have hfl := frameL_len r
    have hF1 : Free D1 := ⟨by rw [ha1]; exact hF.left, by rw [ha1]; exact hF.down⟩
    have hnew : mget (fileW W1.name (W.part + 1)) D1.files = none := by
      have := hI1.no (W.part + 1) (by omega) (by omega)
      exact this
    unfold WalD.put
    rw [append_free hF1 (named_file hI1.name.1 hI1.name.2) (by omega) (by rw [ha1]; omega), hnew]
    simp only [Option.getD_none, List.nil_append]
    rw [if_neg (by simp)]
    have hlen := mset_len_le (n := fileW W1.name (W.part + 1)) (v := ⟨frameL r, 0⟩) D1.files
    have hu := mset_used (n := fileW W1.name (W.part + 1)) (v := ⟨frameL r, 0⟩) D1.files
    rw [hnew] at hu
    simp only [Option.getD_none, List.length_nil, Nat.add_zero] at hu
    refine ⟨_, _, q ++ [p], [r], 0, rfl, ?_, hn1, hs1, by simp only; rw [hr1], ⟨ha1, ?_, by simp only; omega, fun m hm => ?_⟩, fun n hn => ?_, ?_⟩
    · refine ⟨hI1.name, hI1.size, fun i x hx => ?_, ?_, (fun hf => by cases hf), fun i h1 h2 => ?_, ?_, ?_, ?_, ?_, (fun hf => by cases hf), ⟨0, Nat.zero_le _, rfl⟩, ⟨?_, ?_⟩⟩
      · have hil : i < (q ++ [p]).length := (List.getElem?_eq_some_iff.1 hx).1
        simp only [List.length_append, List.length_singleton] at hil
        show mget (fileW W1.name i) (mset _ _ D1.files) = _
        rw [mget_mset_ne (fun e => by have := fileW_inj (by omega) (by omega) e; omega)]
        by_cases hiq : i < q.length
        · rw [List.getElem?_append_left hiq] at hx
          exact hI1.qf i x hx
        · have : i = q.length := by omega
          subst this
          rw [List.getElem?_append_right (Nat.le_refl _), Nat.sub_self] at hx
          simp only [List.getElem?_cons_zero, Option.some.injEq] at hx
          subst hx
          have := hI1.pf
          rw [if_pos ht] at this
          exact this
      · show mget (fileW W1.name (q ++ [p]).length) (mset _ _ D1.files) = _
        rw [if_pos rfl, show (q ++ [p]).length = W.part + 1 by simp; omega, mget_mset_self, catF_one]
      · simp only [List.length_append, List.length_singleton] at h1
        show mget (fileW W1.name i) (mset _ _ D1.files) = _
        rw [mget_mset_ne (fun e => by have := fileW_inj (by omega) (by omega) e; omega)]
        exact hI1.no i (by omega) h2
      · simp; omega
      · show W.part + 1 = _
        simp; omega
      · show 0 + (frameL r).length = _
        rw [catF_one, Nat.zero_add]
      · show W1.recs ++ [r] = _
        rw [hr1, hI.recs]; simp
      · intro x hx
        simp only [List.mem_singleton] at hx
        subst hx; exact hr
      · intro x hx
        rcases List.mem_append.1 hx with hx | hx
        · exact hI.small.2 x hx
        · simp only [List.mem_singleton] at hx
          subst hx; exact hI.small.1
    · show usedL (mset _ _ D1.files) ≤ _
      omega
    · show mget m (mset _ _ D1.files) = _
      rw [mget_mset_ne (by rw [hn1]; exact hm _ (by omega)), hO1 m (hm _ (by omega))]
    · obtain ⟨j, j1, j2, j3⟩ := hn
      exact ⟨0, Nat.zero_le _, rfl, by rw [List.flatten_append, List.length_append, List.flatten_cons, List.flatten_nil, List.append_nil]; omega⟩
    · show (mset _ _ D1.files).length + _ ≤ _
      unfold cntL
      rw [if_pos ht]
      simp
      omega
  · rw [if_neg hc]
    right
    obtain ⟨D', W', h1, h2, h3, h4, h5, h6, h7, h8⟩ := logI_put hI hF hr hfew hroom
    exact ⟨D', W', q, p ++ [r], lk, h1, h2, h3, h4, h5, h6, h7, h8⟩
end
end Go.Proofs.Ytdpepgjbambinaa
