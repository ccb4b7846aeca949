/- The store: its records, and what its functions do to them. -/
import Derived.Test.YtfjjocopmknhgaaSBtS
import Derived.Test.YtfjjocopmknhgaaSBytes
import Derived.Test.YtfjjocopmknhgaaIRStore
namespace Go.Proofs.Ytfjjocopmknhgaa
open Go Go.Sep Go.Sep.Bt
set_option linter.unusedSimpArgs false
set_option linter.unusedVariables false
set_option maxRecDepth 100000

structure Rec where
  has : Bool
  val : List UInt8
  home : Int
  cnt : Int
def Rec.ok (r : Rec) : Prop := 0 ≤ r.cnt ∧ r.cnt ≤ 18446744073709551615 ∧ r.val.length ≤ 1000000000
abbrev recL (r : Rec) (s : Sl) : List Value := [.bool r.has, s.val, .int .i64 r.home, .int .u64 r.cnt]
abbrev recA (r : Rec) (s : Sl) : Array Value := #[.bool r.has, s.val, .int .i64 r.home, .int .u64 r.cnt]
abbrev recC (x : Rec × Sl) : Cel 4 := ⟨recL x.1 x.2, rfl, rfl⟩
abbrev Recs := List (ByteArray × Rec)
abbrev RecX := ByteArray × (Rec × Sl)
abbrev recB (x : RecX) : HProp := Bytes ty_uint8 x.2.2 x.2.1.val
abbrev recI (x : RecX) : btS.It := (x.1, recC x.2)
abbrev recM (x : RecX) : ByteArray × Rec := (x.1, x.2.1)
/-- The first home of a key. -/
def homeOf (k : List UInt8) (n : Nat) : Nat := k.foldl (fun s b => (s + b.toNat) % n) 0
def getM (M : Recs) (k : ByteArray) : Option Rec := (M.find? fun x => decide (x.1 = k)).map Prod.snd
def putM (M : Recs) (k : ByteArray) (r : Rec) : Recs := match M with
  | [] => [(k, r)]
  | x :: M => if cmpS x.1 k < 0 then x :: putM M k r else if x.1 = k then (k, r) :: M else (k, r) :: x :: M
def sGet (n : Nat) (M : Recs) (k : ByteArray) : Rec := (getM M k).getD ⟨false, [], homeOf k.toList n, 0⟩
def sMove (n : Nat) (M : Recs) (k : ByteArray) (h : Int) : Recs × Int :=
  if h < 0 ∨ (n : Int) ≤ h then (M, 1) else if (sGet n M k).cnt = 18446744073709551615 then (M, 111) else (putM M k { sGet n M k with home := h, cnt := (sGet n M k).cnt + 1 }, 0)
theorem getM_put (M : Recs) (k k' : ByteArray) (r : Rec) : getM (putM M k r) k' = if k' = k then some r else getM M k' := by
  induction M with
  | nil => by_cases h : k' = k <;> simp [putM, getM, h, eq_comm]
  | cons x M ih =>
    unfold putM
    split
    · rename_i h
      have hx : x.1 ≠ k := fun e => by rw [e] at h; have := cmpS_neg.1 h; exact List.lt_irrefl _ this
      by_cases h2 : k' = k
      · subst h2
        have := ih
        simp only [getM, List.find?_cons, if_true] at this ⊢
        rw [show decide (x.1 = k') = false by simpa using hx]
        simpa using this
      · simp only [if_neg h2] at ih ⊢
        by_cases h3 : x.1 = k'
        · simp [getM, List.find?_cons, h3]
        · simp only [getM, List.find?_cons, show decide (x.1 = k') = false by simpa using h3]
          simpa [getM] using ih
    · split
      · rename_i h h1
        by_cases h2 : k' = k
        · subst h2; simp [getM]
        · simp [getM, List.find?_cons, h2, Ne.symm h2, h1]
      · rename_i h h1
        by_cases h2 : k' = k
        · subst h2; simp [getM]
        · simp [getM, List.find?_cons, h2, Ne.symm h2]
theorem putM_len (M : Recs) (k : ByteArray) (r : Rec) : (putM M k r).length ≤ M.length + 1 := by
  induction M with
  | nil => simp [putM]
  | cons x M ih =>
    unfold putM
    split
    · simp; omega
    · split <;> simp
theorem putM_mem {M : Recs} {k : ByteArray} {r : Rec} {x : ByteArray × Rec} (h : x ∈ putM M k r) : x = (k, r) ∨ x ∈ M := by
  induction M with
  | nil => simpa [putM] using h
  | cons y M ih =>
    unfold putM at h
    split at h
    · rcases List.mem_cons.1 h with rfl | h
      · exact .inr List.mem_cons_self
      · rcases ih h with h | h
        · exact .inl h
        · exact .inr (List.mem_cons_of_mem _ h)
    · split at h
      · rcases List.mem_cons.1 h with rfl | h
        · exact .inl rfl
        · exact .inr (List.mem_cons_of_mem _ h)
      · rcases List.mem_cons.1 h with rfl | h
        · exact .inl rfl
        · exact .inr h
theorem sGet_put (n : Nat) (M : Recs) (k k' : ByteArray) (r : Rec) : sGet n (putM M k r) k' = if k' = k then r else sGet n M k' := by
  unfold sGet
  rw [getM_put]
  split <;> simp
theorem getM_mem {M : Recs} {k : ByteArray} {r : Rec} (h : getM M k = some r) : (k, r) ∈ M := by
  simp only [getM, Option.map_eq_some_iff] at h
  obtain ⟨x, hx, rfl⟩ := h
  have h1 := List.mem_of_find?_eq_some hx
  have h2 := List.find?_some hx
  simp only [decide_eq_true_eq] at h2
  rw [← h2]; exact h1
theorem getM_mid {A C : Recs} {k : ByteArray} {r : Rec} (hA : ∀ x ∈ A, x.1 ≠ k) : getM (A ++ (k, r) :: C) k = some r := by
  unfold getM
  rw [List.find?_append, List.find?_eq_none.2 (fun x hx => by simpa using hA x hx)]
  simp
theorem getM_none {M : Recs} {k : ByteArray} (h : ∀ x ∈ M, x.1 ≠ k) : getM M k = none := by
  unfold getM
  rw [List.find?_eq_none.2 (fun x hx => by simpa using h x hx)]; rfl
theorem putM_mid {A C : Recs} {k : ByteArray} {r0 r : Rec} (hA : ∀ x ∈ A, cmpS x.1 k < 0) : putM (A ++ (k, r0) :: C) k r = A ++ (k, r) :: C := by
  induction A with
  | nil =>
    have : ¬ cmpS k k < 0 := fun h => List.lt_irrefl _ (cmpS_neg.1 h)
    simp [putM, this]
  | cons x A ih =>
    rw [List.cons_append, putM, if_pos (hA x List.mem_cons_self), ih (fun y hy => hA y (List.mem_cons_of_mem _ hy))]; rfl
theorem putM_new {A C : Recs} {k : ByteArray} {r : Rec} (hA : ∀ x ∈ A, cmpS x.1 k < 0) (hC : ∀ x ∈ C, cmpS k x.1 < 0) : putM (A ++ C) k r = A ++ (k, r) :: C := by
  induction A with
  | nil =>
    cases C with
    | nil => rfl
    | cons y C =>
      have h := cmpS_neg.1 (hC y List.mem_cons_self)
      have h1 : ¬ cmpS y.1 k < 0 := fun h2 => List.lt_irrefl _ (List.lt_trans h (cmpS_neg.1 h2))
      have h2 : ¬ y.1 = k := fun e => by rw [e] at h; exact List.lt_irrefl _ h
      simp [putM, h1, h2]
  | cons x A ih =>
    rw [List.cons_append, putM, if_pos (hA x List.mem_cons_self), ih (fun y hy => hA y (List.mem_cons_of_mem _ hy))]; rfl

/-- A store of some regions. -/
def StoreR (st n : Nat) (M : Recs) : HProp := ex fun t => ex fun X : List RecX => Sep.stars [pur (M = X.map recM ∧ (∀ x ∈ M, x.2.ok) ∧ 1 ≤ n ∧ n ≤ 3), blk st (.cells [.int .i64 n, .pointer (some ⟨t, 0, none⟩)].toArray ty_store_Store (0, 0)), TreeR btS cmpS t (X.map recI), Sep.stars (X.map recB)]
section
variable {B : World} {Γ Δ : List HProp}
instance (priority := high) own_store {st n : Nat} {M : Recs} : Sep.Own st (StoreR st n M :: Γ) (StoreR st n M) Γ := ⟨.refl _⟩
theorem s_store {st n : Nat} {M : Recs} {k : K} (h : ∀ t (X : List RecX), M = X.map recM → (∀ x ∈ M, x.2.ok) → 1 ≤ n → n ≤ 3 → HG B (blk st (.cells [.int .i64 n, .pointer (some ⟨t, 0, none⟩)].toArray ty_store_Store (0, 0)) :: TreeR btS cmpS t (X.map recI) :: Sep.stars (X.map recB) :: Γ) k) : HG B (StoreR st n M :: Γ) k :=
  s_ex fun t => s_ex fun X => s_flat <| s_pur fun ⟨h1, h2, h3, h4⟩ => h t X h1 h2 h3 h4
theorem s_mkStore {st n t : Nat} {X : List RecX} {k : K} (h2 : ∀ x ∈ X.map recM, x.2.ok) (h3 : 1 ≤ n) (h4 : n ≤ 3) (h : HG B (StoreR st n (X.map recM) :: Γ) k) : HG B (blk st (.cells [.int .i64 n, .pointer (some ⟨t, 0, none⟩)].toArray ty_store_Store (0, 0)) :: TreeR btS cmpS t (X.map recI) :: Sep.stars (X.map recB) :: Γ) k := fun w hw => by
  refine h w ?_
  have h3 : Holds B (Sep.stars [pur (X.map recM = X.map recM ∧ (∀ x ∈ X.map recM, x.2.ok) ∧ 1 ≤ n ∧ n ≤ 3), blk st (.cells [.int .i64 n, .pointer (some ⟨t, 0, none⟩)].toArray ty_store_Store (0, 0)), TreeR btS cmpS t (X.map recI), Sep.stars (X.map recB)] :: Γ) w := Holds.flat.2 (Holds.pur.2 ⟨⟨rfl, h2, h3, h4⟩, hw⟩)
  exact h3.imp fun g hg => ⟨t, X, hg⟩

theorem Default_spec {k : ByteArray} {n : Nat} {q : Int → K} (h1 : 1 ≤ n) (hn : n ≤ 1000) (hk : k.size < 1000000000000) (h : HG B Γ (q (homeOf k.toList n : Nat))) : HG B Γ (store_Default.call k n q) := fun w hw => by
  refine store_Default_ok _ _ _ _ ?_
  refine hg hw ?_
  clear hw w
  unfold store_Default
  refine s_f ?_
  obtain ⟨l, rfl⟩ := bs_of k
  rw [bs_list] at h
  have hsz : (bs l).size = l.length := rfl
  refine s_loopC (fun x : Int × Int => ∃ i s : Nat, x = ((s : Int), (i : Int)) ∧ i ≤ l.length ∧ s = homeOf (l.take i) n ∧ s < n) (fun x => l.length - x.2.toNat) ⟨0, 0, rfl, Nat.zero_le _, rfl, by omega⟩ fun k' x hx hk' => ?_
  obtain ⟨i, s, rfl, hi, hs, hsn⟩ := hx
  unfold store_Default.b1
  dsimp only
  refine s_ite (fun hb => ?_) fun hb => ?_
  · have hil : i < l.length := by simp only [decide_eq_true_eq] at hb; omega
    refine fun w hw => ⟨(l[i].toNat : Int), l[i], by omega, ?_, rfl, hg hw ?_⟩
    · show (bs l)[((i : Nat) : Int).toNat]? = _
      rw [Int.toNat_natCast]
      exact Array.getElem?_eq_getElem (xs := l.toArray) (by simpa using hil)
    have hb8 : l[i].toNat < 256 := l[i].toNat_lt
    refine s_ai ?_
    refine s_ai ?_
    refine s_cd (by omega) ?_
    refine s_ar (e' := (((s + l[i].toNat) % n : Nat) : Int)) ?_ ?_
    · rw [Int.tmod_eq_emod_of_nonneg (by omega)]; simp
    refine s_ai ?_
    refine hk' _ ⟨i + 1, (s + l[i].toNat) % n, by simp, hil, ?_, Nat.mod_lt _ (by omega)⟩ (by simp only; omega)
    rw [hs, List.take_succ_eq_append_getElem hil, homeOf, homeOf, List.foldl_append]; rfl
  · have hil : i = l.length := by simp only [decide_eq_false_iff_not] at hb; omega
    rw [hil, List.take_length] at hs
    rw [hs]
    exact h

theorem bytesClone_hg {b : Sl} {xs : List UInt8} {q : Sl → K} (hr : ∀ w, Holds B Γ w → RdB w b xs) (hl : xs.length ≤ 1000000000) (hk : ∀ s, s.a.isNone = b.a.isNone → HG B (Bytes ty_uint8 s xs :: Γ) (q s)) : HG B Γ (bytes_Clone.call b q) := fun w hw =>
  bytes_Clone_spec hw hr hl fun s w h hs => hk s hs w h
theorem storeNew_spec {n : Nat} {q : Option Addr → Int → K} (h1 : 1 ≤ n) (h3 : n ≤ 3) (h : ∀ st, HG B (StoreR st n [] :: Γ) (q (some ⟨st, 0, none⟩) 0)) : HG B Γ (store_New.call n q) := fun w hw => by
  refine store_New_ok _ _ _ ?_
  refine hg hw ?_
  clear hw w
  unfold store_New
  refine s_f ?_
  unfold store_New.s1
  refine s_f ?_
  refine btNew_spec fun t => ?_
  show HG B (TreeR btS cmpS t (([] : List RecX).map recI) :: Γ) _
  refine s_new fun st => ?_
  refine fun w hw => ?_
  refine hg (show Holds B (Sep.stars (([] : List RecX).map recB) :: _) w from Holds.flat.2 hw) ?_
  refine s_end (Δ := blk st (.cells [.int .i64 n, .pointer (some ⟨t, 0, none⟩)].toArray ty_store_Store (0, 0)) :: TreeR btS cmpS t (([] : List RecX).map recI) :: Sep.stars (([] : List RecX).map recB) :: Γ) ?_
  exact s_mkStore (by simp) h1 h3 (h st)

theorem split_rec {X : List RecX} {A C : List btS.It} {k : ByteArray} {v : Cel btS.nv} (e : X.map recI = A ++ ((k, v) : btS.It) :: C) : ∃ XA r XC, X = XA ++ (k, r) :: XC ∧ A = XA.map recI ∧ C = XC.map recI ∧ v = recC r := by
  obtain ⟨XA, X2, rfl, rfl, h2⟩ := List.map_eq_append_iff.1 e
  obtain ⟨⟨k', r⟩, XC, rfl, h3, rfl⟩ := List.map_eq_cons_iff.1 h2
  simp only [recI, Prod.mk.injEq] at h3
  obtain ⟨rfl, rfl⟩ := h3
  exact ⟨XA, r, XC, rfl, rfl, rfl, rfl⟩
theorem split_app {X : List RecX} {A C : List btS.It} (e : X.map recI = A ++ C) : ∃ XA XC, X = XA ++ XC ∧ A = XA.map recI ∧ C = XC.map recI := by
  obtain ⟨XA, X2, rfl, rfl, rfl⟩ := List.map_eq_append_iff.1 e
  exact ⟨XA, X2, rfl, rfl, rfl⟩
theorem lt_of_srt {X Y : List RecX} {k : ByteArray} {r : Rec × Sl} (h : Srt cmpS ((X ++ (k, r) :: Y).map recI)) : ∀ x ∈ X, cmpS x.1 k < 0 := fun x hx => by
  rw [List.map_append] at h
  exact (List.pairwise_append.1 h).2.2 (recI x) (List.mem_map.2 ⟨x, hx, rfl⟩) (recI (k, r)) (by simp)
theorem ne_of_lt {a b : ByteArray} (h : cmpS a b < 0) : a ≠ b := fun e => by rw [e] at h; exact List.lt_irrefl _ (cmpS_neg.1 h)

theorem sGet1 {t4 r5 : Nat} {r : Rec} {s : Sl} {z : List Value} {q : Array Value → K} (hz : z.length = 4) (hzf : z.all flatV = true) (hr : ∀ w, Holds B Γ w → RdB w s r.val) (hl : r.val.length ≤ 1000000000) (h : ∀ s', s'.a.isNone = s.a.isNone → HG B (Bytes ty_uint8 s' r.val :: Γ) (q (recA r s'))) :
    HG B (blk r5 (.cells (recL r s).toArray ty_api_Record (0, 0)) :: blk t4 (.cells z.toArray ty_api_Record (0, 0)) :: Γ) (store_Store_Get.s1 q ⟨t4, 0, none⟩ ⟨r5, 0, none⟩) := by
  unfold store_Store_Get.s1
  refine s_ld (b := r5) (x := s) ?_
  refine bytesClone_hg (fun w hw => hr w hw.tail.tail) hl fun s' hs' => ?_
  refine s_st (b := r5) ?_
  refine s_ldN (b := r5) ?_
  refine s_stN (b := t4) ?_ hz rfl rfl
  refine s_ldN (b := t4) ?_
  exact s_end (h s' hs')
/-- Get. -/
theorem storeGet_spec {st n : Nat} {M : Recs} {k : ByteArray} {q : Array Value → K} (hk : k.size < 1000000000000) (h : ∀ s, (sGet n M k).ok → HG B (Bytes ty_uint8 s (sGet n M k).val :: StoreR st n M :: Γ) (q (recA (sGet n M k) s))) : HG B (StoreR st n M :: Γ) (store_Store_Get.call (some ⟨st, 0, none⟩) k q) := fun w hw => by
  refine store_Store_Get_ok _ _ _ _ ?_
  refine hg hw ?_
  clear hw w
  refine s_store fun t X hM hok h1 h3 => ?_
  unfold store_Store_Get
  refine s_new fun t4 => ?_
  refine s_nn ?_
  refine s_ld (b := st) (x := some ⟨t, 0, none⟩) ?_
  refine s_own t ?_
  refine tree_srt fun hs => ?_
  refine btGet_spec (fun A v C e => ?_) fun A C e hA hC => ?_
  · obtain ⟨XA, r, XC, rfl, rfl, rfl, rfl⟩ := split_rec e
    have hlt := lt_of_srt hs
    have hg' : getM M k = some r.1 := by
      rw [hM, List.map_append]
      exact getM_mid fun x hx => by
        obtain ⟨y, hy, rfl⟩ := List.mem_map.1 hx
        exact ne_of_lt (hlt y hy)
    have hr : sGet n M k = r.1 := by unfold sGet; rw [hg']; rfl
    have hrok : r.1.ok := hok (k, r.1) (getM_mem hg')
    rw [hr] at h
    refine s_new fun r5 => ?_
    refine s_stN (b := r5) (l' := recL r.1 r.2) ?_
    refine s_f ?_
    refine s_end (Δ := blk r5 (.cells (recL r.1 r.2).toArray ty_api_Record (0, 0)) :: blk t4 (.cells [.bool false, Sl.val ⟨none, 0, 0⟩, .int .i64 0, .int .u64 0].toArray ty_api_Record (0, 0)) :: blk st (.cells [.int .i64 n, .pointer (some ⟨t, 0, none⟩)].toArray ty_store_Store (0, 0)) :: TreeR btS cmpS t ((XA ++ (k, r) :: XC).map recI) :: Sep.stars ((XA ++ (k, r) :: XC).map recB) :: Γ) ?_
    refine sGet1 (r := r.1) rfl rfl (fun w hw => ?_) hrok.2.2 fun s' hs' => ?_
    · have h5 : Holds B (recB (k, r) :: _) w := (Holds.flat.1 (hw.tail.tail)).perm mid_perm |>.perm List.perm_middle
      exact h5.rdC List.mem_cons_self
    · rw [hM] at h
      refine s_end (Δ := blk st (.cells [.int .i64 n, .pointer (some ⟨t, 0, none⟩)].toArray ty_store_Store (0, 0)) :: TreeR btS cmpS t ((XA ++ (k, r) :: XC).map recI) :: Sep.stars ((XA ++ (k, r) :: XC).map recB) :: Bytes ty_uint8 s' r.1.val :: Γ) ?_
      refine s_mkStore (by rw [← hM]; exact hok) h1 h3 ?_
      exact s_end (h s' hrok)
  · obtain ⟨XA, XC, rfl, rfl, rfl⟩ := split_app e
    have hg' : getM M k = none := by
      rw [hM, List.map_append]
      refine getM_none fun x hx => ?_
      rcases List.mem_append.1 hx with hx | hx
      · obtain ⟨y, hy, rfl⟩ := List.mem_map.1 hx
        exact ne_of_lt (hA (recI y) (List.mem_map.2 ⟨y, hy, rfl⟩))
      · obtain ⟨y, hy, rfl⟩ := List.mem_map.1 hx
        exact Ne.symm (ne_of_lt (hC (recI y) (List.mem_map.2 ⟨y, hy, rfl⟩)))
    have hr : sGet n M k = ⟨false, [], homeOf k.toList n, 0⟩ := by unfold sGet; rw [hg']; rfl
    rw [hr] at h
    refine s_new fun r5 => ?_
    refine s_stN (b := r5) (l' := recL ⟨false, [], 0, 0⟩ ⟨none, 0, 0⟩) ?_
    refine s_t ?_
    refine s_ld (b := st) (x := (n : Int)) ?_
    refine Default_spec h1 (by omega) hk ?_
    refine s_st (b := r5) ?_
    refine s_end (Δ := blk r5 (.cells (recL ⟨false, [], homeOf k.toList n, 0⟩ ⟨none, 0, 0⟩).toArray ty_api_Record (0, 0)) :: blk t4 (.cells [.bool false, Sl.val ⟨none, 0, 0⟩, .int .i64 0, .int .u64 0].toArray ty_api_Record (0, 0)) :: blk st (.cells [.int .i64 n, .pointer (some ⟨t, 0, none⟩)].toArray ty_store_Store (0, 0)) :: TreeR btS cmpS t ((XA ++ XC).map recI) :: Sep.stars ((XA ++ XC).map recB) :: Γ) ?_
    refine sGet1 (r := ⟨false, [], homeOf k.toList n, 0⟩) rfl rfl (fun w hw => RdC.none') (by simp) fun s' hs' => ?_
    rw [hM] at h
    refine s_end (Δ := blk st (.cells [.int .i64 n, .pointer (some ⟨t, 0, none⟩)].toArray ty_store_Store (0, 0)) :: TreeR btS cmpS t ((XA ++ XC).map recI) :: Sep.stars ((XA ++ XC).map recB) :: Bytes ty_uint8 s' [] :: Γ) ?_
    refine s_mkStore (by rw [← hM]; exact hok) h1 h3 ?_
    exact s_end (h s' ⟨by simp, by simp, by simp⟩)

theorem srt_M {X : List RecX} (h : Srt cmpS (X.map recI)) : Srt cmpS (X.map recM) := by
  unfold Srt at h ⊢
  rw [List.pairwise_map] at h ⊢
  exact h
/-- What a store is told of a key. -/
theorem storePut_hg {st t n : Nat} {X : List RecX} {k : ByteArray} {r : Rec} {s : Sl} {q : Array Value → Bool → K} (hok : ∀ x ∈ X.map recM, x.2.ok) (hr : r.ok) (h1 : 1 ≤ n) (h3 : n ≤ 3) (hL : X.length < 1000000000)
    (h : ∀ a b, HG B (StoreR st n (putM (X.map recM) k r) :: Γ) (q a b)) :
    HG B (blk st (.cells [.int .i64 n, .pointer (some ⟨t, 0, none⟩)].toArray ty_store_Store (0, 0)) :: TreeR btS cmpS t (X.map recI) :: Sep.stars (X.map recB) :: Bytes ty_uint8 s r.val :: Γ) (btree_Tree_string_api_Record_Put.call (some ⟨t, 0, none⟩) k (recA r s) q) := by
  refine s_own t ?_
  refine tree_srt fun hs => ?_
  refine btPut_spec (v := recC (r, s)) (by simpa using hL) fun L' old had hp => ?_
  have hput : ∀ x ∈ putM (X.map recM) k r, x.2.ok := fun x hx => by
    rcases putM_mem hx with rfl | hx
    · exact hr
    · exact hok x hx
  rcases hp with ⟨A, C, e, rfl, rfl⟩ | ⟨A, C, e, hA, hC, rfl, rfl, rfl⟩
  · obtain ⟨XA, r0, XC, rfl, rfl, rfl, rfl⟩ := split_rec e
    have hlt := lt_of_srt hs
    have e2 : putM ((XA ++ (k, r0) :: XC).map recM) k r = (XA ++ (k, (r, s)) :: XC).map recM := by
      rw [List.map_append, List.map_cons]
      rw [show recM (k, r0) = (k, r0.1) from rfl, putM_mid (fun x hx => by
        obtain ⟨y, hy, rfl⟩ := List.mem_map.1 hx
        exact hlt y hy)]
      simp
    rw [e2] at h hput
    refine s_pick (Sep.stars ((XA ++ (k, r0) :: XC).map recB)) ?_
    refine s_mid ?_
    have e3 : XA.map recI ++ ((k, recC (r, s)) : btS.It) :: XC.map recI = (XA ++ (k, (r, s)) :: XC).map recI := by simp
    refine s_end (Δ := recB (k, (r, s)) :: Sep.stars ((XA ++ XC).map recB) :: blk st (.cells [.int .i64 n, .pointer (some ⟨t, 0, none⟩)].toArray ty_store_Store (0, 0)) :: TreeR btS cmpS t (XA.map recI ++ ((k, recC (r, s)) : btS.It) :: XC.map recI) :: Γ) ?_
    refine s_unmid ?_
    rw [e3]
    refine s_end (Δ := blk st (.cells [.int .i64 n, .pointer (some ⟨t, 0, none⟩)].toArray ty_store_Store (0, 0)) :: TreeR btS cmpS t ((XA ++ (k, (r, s)) :: XC).map recI) :: Sep.stars ((XA ++ (k, (r, s)) :: XC).map recB) :: Γ) ?_
    exact s_mkStore hput h1 h3 (h _ _)
  · obtain ⟨XA, XC, rfl, rfl, rfl⟩ := split_app e
    have e2 : putM ((XA ++ XC).map recM) k r = (XA ++ (k, (r, s)) :: XC).map recM := by
      rw [List.map_append, putM_new (fun x hx => by
        obtain ⟨y, hy, rfl⟩ := List.mem_map.1 hx
        exact hA (recI y) (List.mem_map.2 ⟨y, hy, rfl⟩)) (fun x hx => by
        obtain ⟨y, hy, rfl⟩ := List.mem_map.1 hx
        exact hC (recI y) (List.mem_map.2 ⟨y, hy, rfl⟩))]
      simp
    rw [e2] at h hput
    have e3 : XA.map recI ++ ((k, recC (r, s)) : btS.It) :: XC.map recI = (XA ++ (k, (r, s)) :: XC).map recI := by simp
    refine s_end (Δ := recB (k, (r, s)) :: Sep.stars ((XA ++ XC).map recB) :: blk st (.cells [.int .i64 n, .pointer (some ⟨t, 0, none⟩)].toArray ty_store_Store (0, 0)) :: TreeR btS cmpS t (XA.map recI ++ ((k, recC (r, s)) : btS.It) :: XC.map recI) :: Γ) ?_
    refine s_unmid ?_
    rw [e3]
    refine s_end (Δ := blk st (.cells [.int .i64 n, .pointer (some ⟨t, 0, none⟩)].toArray ty_store_Store (0, 0)) :: TreeR btS cmpS t ((XA ++ (k, (r, s)) :: XC).map recI) :: Sep.stars ((XA ++ (k, (r, s)) :: XC).map recB) :: Γ) ?_
    exact s_mkStore hput h1 h3 (h _ _)
theorem storeSet_spec {st n : Nat} {M : Recs} {k : ByteArray} {r : Rec} {s : Sl} {q : K} (hr : r.ok) (hne : r.has = true ∨ r.cnt ≠ 0) (hL : M.length < 1000000000) (h : HG B (StoreR st n (putM M k r) :: Γ) q) : HG B (StoreR st n M :: Bytes ty_uint8 s r.val :: Γ) (store_Store_set.call (some ⟨st, 0, none⟩) k (recA r s) q) := fun w hw => by
  refine store_Store_set_ok _ _ _ _ _ ?_
  refine hg hw ?_
  clear hw w
  refine s_store fun t X hM hok h1 h3 => ?_
  subst hM
  unfold store_Store_set
  refine s_new fun r5 => ?_
  refine s_ld (b := r5) (x := r.has) ?_
  have key : HG B (blk r5 (.cells (recL r s).toArray ty_api_Record (0, 0)) :: blk st (.cells [.int .i64 n, .pointer (some ⟨t, 0, none⟩)].toArray ty_store_Store (0, 0)) :: TreeR btS cmpS t (X.map recI) :: Sep.stars (X.map recB) :: Bytes ty_uint8 s r.val :: Γ) (store_Store_set.s1 q (some ⟨st, 0, none⟩) k ⟨r5, 0, none⟩ false) := by
    unfold store_Store_set.s1
    refine s_f ?_
    refine s_dr ?_
    refine s_nn ?_
    refine s_ld (b := st) (x := some ⟨t, 0, none⟩) ?_
    refine s_ldN (b := r5) ?_
    refine s_end (Δ := blk st (.cells [.int .i64 n, .pointer (some ⟨t, 0, none⟩)].toArray ty_store_Store (0, 0)) :: TreeR btS cmpS t (X.map recI) :: Sep.stars (X.map recB) :: Bytes ty_uint8 s r.val :: Γ) ?_
    exact storePut_hg hok hr h1 h3 (by simpa using hL) fun _ _ => h
  refine s_ite (fun hb => ?_) fun hb => key
  refine s_ld (b := r5) (x := r.cnt) ?_
  have hc : r.cnt ≠ 0 := hne.resolve_left (by simpa using hb)
  rw [show decide (r.cnt = 0) = false by simpa using hc]
  exact key
/-- Move. -/
theorem storeMove_spec {st n : Nat} {M : Recs} {k : ByteArray} {to : Int} {q : Int → K} (hk : k.size < 1000000000000) (hL : M.length < 1000000000) (h : HG B (StoreR st n (sMove n M k to).1 :: Γ) (q (sMove n M k to).2)) : HG B (StoreR st n M :: Γ) (store_Store_Move.call (some ⟨st, 0, none⟩) k to q) := fun w hw => by
  refine store_Store_Move_ok _ _ _ _ _ ?_
  refine hg hw ?_
  clear hw w
  unfold store_Store_Move
  refine storeGet_spec hk fun s hok => ?_
  generalize hR : sGet n M k = r at *
  refine s_new fun r7 => ?_
  refine s_stN (b := r7) (l' := recL r s) ?_
  have bad : to < 0 ∨ (n : Int) ≤ to → ∀ s0, HG B (blk r7 (.cells (recL r s).toArray ty_api_Record (0, 0)) :: Bytes ty_uint8 s r.val :: StoreR st n M :: Γ) (store_Store_Move.s1 q s0 k to ⟨r7, 0, none⟩ true) := fun hb s0 => by
    unfold store_Store_Move.s1
    refine s_t ?_
    have e : sMove n M k to = (M, 1) := by unfold sMove; rw [if_pos hb]
    rw [e] at h
    exact s_end h
  refine s_ite (fun hb => bad (.inl (by simpa using hb)) _) fun hb => ?_
  refine s_nn ?_
  refine s_own st ?_
  refine s_store fun t X hM hok2 h1 h3 => ?_
  refine s_ld (b := st) (x := (n : Int)) ?_
  subst hM
  refine s_mkStore hok2 h1 h3 ?_
  refine s_end (Δ := blk r7 (.cells (recL r s).toArray ty_api_Record (0, 0)) :: Bytes ty_uint8 s r.val :: StoreR st n (X.map recM) :: Γ) ?_
  by_cases hb2 : (n : Int) ≤ to
  · rw [show decide ((n : Int) ≤ to) = true by simpa using hb2]
    exact bad (.inr hb2) _
  rw [show decide ((n : Int) ≤ to) = false by simpa using hb2]
  have hnb : ¬ (to < 0 ∨ (n : Int) ≤ to) := by
    simp only [decide_eq_false_iff_not] at hb
    omega
  unfold store_Store_Move.s1
  refine s_f ?_
  refine s_ld (b := r7) (x := r.cnt) ?_
  refine s_ite (fun hc => ?_) fun hc => ?_
  · have e : sMove n (X.map recM) k to = (X.map recM, 111) := by unfold sMove; rw [if_neg hnb, hR, if_pos (by simpa using hc)]
    rw [e] at h
    exact s_end h
  have hc' : r.cnt ≠ 18446744073709551615 := by simpa using hc
  obtain ⟨o1, o2, o3⟩ := hok
  refine s_st (b := r7) ?_
  refine s_ld (b := r7) (x := r.cnt) ?_
  refine s_ar (wrapU64 (by omega) (by omega)) ?_
  refine s_st (b := r7) ?_
  refine s_ldN (b := r7) (l' := recL { r with home := to, cnt := r.cnt + 1 } s) ?_
  refine s_end (Δ := StoreR st n (X.map recM) :: Bytes ty_uint8 s r.val :: Γ) ?_
  refine storeSet_spec (r := { r with home := to, cnt := r.cnt + 1 }) ⟨by simp only; omega, by simp only; omega, o3⟩ (.inr (by simp only; omega)) hL ?_
  have e : sMove n (X.map recM) k to = (putM (X.map recM) k { r with home := to, cnt := r.cnt + 1 }, 0) := by unfold sMove; rw [if_neg hnb, hR, if_neg hc']
  rw [e] at h
  exact h
end
end Go.Proofs.Ytfjjocopmknhgaa
