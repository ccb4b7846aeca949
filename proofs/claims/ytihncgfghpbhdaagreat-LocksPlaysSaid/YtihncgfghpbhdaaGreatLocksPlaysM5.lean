/- Texts of the claim LocksPlays, one behind the other. -/
import Derived.Test.YtihncgfghpbhdaaGreatLocksPlaysM4
/- The document's store. -/
namespace Go.Proofs.YtihncgfghpbhdaaGreat
open Go Go.Sep Go.Sep.Bt
set_option linter.unusedSimpArgs false
set_option linter.unusedVariables false
set_option maxRecDepth 100000

abbrev rowF6 (x : RecX) : List Value := [.string x.1, .bool x.2.1.has, x.2.2.val, .int .i64 x.2.1.home, .int .u64 x.2.1.cnt]
theorem rowF6_len (x : RecX) : (rowF6 x).length = 5 := rfl
theorem rowF6_fl (L : List RecX) : ∀ v ∈ L.flatMap rowF6, flatV v = true := fun v hv => by
  obtain ⟨x, _, hx⟩ := List.mem_flatMap.1 hv
  simp only [rowF6, List.mem_cons, List.not_mem_nil, or_false] at hx
  rcases hx with rfl | rfl | rfl | rfl | rfl <;> rfl
/-- Values that are never written. -/
abbrev Pool := List (Sl × List UInt8)
abbrev poolR (P : Pool) : HProp := Sep.stars (P.map fun p => Bytes ty_uint8 p.1 p.2)
def inP (P : Pool) (s : Sl) (xs : List UInt8) : Prop := (xs = [] ∧ s.n = 0) ∨ (s, xs) ∈ P
theorem inP.mono {P P' : Pool} {s : Sl} {xs : List UInt8} (h : inP P s xs) (hP : ∀ x ∈ P, x ∈ P') : inP P' s xs := h.imp id (hP _)
theorem rd_empty {w : World} {s : Sl} (h : s.n = 0) : RdB w s [] := ⟨by simp [h], fun _ => h, fun a _ i hi => by simp at hi⟩
theorem stars_mem' {B w : World} {Γ : List HProp} {α : Type} {F : α → HProp} {l : List α} {x : α} (hx : x ∈ l) (h : Holds B (Sep.stars (l.map F) :: Γ) w) : ∃ Δ, Holds B (F x :: Δ) w := by
  obtain ⟨A, C, rfl⟩ := List.append_of_mem hx
  exact ⟨_, ((Holds.flat.1 h).perm mid_perm).perm List.perm_middle⟩
theorem inP.rd {B w : World} {Γ : List HProp} {P : Pool} {s : Sl} {xs : List UInt8} (h : inP P s xs) (hw : Holds B (poolR P :: Γ) w) : RdB w s xs := by
  rcases h with ⟨rfl, h⟩ | h
  · exact rd_empty h
  · obtain ⟨Δ, h2⟩ := stars_mem' h hw
    exact h2.rdC List.mem_cons_self
theorem homeOf_sum (l : List UInt8) {n : Nat} (hn : 1 ≤ n) : homeOf l n = l.foldl (fun s b => s + b.toNat) 0 % n := by
  unfold homeOf
  have key : ∀ (l : List UInt8) (a b : Nat), a = b % n → l.foldl (fun s b => (s + b.toNat) % n) a = l.foldl (fun s b => s + b.toNat) b % n := by
    intro l
    induction l with
    | nil => intro a b h; exact h
    | cons x l ih => intro a b h; exact ih _ _ (by show (a + x.toNat) % n = (b + x.toNat) % n; rw [h, Nat.mod_add_mod])
  exact key l 0 0 (by simp)
theorem sum_le (l : List UInt8) (a : Nat) : l.foldl (fun s b => s + b.toNat) a ≤ a + 255 * l.length := by
  induction l generalizing a with
  | nil => simp
  | cons x l ih =>
    have h1 := ih (a + x.toNat)
    have h2 : x.toNat < 256 := x.toNat_lt
    simp only [List.foldl_cons, List.length_cons]; omega
/-! ### rows, a key set -/
def set6 {ν : Type} (k : ByteArray) (r : ν) : Bool → List (ByteArray × ν) → List (ByteArray × ν)
  | keep, [] => if keep then [(k, r)] else []
  | keep, x :: M => (if keep && decide (0 < cmpS x.1 k) then [(k, r)] else []) ++ (if x.1 = k then [] else [x]) ++ set6 k r (keep && !decide (0 < cmpS x.1 k)) M
theorem set6_map {k : ByteArray} {r : Rec} {s : Sl} : ∀ (keep : Bool) (X : List RecX), (set6 k (r, s) keep X).map recM = set6 k r keep (X.map recM)
  | keep, [] => by cases keep <;> rfl
  | keep, x :: X => by
    rw [set6, List.map_cons, set6, List.map_append, List.map_append, set6_map]
    congr 1
    congr 1
    · split <;> rfl
    · by_cases h : x.1 = k <;> simp [h]
theorem set6_none {k : ByteArray} {r : Rec} : ∀ {M : Recs}, set6 k r false M = delM M k
  | [] => rfl
  | x :: M => by
    rw [set6, Bool.false_and, Bool.false_and, set6_none]
    unfold delM
    by_cases h : x.1 = k
    · simp [h]
    · simp [h]
theorem set6_some {k : ByteArray} {r : Rec} : ∀ {M : Recs}, Srt cmpS M → set6 k r true M = putM M k r
  | [], _ => rfl
  | x :: M, hs => by
    have hs2 := List.pairwise_cons.1 hs
    rw [set6, putM]
    simp only [Bool.true_and]
    by_cases h1 : cmpS x.1 k < 0
    · have h2 : ¬ 0 < cmpS x.1 k := by omega
      have h3 : x.1 ≠ k := ne_of_lt h1
      rw [if_pos h1]
      simp only [h2, decide_false, Bool.false_eq_true, if_false, h3, List.nil_append, Bool.not_false]
      rw [set6_some hs2.2]; rfl
    · rw [if_neg h1]
      by_cases h3 : x.1 = k
      · have h2 : ¬ 0 < cmpS x.1 k := by rw [cmpS_zero.2 h3]; omega
        have h2' : ¬ 0 < cmpS k k := by rw [cmpS_zero.2 rfl]; omega
        rw [if_pos h3]
        simp only [h2, h2', decide_false, Bool.false_eq_true, if_false, h3, if_true, List.nil_append, Bool.not_false]
        cases M with
        | nil => rfl
        | cons y M =>
          have hy : 0 < cmpS y.1 k := by rw [← btS_ok.sw, ← h3]; exact hs2.1 y List.mem_cons_self
          have hyk : y.1 ≠ k := fun e => by rw [cmpS_zero.2 e] at hy; omega
          rw [set6]
          simp only [hy, decide_true, Bool.and_true, if_true, hyk, if_false, Bool.not_true, Bool.and_false]
          rw [set6_none, delM_none fun z hz => by
            have h5 : cmpS x.1 z.1 < 0 := hs2.1 z (List.mem_cons_of_mem _ hz)
            rw [h3] at h5; exact Ne.symm (ne_of_lt h5)]
          rfl
      · have h2 : 0 < cmpS x.1 k := by
          rcases Int.lt_trichotomy (cmpS x.1 k) 0 with h | h | h
          · exact absurd h h1
          · exact absurd (cmpS_zero.1 h) h3
          · exact h
        rw [if_neg h3]
        simp only [h2, decide_true, if_true, h3, if_false, Bool.not_true]
        rw [set6_none, delM_none fun z hz => by
          have h5 : cmpS x.1 z.1 < 0 := hs2.1 z hz
          have h6 : cmpS k x.1 < 0 := btS_ok.sw.2 h2
          exact Ne.symm (ne_of_lt (btS_ok.tr h6 h5))]
        rfl
theorem putM_srt {M : Recs} {k : ByteArray} {r : Rec} (hs : Srt cmpS M) : Srt cmpS (putM M k r) := by
  induction M with
  | nil => exact List.pairwise_singleton _ _
  | cons x M ih =>
    have hs2 := List.pairwise_cons.1 hs
    unfold putM
    split
    · rename_i h1
      refine List.pairwise_cons.2 ⟨fun y hy => ?_, ih hs2.2⟩
      rcases putM_mem hy with rfl | hy
      · exact h1
      · exact hs2.1 y hy
    · split
      · rename_i h1 h3
        exact List.pairwise_cons.2 ⟨fun y hy => by rw [← h3]; exact hs2.1 y hy, hs2.2⟩
      · rename_i h1 h3
        have h2 : cmpS k x.1 < 0 := by
          rw [btS_ok.sw]
          rcases Int.lt_trichotomy (cmpS x.1 k) 0 with h | h | h
          · exact absurd h h1
          · exact absurd (cmpS_zero.1 h) h3
          · exact h
        refine List.pairwise_cons.2 ⟨fun y hy => ?_, hs⟩
        rcases List.mem_cons.1 hy with rfl | hy
        · exact h2
        · exact btS_ok.tr h2 (hs2.1 y hy)
theorem setM_srt {M : Recs} {k : ByteArray} {r : Rec} (hs : Srt cmpS M) : Srt cmpS (setM M k r) := by
  unfold setM
  split
  · exact List.Pairwise.sublist List.filter_sublist hs
  · exact putM_srt hs

/-- The document's store. -/
structure R6 (n : Nat) (M : Recs) (P : Pool) (X : List RecX) : Prop where
  mod : M = X.map recM
  ok : ∀ x ∈ X, x.2.1.ok ∧ inP P x.2.2 x.2.1.val
  n1 : 1 ≤ n
  n3 : n ≤ 3
  srt : Srt cmpS M
abbrev ref6L (st n : Nat) (rs : Sl) (X : List RecX) (Γ : List HProp) : List HProp := blk st (.cells [.int .i64 n, rs.val].toArray ty_argosyref06_Store (0, 0)) :: SlC ty_api_Row 5 rs (X.flatMap rowF6) :: Γ
def Ref6 (st n : Nat) (M : Recs) (P : Pool) : HProp := ex fun rs => ex fun X : List RecX => Sep.stars (pur (R6 n M P X) :: ref6L st n rs X [])
section
variable {B : World} {Γ Δ : List HProp} {k : K} {st n : Nat} {M : Recs} {P : Pool}
instance (priority := high) own_ref6 : Sep.Own st (Ref6 st n M P :: Γ) (Ref6 st n M P) Γ := ⟨.refl _⟩
theorem s_ref6 (h : ∀ rs X, R6 n M P X → HG B (ref6L st n rs X Γ) k) : HG B (Ref6 st n M P :: Γ) k :=
  s_ex fun rs => s_ex fun X => s_flat <| s_pur fun h1 => h rs X h1
theorem s_mkRef6 {rs : Sl} {X : List RecX} (h1 : R6 n M P X) (h : HG B (Ref6 st n M P :: Γ) k) : HG B (ref6L st n rs X Γ) k := fun w hw => by
  refine h w ?_
  have h3 : Holds B (Sep.stars (pur (R6 n M P X) :: ref6L st n rs X []) :: Γ) w := Holds.flat.2 (Holds.pur.2 ⟨h1, hw⟩)
  exact h3.imp fun g hg => ⟨rs, X, hg⟩
theorem s_ref6P {P' : Pool} (hP : ∀ x ∈ P, x ∈ P') (h : HG B (Ref6 st n M P' :: Γ) k) : HG B (Ref6 st n M P :: Γ) k :=
  s_ref6 fun rs X h1 => s_mkRef6 ⟨h1.mod, fun x hx => ⟨(h1.ok x hx).1, (h1.ok x hx).2.mono hP⟩, h1.n1, h1.n3, h1.srt⟩ h
theorem new6_hg {Q : Option Addr → K} (h1 : 1 ≤ n) (h3 : n ≤ 3) (h : ∀ st, HG B (Ref6 st n [] P :: Γ) (Q (some ⟨st, 0, none⟩))) : HG B Γ (ref06_New.call (n : Int) Q) := by
  refine fun w hw => ref06_New_ok _ _ _ ?_
  refine hg hw ?_
  clear hw w
  unfold ref06_New
  refine s_new fun st => ?_
  refine fun w hw => ?_
  refine Sep.hg (show Holds B (SlC ty_api_Row 5 ⟨none, 0, 0⟩ (([] : List RecX).flatMap rowF6) :: _) w from hw.nilSl _ _) ?_
  clear hw w
  refine s_swap ?_
  exact s_mkRef6 ⟨rfl, by simp, h1, h3, List.Pairwise.nil⟩ (h st)
theorem default6_hg {k : ByteArray} {Q : Int → K} (h1 : 1 ≤ n) (hn : n ≤ 1000) (hk : k.size < 1000000000000) (h : HG B Γ (Q (homeOf k.toList n : Nat))) : HG B Γ (ref06_Default.call k (n : Int) Q) := by
  refine fun w hw => ref06_Default_ok _ _ _ _ ?_
  refine hg hw ?_
  clear hw w
  unfold ref06_Default
  refine s_f ?_
  obtain ⟨l, rfl⟩ := bs_of k
  rw [bs_list] at h
  have hsz : (bs l).size = l.length := rfl
  refine s_loopC (fun x : Int × Int => ∃ i s : Nat, x = ((s : Int), (i : Int)) ∧ i ≤ l.length ∧ s = (l.take i).foldl (fun s b => s + b.toNat) 0) (fun x => l.length - x.2.toNat) ⟨0, 0, rfl, Nat.zero_le _, rfl⟩ fun k' x hx hk' => ?_
  obtain ⟨i, s, rfl, hi, hs⟩ := hx
  have hsl := sum_le (l.take i) 0
  rw [← hs, List.length_take] at hsl
  unfold ref06_Default.b1
  dsimp only
  refine s_ite (fun hb => ?_) fun hb => ?_
  · have hil : i < l.length := by simp only [decide_eq_true_eq] at hb; omega
    have hb8 : l[i].toNat < 256 := l[i].toNat_lt
    refine fun w hw => ⟨(l[i].toNat : Int), l[i], by omega, ?_, rfl, Sep.hg hw ?_⟩
    · show (bs l)[((i : Nat) : Int).toNat]? = _
      rw [Int.toNat_natCast]
      exact Array.getElem?_eq_getElem (xs := l.toArray) (by simpa using hil)
    refine s_ar (e' := (l[i].toNat : Int)) (by rw [wrapU64 (by omega) (by omega)]) ?_
    refine s_ar (e' := ((s + l[i].toNat : Nat) : Int)) (by rw [wrapU64 (by omega) (by omega)]; omega) ?_
    refine s_ai ?_
    refine hk' _ ⟨i + 1, s + l[i].toNat, by simp, hil, ?_⟩ (by simp only; omega)
    rw [hs, List.take_succ_eq_append_getElem hil, List.foldl_append]; rfl
  · have hil : i = l.length := by simp only [decide_eq_false_iff_not] at hb; omega
    rw [hil, List.take_length] at hs
    refine s_ar (e' := (n : Int)) (by rw [wrapU64 (by omega) (by omega)]) ?_
    refine s_cd (by omega) ?_
    have hm : s % n < n := Nat.mod_lt _ (by omega)
    refine s_ar (e' := ((s % n : Nat) : Int)) (by rw [Int.tmod_eq_emod_of_nonneg (by omega)]; simp) ?_
    refine s_ai ?_
    rw [homeOf_sum l h1, ← hs] at h
    exact h
theorem get6_hg {k : ByteArray} {Q : Array Value → K} (hk : k.size < 1000000000000) (hL : M.length < 100000000) (h : ∀ s, (sGet n M k).ok → inP P s (sGet n M k).val → HG B (Ref6 st n M P :: Γ) (Q (recA (sGet n M k) s))) : HG B (Ref6 st n M P :: Γ) (ref06_Store_Get.call (some ⟨st, 0, none⟩) k Q) := by
  refine fun w hw => ref06_Store_Get_ok _ _ _ _ ?_
  refine hg hw ?_
  clear hw w
  refine s_ref6 fun rs X hf => ?_
  have hXl : X.length = M.length := by rw [hf.mod]; simp
  unfold ref06_Store_Get
  refine s_new fun t4 => ?_
  refine s_cap rs fun a1 a2 a3 a4 => ?_
  rw [flatMap_len _ 5 rowF6_len] at a1
  refine s_loopC (α := Int) (fun x => ∃ i : Nat, x = (i : Int) ∧ i ≤ X.length ∧ ∀ y ∈ X.take i, y.1 ≠ k) (fun x => X.length - x.toNat) ⟨0, rfl, Nat.zero_le _, by simp⟩ fun k' x hx hk' => ?_
  obtain ⟨i, rfl, hi, hno⟩ := hx
  unfold ref06_Store_Get.b1
  repeat refine s_nx ?_
  refine s_ite (fun hb => ?_) fun hb => ?_
  · have hil : i < X.length := by simp only [decide_eq_true_eq] at hb; omega
    have hge : X[i]? = some X[i] := List.getElem?_eq_getElem hil
    have hmem : X[i] ∈ X := List.getElem_mem hil
    have htk : X.take (i + 1) = X.take i ++ [X[i]] := List.take_succ_eq_append_getElem hil
    have hdr := List.drop_eq_getElem_cons hil
    generalize X[i] = x at hge hmem htk hdr
    repeat refine s_nx ?_
    refine s_idxF0 rowF6 (c := Value.string) (v := x.1) rowF6_len (fun w hw => (own_rd (s := rs) hw).1) hge rfl ?_
    refine s_ite (fun hc => ?_) fun hc => ?_
    · have hxk : x.1 = k := by rwa [str_inj] at hc
      have hr : sGet n M k = x.2.1 := by
        unfold sGet
        have : getM M k = some x.2.1 := by
          rw [hf.mod, ← List.take_append_drop i X, hdr, List.map_append, List.map_cons]
          rw [show recM x = (k, x.2.1) by rw [← hxk]]
          exact getM_mid fun y hy => by
            obtain ⟨z, hz, rfl⟩ := List.mem_map.1 hy
            exact hno z hz
        rw [this]; rfl
      rw [hr] at h
      repeat refine s_nx ?_
      refine s_idx (s := rs) (i := i) ?_
      refine s_ldEN (s := rs) (off := 1) (l' := recL x.2.1 x.2.2) ?_ rfl ?_
      · have := flatMap_el rowF6_len hge
        have e : ((X.flatMap rowF6).drop (i * 5 + 1)).take 4 = (((X.flatMap rowF6).drop (i * 5)).take 5).drop 1 := by rw [← List.drop_drop, List.drop_take]
        rw [e, this]; rfl
      repeat refine s_nx ?_
      refine s_ownS rs ?_
      refine s_own st ?_
      exact s_mkRef6 hf (s_end (h _ (hf.ok x hmem).1 (hf.ok x hmem).2))
    · have hxk : x.1 ≠ k := fun e => by rw [e, str_inj.2 rfl] at hc; cases hc
      refine s_ai ?_
      refine hk' _ ⟨i + 1, by simp, hil, fun y hy => ?_⟩ (by omega)
      rw [htk] at hy
      rcases List.mem_append.1 hy with hy | hy
      · exact hno y hy
      · rw [List.mem_singleton.1 hy]; exact hxk
  · have hil : i = X.length := by simp only [decide_eq_false_iff_not] at hb; omega
    rw [hil, List.take_length] at hno
    have hr : sGet n M k = ⟨false, [], homeOf k.toList n, 0⟩ := by
      unfold sGet
      rw [hf.mod, getM_none fun y hy => by
        obtain ⟨z, hz, rfl⟩ := List.mem_map.1 hy
        exact hno z hz]
      rfl
    rw [hr] at h
    repeat refine s_nx ?_
    refine default6_hg hf.n1 (by have := hf.n3; omega) hk ?_
    refine s_stN (b := t4) (l' := recL ⟨false, [], homeOf k.toList n, 0⟩ ⟨none, 0, 0⟩) ?_
    repeat refine s_nx ?_
    refine s_ownS rs ?_
    refine s_own st ?_
    exact s_mkRef6 hf (s_end (h ⟨none, 0, 0⟩ ⟨by simp, by simp, by simp⟩ (.inl ⟨rfl, rfl⟩)))
theorem set6_hg {k : ByteArray} {r : Rec} {s : Sl} {Q : K} (hr : r.ok) (hv : inP P s r.val) (hL : M.length < 10000000) (h : HG B (Ref6 st n (setM M k r) P :: Γ) Q) : HG B (Ref6 st n M P :: Γ) (ref06_Store_Set.call (some ⟨st, 0, none⟩) k (recA r s) Q) := by
  refine fun w hw => ref06_Store_Set_ok _ _ _ _ _ ?_
  refine hg hw ?_
  clear hw w
  refine s_ref6 fun rs X hf => ?_
  have hXl : X.length = M.length := by rw [hf.mod]; simp
  refine s_cap rs fun a1 a2 a3 a4 => ?_
  rw [flatMap_len _ 5 rowF6_len] at a1
  unfold ref06_Store_Set
  refine s_new fun r5 => ?_
  -- the rows, anew
  have rows : ∀ (t9 : Nat) (keep : Bool), (keep = true ↔ ¬ (r.has = false ∧ r.cnt = 0)) → HG B (blk t9 (.cells ([] : List Value).toArray ty_api_Row (0, 0)) :: blk r5 (.cells (recL r s).toArray ty_api_Record (0, 0)) :: ref6L st n rs X Γ) (ref06_Store_Set.s1 Q (some ⟨st, 0, none⟩) k ⟨r5, 0, none⟩ (Sl.mk (some ⟨t9, 0, none⟩) 0 0) keep) := fun t9 keep hkp => by
    have hset : set6 k r keep M = setM M k r := by
      unfold setM
      by_cases hk : r.has = false ∧ r.cnt = 0
      · have : keep = false := by cases hc : keep with
          | false => rfl
          | true => exact absurd hk (hkp.1 hc)
        rw [if_pos hk, this, set6_none]
      · rw [if_neg hk, hkp.2 hk, set6_some hf.srt]
    unfold ref06_Store_Set.s1
    refine s_conv (A' := SlC ty_api_Row 5 ⟨some ⟨t9, 0, none⟩, 0, 0⟩ (([] : List RecX).flatMap rowF6)) (blk_SlC (vs := []) rfl (by simp)) ?_
    refine s_loop (α := Sl × Bool × Int) (ι := Nat × List RecX) (fun x i => x.2.2 = (i.1 : Int) ∧ i.1 ≤ X.length ∧ i.2.length ≤ 2 * i.1 ∧ i.2 ++ set6 k (r, s) x.2.1 (X.drop i.1) = set6 k (r, s) keep X ∧ ∀ y ∈ i.2, y.2.1.ok ∧ inP P y.2.2 y.2.1.val)
      (fun x i => SlC ty_api_Row 5 x.1 (i.2.flatMap rowF6) :: blk r5 (.cells (recL r s).toArray ty_api_Record (0, 0)) :: ref6L st n rs X Γ) (fun x i => X.length - i.1) (0, []) ⟨rfl, Nat.zero_le _, by simp, by simp, by simp⟩ ?_
    rintro k' ⟨o, kp, _⟩ ⟨i, Y⟩ ⟨rfl, hi, hYl, he, hok⟩ hk'
    simp only at hi hYl he hok hk' ⊢
    unfold ref06_Store_Set.b2
    refine s_cap o fun b1 b2 b3 b4 => ?_
    rw [flatMap_len _ 5 rowF6_len] at b1
    have add : ∀ (x : RecX) (ct : Nat) (o : Sl) (Y : List RecX), rowF6 x = rowF6 x → True := fun _ _ _ _ _ => trivial
    repeat refine s_nx ?_
    refine s_ite (fun hb => ?_) fun hb => ?_
    · have hil : i < X.length := by simp only [decide_eq_true_eq] at hb; omega
      have hge : X[i]? = some X[i] := List.getElem?_eq_getElem hil
      have hmem : X[i] ∈ X := List.getElem_mem hil
      rw [List.drop_eq_getElem_cons hil] at he
      generalize X[i] = x at hge hmem he
      rw [set6] at he
      -- the row that was there
      have old : ∀ (o : Sl) (Y : List RecX) (kp' : Bool), o.n = Y.length → Y.length ≤ 2 * i + 1 → Y ++ ((if x.1 = k then [] else [x]) ++ set6 k (r, s) kp' (X.drop (i + 1))) = set6 k (r, s) keep X → (∀ y ∈ Y, y.2.1.ok ∧ inP P y.2.2 y.2.1.val) →
          HG B (SlC ty_api_Row 5 o (Y.flatMap rowF6) :: blk r5 (.cells (recL r s).toArray ty_api_Record (0, 0)) :: ref6L st n rs X Γ) (ref06_Store_Set.s4 Q (fun out6_2 keep7_2 i8_2 => k' (out6_2, keep7_2, i8_2)) ⟨st, 0, none⟩ k ⟨r5, 0, none⟩ o kp' (i : Int)) := fun o Y kp' hon hYl he hok => by
        unfold ref06_Store_Set.s4
        repeat refine s_nx ?_
        refine s_idxF0 rowF6 (c := Value.string) (v := x.1) rowF6_len (fun w hw => (own_rd (s := rs) hw).1) hge rfl ?_
        unfold ref06_Store_Set.s3
        refine s_ite (fun hc => ?_) fun hc => ?_
        · have hxk : x.1 ≠ k := fun e => by rw [e, str_inj.2 rfl] at hc; cases hc
          rw [if_neg hxk] at he
          repeat refine s_nx ?_
          refine s_idxN rowF6 rowF6_len (fun w hw => (own_rd (s := rs) hw).1) hge ?_
          repeat refine s_nx ?_
          refine s_new fun t63 => ?_
          refine s_append (s := o) (esz := 5) (us := rowF6 x) (blk_rd rfl) (by intro v hv; exact rowF6_fl [x] v (by simpa using hv)) (by simp only; omega) fun o2 _ => ?_
          rw [show Y.flatMap rowF6 ++ rowF6 x = (Y ++ [x]).flatMap rowF6 by simp only [List.flatMap_append, List.flatMap_cons, List.flatMap_nil, List.append_nil]]
          refine s_ai ?_
          refine s_end (hk' (o2, kp', (i : Int) + 1) (i + 1, Y ++ [x]) ⟨by simp, hil, by simp; omega, by simp only; rw [← he]; simp, fun y hy => ?_⟩ (by simp only; omega))
          rcases List.mem_append.1 hy with hy | hy
          · exact hok y hy
          · rw [List.mem_singleton.1 hy]; exact hf.ok x hmem
        · have hxk : x.1 = k := by
            have : (x.1.toList == k.toList) = true := by simpa using hc
            rwa [str_inj] at this
          rw [if_pos hxk] at he
          refine s_ai ?_
          exact s_end (hk' (o, kp', (i : Int) + 1) (i + 1, Y) ⟨by simp, hil, by simp only; omega, by simpa using he, hok⟩ (by simp only; omega))
      have noIns : (kp && decide (0 < cmpS x.1 k)) = false → HG B (SlC ty_api_Row 5 o (Y.flatMap rowF6) :: blk r5 (.cells (recL r s).toArray ty_api_Record (0, 0)) :: ref6L st n rs X Γ) (ref06_Store_Set.s5 Q (fun out6_2 keep7_2 i8_2 => k' (out6_2, keep7_2, i8_2)) ⟨st, 0, none⟩ k ⟨r5, 0, none⟩ o kp (i : Int) false) := fun hni => by
        unfold ref06_Store_Set.s5
        refine s_f ?_
        refine old o Y kp (by omega) (by omega) ?_ hok
        rw [hni] at he
        have e2 : (kp && !decide (0 < cmpS x.1 k)) = kp := by cases kp <;> simp_all
        rw [e2] at he
        simpa using he
      refine s_ite (fun hkp1 => ?_) fun hkp1 => ?_
      · subst hkp1
        repeat refine s_nx ?_
        refine s_idxF0 rowF6 (c := Value.string) (v := x.1) rowF6_len (fun w hw => (own_rd (s := rs) hw).1) hge rfl ?_
        rw [gt_dec]
        by_cases hgt : k.toList < x.1.toList
        · have hpos : 0 < cmpS x.1 k := cmpS_pos.2 hgt
          rw [show decide (k.toList < x.1.toList) = true by simpa using hgt]
          unfold ref06_Store_Set.s5
          repeat refine s_nx ?_
          refine s_new fun t43 => ?_
          refine s_append (s := o) (esz := 5) (us := rowF6 (k, (r, s))) (blk_rd rfl) (by intro v hv; exact rowF6_fl [(k, (r, s))] v (by simpa using hv)) (by simp only; omega) fun o2 ho2 => ?_
          rw [show Y.flatMap rowF6 ++ rowF6 (k, (r, s)) = (Y ++ [(k, (r, s))]).flatMap rowF6 by simp only [List.flatMap_append, List.flatMap_cons, List.flatMap_nil, List.append_nil]]
          refine s_end (old o2 (Y ++ [(k, (r, s))]) false (by simp only at ho2; simp; omega) (by simp; omega) ?_ fun y hy => ?_)
          · simp only [hpos, decide_true, Bool.and_true, if_true, Bool.not_true, Bool.and_false] at he
            rw [← he]; simp
          · rcases List.mem_append.1 hy with hy | hy
            · exact hok y hy
            · rw [List.mem_singleton.1 hy]; exact ⟨hr, hv⟩
        · rw [show decide (k.toList < x.1.toList) = false by simpa using hgt]
          exact noIns (by simp only [Bool.true_and, decide_eq_false_iff_not]; exact fun h => hgt (cmpS_pos.1 h))
      · subst hkp1
        exact noIns rfl
    · have hil : i = X.length := by simp only [decide_eq_false_iff_not] at hb; omega
      rw [hil, List.drop_length, set6] at he
      have fin : ∀ (o : Sl) (Y : List RecX), Y = set6 k (r, s) keep X → (∀ y ∈ Y, y.2.1.ok ∧ inP P y.2.2 y.2.1.val) → HG B (SlC ty_api_Row 5 o (Y.flatMap rowF6) :: blk r5 (.cells (recL r s).toArray ty_api_Record (0, 0)) :: ref6L st n rs X Γ) (ref06_Store_Set.s6 Q (fun out6_2 keep7_2 i8_2 => k' (out6_2, keep7_2, i8_2)) ⟨st, 0, none⟩ o) := fun o Y hY hok => by
        unfold ref06_Store_Set.s6
        repeat refine s_nx ?_
        refine s_ownS o ?_
        refine s_own st ?_
        refine s_mkRef6 (M := setM M k r) ⟨?_, hok, hf.n1, hf.n3, setM_srt hf.srt⟩ (s_end h)
        rw [hY, set6_map, ← hf.mod, hset]
      refine s_ite (fun hkp1 => ?_) fun hkp1 => ?_
      · subst hkp1
        repeat refine s_nx ?_
        refine s_new fun t70 => ?_
        refine s_append (s := o) (esz := 5) (us := rowF6 (k, (r, s))) (blk_rd rfl) (by intro v hv; exact rowF6_fl [(k, (r, s))] v (by simpa using hv)) (by simp only; omega) fun o2 ho2 => ?_
        rw [show Y.flatMap rowF6 ++ rowF6 (k, (r, s)) = (Y ++ [(k, (r, s))]).flatMap rowF6 by simp only [List.flatMap_append, List.flatMap_cons, List.flatMap_nil, List.append_nil]]
        refine s_end (fin o2 (Y ++ [(k, (r, s))]) (by simpa using he) fun y hy => ?_)
        rcases List.mem_append.1 hy with hy | hy
        · exact hok y hy
        · rw [List.mem_singleton.1 hy]; exact ⟨hr, hv⟩
      · subst hkp1
        exact fin o Y (by simpa using he) hok
  refine s_dr ?_
  refine s_wsD [blk r5 (.cells (recL r s).toArray ty_api_Record (0, 0))] ?_
  repeat refine s_nx ?_
  refine s_ite (fun hb => ?_) fun hb => ?_
  · refine s_new fun t9 => ?_
    repeat refine s_nx ?_
    exact rows t9 true (by simp [hb])
  · repeat refine s_nx ?_
    refine s_new fun t9 => ?_
    repeat refine s_nx ?_
    refine rows t9 _ ?_
    have := hr.1
    simp only [hb, decide_eq_true_eq, true_and]
    omega
theorem move6_hg {k : ByteArray} {to : Int} {Q : Int → K} (hk : k.size < 1000000000000) (hL : M.length < 10000000) (h : HG B (Ref6 st n (sMove n M k to).1 P :: Γ) (Q (sMove n M k to).2)) : HG B (Ref6 st n M P :: Γ) (ref06_Store_Move.call (some ⟨st, 0, none⟩) k to Q) := by
  refine fun w hw => ref06_Store_Move_ok _ _ _ _ _ ?_
  refine hg hw ?_
  clear hw w
  unfold ref06_Store_Move
  have bad : to < 0 ∨ (n : Int) ≤ to → ∀ s0, HG B (Ref6 st n M P :: Γ) (ref06_Store_Move.s1 Q s0 k to true) := fun hb s0 => by
    unfold ref06_Store_Move.s1
    refine s_t ?_
    rw [show sMove n M k to = (M, 1) by unfold sMove; rw [if_pos hb]] at h
    exact h
  refine s_ite (fun hb => bad (.inl (by simpa using hb)) _) fun hb => ?_
  refine s_nn ?_
  refine s_ref6 fun rs X hf => ?_
  repeat refine s_nx ?_
  refine s_mkRef6 hf ?_
  by_cases hb2 : (n : Int) ≤ to
  · rw [show decide ((n : Int) ≤ to) = true by simpa using hb2]
    exact bad (.inr hb2) _
  rw [show decide ((n : Int) ≤ to) = false by simpa using hb2]
  have hnb : ¬ (to < 0 ∨ (n : Int) ≤ to) := by
    simp only [decide_eq_false_iff_not] at hb
    omega
  unfold ref06_Store_Move.s1
  refine s_f ?_
  refine get6_hg hk (by omega) fun s hok hv => ?_
  generalize hR : sGet n M k = r at *
  refine s_new fun r7 => ?_
  refine s_stN (b := r7) (l' := recL r s) ?_
  repeat refine s_nx ?_
  refine s_ite (fun hc => ?_) fun hc => ?_
  · rw [show sMove n M k to = (M, 111) by unfold sMove; rw [if_neg hnb, hR, if_pos (by simpa using hc)]] at h
    exact s_end h
  have hc' : r.cnt ≠ 18446744073709551615 := by simpa using hc
  obtain ⟨o1, o2, o3⟩ := hok
  repeat refine s_nx ?_
  refine s_ar (wrapU64 (by omega) (by omega)) ?_
  repeat refine s_nx ?_
  refine s_own st ?_
  refine set6_hg (r := { r with home := to, cnt := r.cnt + 1 }) ⟨by simp only; omega, by simp only; omega, o3⟩ hv hL ?_
  have e : sMove n M k to = (setM M k { r with home := to, cnt := r.cnt + 1 }, 0) := by
    unfold sMove setM
    rw [if_neg hnb, hR, if_neg hc', if_neg fun hh => by simp only at hh; omega]
  rw [e] at h
  exact s_end h
end
end Go.Proofs.YtihncgfghpbhdaaGreat
/- The document's locks: doom, Leave, Enter, Moved. -/
namespace Go.Proofs.YtihncgfghpbhdaaGreat
open Go Go.Sep Go.Sep.Bt
set_option linter.unusedSimpArgs false
set_option linter.unusedVariables false
set_option linter.unusedSectionVars false
set_option maxRecDepth 100000
/-- Lines, parked ones, doomed ones. -/
structure RX where
  line : List Claim
  park : List Claim
  doom : List TagM
abbrev rxL (x : RX) (c : Claim) : RX := ⟨x.line ++ [c], x.park, x.doom⟩
abbrev rxP (x : RX) (c : Claim) : RX := ⟨x.line, x.park ++ [c], x.doom⟩
abbrev rxD (x : RX) (t : TagM) : RX := ⟨x.line, x.park, addT x.doom t⟩
def rEnter1 (n : Nat) (S : Recs) (tag : TagM) (x : RX) (m : MarkM) : RX :=
  if hasK x.line m.key tag || hasK x.park m.key tag then x else if markLook n S m = 0 then rxL x (tag, m) else if markLook n S m = 1 then rxP x (tag, m) else rxD x tag
def rEnter (n : Nat) (S : Recs) (tag : TagM) (ms : List MarkM) (x : RX) : RX := ms.foldl (rEnter1 n S tag) x
abbrev rLeave (tag : TagM) (x : RX) : RX := ⟨noT tag x.line, noT tag x.park, x.doom.filter fun t => !decide (t = tag)⟩
def rDoomL (r : Rec) (key : List UInt8) (L : List Claim) (D : List TagM) : List TagM := L.foldl (fun D c => if c.2.key = key ∧ clLook r c ≠ 0 then addT D c.1 else D) D
/-- One parked one is looked at: the lines, the doomed ones, those that stay. -/
def rMv1 (r : Rec) (key : List UInt8) (x : List Claim × List TagM × List Claim) (c : Claim) : List Claim × List TagM × List Claim :=
  if c.2.key ≠ key ∨ clLook r c = 1 then (x.1, x.2.1, x.2.2 ++ [c]) else if clLook r c = 0 then (x.1 ++ [c], x.2.1, x.2.2) else (x.1, addT x.2.1 c.1, x.2.2)
def rMv (r : Rec) (key : List UInt8) (L : List Claim) (x : List Claim × List TagM × List Claim) : List Claim × List TagM × List Claim := L.foldl (rMv1 r key) x
def rMoved (n : Nat) (S : Recs) (key : List UInt8) (x : RX) : RX :=
  let y := rMv (sGet n S (bs key)) key x.park (x.line, rDoomL (sGet n S (bs key)) key x.line x.doom, [])
  ⟨y.1, y.2.2, y.2.1⟩
abbrev rsz (x : RX) (N : Nat) : Prop := x.line.length ≤ N ∧ x.park.length ≤ N ∧ x.doom.length ≤ N
theorem addT_le (D : List TagM) (t : TagM) : (addT D t).length ≤ D.length + 1 := by
  unfold addT
  split <;> simp
theorem rsz_enter1 {n : Nat} {S : Recs} {tag : TagM} {x : RX} {m : MarkM} {N : Nat} (h : rsz x N) : rsz (rEnter1 n S tag x m) (N + 1) := by
  obtain ⟨h1, h2, h3⟩ := h
  have := addT_le x.doom tag
  unfold rEnter1
  split
  · exact ⟨by omega, by omega, by omega⟩
  split
  · exact ⟨by simp; omega, by simp only; omega, by simp only; omega⟩
  split
  · exact ⟨by simp only; omega, by simp; omega, by simp only; omega⟩
  · exact ⟨by simp only; omega, by simp only; omega, by simp only; omega⟩
abbrev r16L (m : Nat) (ls ps ds : Sl) (x : RX) (Γ : List HProp) : List HProp :=
  blk m (.cells [ls.val, ps.val, ds.val].toArray ty_argosyref16_Locks (0, 0)) :: SlC ty_argosyref16_Claim 7 ls (x.line.flatMap clF) :: SlC ty_argosyref16_Claim 7 ps (x.park.flatMap clF) :: SlC ty_api_Tag 4 ds (x.doom.flatMap tagF) :: Γ
def Ref16 (m : Nat) (x : RX) : HProp := ex fun ls => ex fun ps => ex fun ds => Sep.stars (r16L m ls ps ds x [])
section
variable {B : World} {Γ Δ : List HProp} {k : K} {tag : TagM} {m n st : Nat} {x : RX} {S : Recs} {P : Pool}
instance (priority := high) own_ref16 : Sep.Own m (Ref16 m x :: Γ) (Ref16 m x) Γ := ⟨.refl _⟩
theorem s_ref16 (h : ∀ ls ps ds, HG B (r16L m ls ps ds x Γ) k) : HG B (Ref16 m x :: Γ) k :=
  s_ex fun ls => s_ex fun ps => s_ex fun ds => s_flat <| h ls ps ds
theorem s_mkRef16 {ls ps ds : Sl} (h : HG B (Ref16 m x :: Γ) k) : HG B (r16L m ls ps ds x Γ) k := fun w hw => by
  refine h w ?_
  have h3 : Holds B (Sep.stars (r16L m ls ps ds x []) :: Γ) w := Holds.flat.2 hw
  exact h3.imp fun g hg => ⟨ls, ps, ds, hg⟩
theorem new16_hg {k : Addr → K} (h : ∀ m, HG B (Ref16 m ⟨[], [], []⟩ :: Γ) (k ⟨m, 0, none⟩)) : HG B Γ (New ty_argosyref16_Locks [Sl.val ⟨none, 0, 0⟩, Sl.val ⟨none, 0, 0⟩, Sl.val ⟨none, 0, 0⟩].toArray k) := by
  refine s_new fun m => ?_
  refine fun w hw => ?_
  refine Sep.hg (show Holds B (SlC ty_argosyref16_Claim 7 ⟨none, 0, 0⟩ (([] : List Claim).flatMap clF) :: _) w from hw.nilSl _ _) ?_
  clear hw w
  refine fun w hw => ?_
  refine Sep.hg (show Holds B (SlC ty_argosyref16_Claim 7 ⟨none, 0, 0⟩ (([] : List Claim).flatMap clF) :: _) w from hw.nilSl _ _) ?_
  clear hw w
  refine fun w hw => ?_
  refine Sep.hg (show Holds B (SlC ty_api_Tag 4 ⟨none, 0, 0⟩ (([] : List TagM).flatMap tagF) :: _) w from hw.nilSl _ _) ?_
  clear hw w
  refine s_end (Δ := r16L m ⟨none, 0, 0⟩ ⟨none, 0, 0⟩ ⟨none, 0, 0⟩ ⟨[], [], []⟩ Γ) ?_
  exact s_mkRef16 (h m)
theorem doom16_hg {Q : K} (hd : x.doom.length ≤ 1000000) (h : HG B (Ref16 m (rxD x tag) :: Γ) Q) : HG B (Ref16 m x :: Γ) (ref16_Locks_doom.call (some ⟨m, 0, none⟩) (tagF tag).toArray Q) := by
  refine fun w hw => ref16_Locks_doom_ok _ _ _ _ ?_
  refine hg hw ?_
  clear hw w
  refine s_ref16 fun ls ps ds => ?_
  refine s_cap ds fun a1 a2 a3 a4 => ?_
  rw [flatMap_len _ 4 tagF_len] at a1
  unfold ref16_Locks_doom
  refine s_new fun g3 => ?_
  refine s_dr ?_
  refine s_nn ?_
  refine s_ld (b := m) (x := ds) ?_
  refine s_ldN (b := g3) (l' := tagF tag) ?_
  refine in16_hg (L := x.doom) (by omega) (fun w hw => (own_rd (s := ds) hw).1) ?_
  by_cases hin : tag ∈ x.doom
  · refine s_f ?_ (by simp [hin])
    rw [show rxD x tag = x by unfold rxD addT; rw [if_pos hin]] at h
    refine s_end (Δ := r16L m ls ps ds x Γ) ?_
    exact s_mkRef16 h
  · refine s_t ?_ (by simp [hin])
    have hx : (rxD x tag).doom = x.doom ++ [tag] := by show addT x.doom tag = _; unfold addT; rw [if_neg hin]
    refine s_dr ?_
    refine s_wsP (fun w => w.cell? ⟨m, 2, none⟩ = some ds.val ∧ RdN w ⟨g3, 0, none⟩ (tagF tag).toArray) (fun w hw => ⟨cell_block (own_blkOf (b := m) hw) rfl, rd_at (b := g3) (l := tagF tag) (n := 4) hw⟩) ?_
    refine s_ldSP (x := ds) (fun w hS => hS.1) ?_
    refine s_ldNSP (l := tagF tag) (fun w hS => hS.2) ?_
    refine s_cpyA (z := [.int .i64 0, .int .u64 0, .int .u64 0, .int .i64 0]) (us := tagF tag) (vs := x.doom.flatMap tagF) (fun w hw => ⟨cell_block (own_blkOf (b := m) hw) rfl, rd_at (b := g3) (l := tagF tag) (n := 4) hw⟩) (fun w hw => (own_rd (s := ds) hw).1) (tagF_fl _) (by omega) fun s' hs' => ?_
    refine s_st (b := m) (l' := [ls.val, ps.val, s'.val]) ?_
    rw [show x.doom.flatMap tagF ++ tagF tag = (rxD x tag).doom.flatMap tagF by rw [hx]; simp [List.flatMap_append]]
    refine s_end (Δ := r16L m ls ps s' (rxD x tag) Γ) ?_
    exact s_mkRef16 h
theorem leave16_hg {Q : K} (hN : rsz x 1000000) (h : HG B (Ref16 m (rLeave tag x) :: Γ) Q) : HG B (Ref16 m x :: Γ) (ref16_Locks_Leave.call (some ⟨m, 0, none⟩) (tagF tag).toArray Q) := by
  refine fun w hw => ref16_Locks_Leave_ok _ _ _ _ ?_
  refine hg hw ?_
  clear hw w
  obtain ⟨n1, n2, n3⟩ := hN
  refine s_ref16 fun ls ps ds => ?_
  refine s_cap ds fun a1 a2 a3 a4 => ?_
  rw [flatMap_len _ 4 tagF_len] at a1
  unfold ref16_Locks_Leave
  refine s_new fun g3 => ?_
  refine s_dr ?_
  refine s_nn ?_
  refine s_ld (b := m) (x := ls) ?_
  refine s_ldN (b := g3) (l' := tagF tag) ?_
  refine without16_hg (L := x.line) n1 (fun w hw => (own_rd (s := ls) hw).1) fun ls' => ?_
  refine s_st (b := m) (l' := [ls'.val, ps.val, ds.val]) ?_
  refine s_dr ?_
  refine s_ld (b := m) (x := ps) ?_
  refine s_ldN (b := g3) (l' := tagF tag) ?_
  refine without16_hg (L := x.park) n2 (fun w hw => (own_rd (s := ps) hw).1) fun ps' => ?_
  refine s_st (b := m) (l' := [ls'.val, ps'.val, ds.val]) ?_
  refine s_new fun t24 => ?_
  refine s_slc0 (esz := 4) ?_
  refine s_end (Δ := SlC ty_api_Tag 4 ⟨some ⟨t24, 0, none⟩, 0, 0⟩ [] :: blk m (.cells [ls'.val, ps'.val, ds.val].toArray ty_argosyref16_Locks (0, 0)) :: SlC ty_api_Tag 4 ds (x.doom.flatMap tagF) :: blk g3 (.cells (tagF tag).toArray ty_api_Tag (0, 0)) :: SlC ty_argosyref16_Claim 7 ls' ((noT tag x.line).flatMap clF) :: SlC ty_argosyref16_Claim 7 ps' ((noT tag x.park).flatMap clF) :: Γ) ?_
  refine s_loop (α := Sl × Int) (ι := Nat) (fun y i => y.2 = (i : Int) ∧ i ≤ x.doom.length) (fun y i => SlC ty_api_Tag 4 y.1 (((x.doom.take i).filter fun t => !decide (t = tag)).flatMap tagF) :: blk m (.cells [ls'.val, ps'.val, ds.val].toArray ty_argosyref16_Locks (0, 0)) :: SlC ty_api_Tag 4 ds (x.doom.flatMap tagF) :: blk g3 (.cells (tagF tag).toArray ty_api_Tag (0, 0)) :: SlC ty_argosyref16_Claim 7 ls' ((noT tag x.line).flatMap clF) :: SlC ty_argosyref16_Claim 7 ps' ((noT tag x.park).flatMap clF) :: Γ) (fun y i => x.doom.length - i) 0 ⟨rfl, Nat.zero_le _⟩ ?_
  rintro k' ⟨o, _⟩ i ⟨rfl, hi⟩ hk'
  simp only at hi hk' ⊢
  refine s_cap o fun b1 b2 b3 b4 => ?_
  rw [flatMap_len _ 4 tagF_len] at b1
  have ho : ((x.doom.take i).filter fun t => !decide (t = tag)).length ≤ i := by
    have h1 := List.length_filter_le (fun t : TagM => !decide (t = tag)) (x.doom.take i)
    rw [List.length_take] at h1
    omega
  unfold ref16_Locks_Leave.b1
  refine s_ld (b := m) (x := ds) ?_
  refine s_ite (fun hb => ?_) fun hb => ?_
  · have hil : i < x.doom.length := by simp only [decide_eq_true_eq] at hb; omega
    have htk := List.take_succ_eq_append_getElem hil
    have hge : x.doom[i]? = some x.doom[i] := List.getElem?_eq_getElem hil
    generalize x.doom[i] = t at htk hge
    refine s_dr ?_
    refine s_ld (b := m) (x := ds) ?_
    refine s_idxN tagF tagF_len (fun w hw => (own_rd (s := ds) hw).1) hge ?_
    refine s_ldN (b := g3) (l' := tagF tag) ?_
    refine s_neS (xs := tagF t) (ys := tagF tag) (ks := tagK) tagF_inj ?_
    by_cases hx : t = tag
    · refine s_f ?_ (by simp [hx])
      unfold ref16_Locks_Leave.s2
      refine s_ai ?_
      have hfin := hk' (o, (i : Int) + 1) (i + 1) ⟨by simp, hil⟩ (by omega)
      rw [show (x.doom.take (i + 1)).filter (fun t => !decide (t = tag)) = (x.doom.take i).filter fun t => !decide (t = tag) by rw [htk]; simp [hx]] at hfin
      exact hfin
    · refine s_t ?_ (by simp [hx])
      refine s_ld (b := m) (x := ds) ?_
      refine s_idxN tagF tagF_len (fun w hw => (own_rd (s := ds) hw).1) hge ?_
      refine s_bld1 ?_
      refine s_app1 (s := o) (m := 1) (us := tagF t) (fun o2 ho2 => ?_)
      unfold ref16_Locks_Leave.s2
      refine s_ai ?_
      have hfin := hk' (o2, (i : Int) + 1) (i + 1) ⟨by simp, hil⟩ (by omega)
      rw [show ((x.doom.take (i + 1)).filter fun t => !decide (t = tag)).flatMap tagF = ((x.doom.take i).filter fun t => !decide (t = tag)).flatMap tagF ++ tagF t by rw [htk]; simp [hx, List.flatMap_append]] at hfin
      exact hfin
  · have hil : i = x.doom.length := by simp only [decide_eq_false_iff_not] at hb; omega
    rw [hil, List.take_length]
    refine s_st (b := m) (l' := [ls'.val, ps'.val, o.val]) ?_
    refine s_end (Δ := r16L m ls' ps' o (rLeave tag x) Γ) ?_
    exact s_mkRef16 h
theorem look16_hg {r : Rec} {sl : Sl} {mk : MarkM} {Q : Int → K} (h : HG B Γ (Q (lookS r.cnt mk.cnt r.home mk.home))) : HG B Γ (ref10_Look.call (recA r sl) (markF mk).toArray Q) := fun w hw => by
  refine ref10_Look_ok _ _ _ _ ?_
  refine Sep.hg hw ?_
  clear hw w
  unfold ref10_Look ref10_Look.s1
  refine s_new fun r2 => ?_
  refine s_new fun m3 => ?_
  repeat refine s_nx ?_
  refine s_ite (fun hb => ?_) fun hb => ?_
  · rw [show lookS r.cnt mk.cnt r.home mk.home = 1 by unfold lookS; rw [if_pos (by simpa using hb)]] at h
    exact s_end h
  have hb' : ¬ r.cnt < mk.cnt := by simpa using hb
  repeat refine s_nx ?_
  refine s_ite (fun hc => ?_) fun hc => ?_
  · have hc' : mk.cnt < r.cnt := by simpa using hc
    refine s_t ?_
    rw [show lookS r.cnt mk.cnt r.home mk.home = 2 by unfold lookS; rw [if_neg hb', if_neg (by omega)]] at h
    exact s_end h
  have hc' : ¬ mk.cnt < r.cnt := by simpa using hc
  repeat refine s_nx ?_
  refine s_ite (fun hd => ?_) fun hd => ?_
  · have hd' : mk.home ≠ r.home := by simpa using hd
    rw [show lookS r.cnt mk.cnt r.home mk.home = 2 by unfold lookS; rw [if_neg hb', if_neg fun h => hd' h.2]] at h
    exact s_end h
  · have hd' : mk.home = r.home := by simpa using hd
    rw [show lookS r.cnt mk.cnt r.home mk.home = 0 by unfold lookS; rw [if_neg hb', if_pos ⟨by omega, hd'⟩]] at h
    exact s_end h
end
end Go.Proofs.YtihncgfghpbhdaaGreat
/- The document's locks: Enter. -/
namespace Go.Proofs.YtihncgfghpbhdaaGreat
open Go Go.Sep Go.Sep.Bt
set_option linter.unusedSimpArgs false
set_option linter.unusedVariables false
set_option linter.unusedSectionVars false
set_option maxRecDepth 100000
section
variable {B : World} {Γ Δ : List HProp} {k : K} {tag : TagM} {m n st : Nat} {x : RX} {S : Recs} {P : Pool}
abbrev clZ : List Value := [.int .i64 0, .int .u64 0, .int .u64 0, .int .i64 0, .string ⟨#[]⟩, .int .i64 0, .int .u64 0]
theorem enter16_s3 {y : RX} {mk : MarkM} {m9 g6 : Nat} {ms : Sl} {i : Int} {N : Nat} {Q : K} {X1 : Int → K} (hsz : rsz y N) (hNl : N ≤ 900000) (hk : mk.key.length < 1000000000) (hS : S.length < 100000000) (hno : (hasK y.line mk.key tag || hasK y.park mk.key tag) = false)
    (h : HG B (Ref16 m (rEnter1 n S tag y mk) :: Ref6 st n S P :: blk m9 (.cells (markF mk).toArray ty_api_Mark (0, 0)) :: blk g6 (.cells (tagF tag).toArray ty_api_Tag (0, 0)) :: Γ) (ref16_Locks_Enter.s2 Q X1 (some ⟨m, 0, none⟩) (some ⟨st, 0, none⟩) ms ⟨g6, 0, none⟩ i)) :
    HG B (Ref16 m y :: Ref6 st n S P :: blk m9 (.cells (markF mk).toArray ty_api_Mark (0, 0)) :: blk g6 (.cells (tagF tag).toArray ty_api_Tag (0, 0)) :: Γ) (ref16_Locks_Enter.s3 Q X1 (some ⟨m, 0, none⟩) (some ⟨st, 0, none⟩) ms ⟨g6, 0, none⟩ i ⟨m9, 0, none⟩ false) := by
  obtain ⟨n1, n2, n3⟩ := hsz
  unfold ref16_Locks_Enter.s3
  refine s_f ?_
  refine s_dr ?_
  refine s_wsP (fun w => w.cell? ⟨m9, 0, none⟩ = some (.string (bs mk.key)) ∧ RdN w ⟨m9, 0, none⟩ (markF mk).toArray) (fun w hw => ⟨cell_block (own_blkOf (b := m9) hw) rfl, rd_at (b := m9) (l := markF mk) (n := 3) hw⟩) ?_
  refine s_ldSP (x := bs mk.key) (fun w hS => hS.1) ?_
  refine s_ldNSP (l := markF mk) (fun w hS => hS.2) ?_
  refine s_own st ?_
  refine get6_hg (by show mk.key.length < _; omega) hS fun sl hok _ => ?_
  refine s_svP (fun w hw => ⟨cell_block (own_blkOf (b := m9) hw) rfl, rd_at (b := m9) (l := markF mk) (n := 3) hw⟩) ?_
  refine look16_hg (r := sGet n S (bs mk.key)) ?_
  have hlk : markLook n S mk = lookS (sGet n S (bs mk.key)).cnt mk.cnt (sGet n S (bs mk.key)).home mk.home := rfl
  rw [← hlk]
  refine s_own m ?_
  unfold rEnter1 at h
  rw [hno] at h
  simp only [Bool.false_eq_true, if_false] at h
  by_cases h0 : markLook n S mk = 0
  · rw [if_pos h0] at h
    refine s_t ?_ (by simpa using h0)
    refine s_ref16 fun ls ps ds => ?_
    refine s_cap ls fun a1 a2 a3 a4 => ?_
    rw [flatMap_len _ 7 clF_len] at a1
    refine s_dr ?_
    refine s_wsP (fun w => w.cell? ⟨m, 0, none⟩ = some ls.val ∧ RdN w ⟨g6, 0, none⟩ (tagF tag).toArray ∧ RdN w ⟨m9, 0, none⟩ (markF mk).toArray) (fun w hw => ⟨cell_block (own_blkOf (b := m) hw) rfl, rd_at (b := g6) (l := tagF tag) (n := 4) hw, rd_at (b := m9) (l := markF mk) (n := 3) hw⟩) ?_
    refine s_nn ?_
    refine s_ldSP (x := ls) (fun w hS => hS.1) ?_
    refine s_ldNSP (l := tagF tag) (fun w hS => hS.2.1) ?_
    refine s_ldNSP (l := markF mk) (fun w hS => hS.2.2) ?_
    refine s_nx ?_
    refine s_cpyA (z := clZ) (us := clF (tag, mk)) (vs := y.line.flatMap clF) (fun w hw => ⟨cell_block (own_blkOf (b := m) hw) rfl, rd_at (b := g6) (l := tagF tag) (n := 4) hw, rd_at (b := m9) (l := markF mk) (n := 3) hw⟩) (fun w hw => (own_rd (s := ls) hw).1) (clF_fl _) (by omega) fun s' hs' => ?_
    refine s_st (b := m) (l' := [s'.val, ps.val, ds.val]) ?_
    rw [show y.line.flatMap clF ++ clF (tag, mk) = (rxL y (tag, mk)).line.flatMap clF by simp [List.flatMap_append]]
    refine s_end (Δ := r16L m s' ps ds (rxL y (tag, mk)) (Ref6 st n S P :: blk m9 (.cells (markF mk).toArray ty_api_Mark (0, 0)) :: blk g6 (.cells (tagF tag).toArray ty_api_Tag (0, 0)) :: Γ)) ?_
    exact s_mkRef16 h
  rw [if_neg h0] at h
  refine s_f ?_ (by simpa using h0)
  by_cases h1 : markLook n S mk = 1
  · rw [if_pos h1] at h
    refine s_t ?_ (by simpa using h1)
    refine s_ref16 fun ls ps ds => ?_
    refine s_cap ps fun a1 a2 a3 a4 => ?_
    rw [flatMap_len _ 7 clF_len] at a1
    refine s_dr ?_
    refine s_wsP (fun w => w.cell? ⟨m, 1, none⟩ = some ps.val ∧ RdN w ⟨g6, 0, none⟩ (tagF tag).toArray ∧ RdN w ⟨m9, 0, none⟩ (markF mk).toArray) (fun w hw => ⟨cell_block (own_blkOf (b := m) hw) rfl, rd_at (b := g6) (l := tagF tag) (n := 4) hw, rd_at (b := m9) (l := markF mk) (n := 3) hw⟩) ?_
    refine s_nn ?_
    refine s_ldSP (x := ps) (fun w hS => hS.1) ?_
    refine s_ldNSP (l := tagF tag) (fun w hS => hS.2.1) ?_
    refine s_ldNSP (l := markF mk) (fun w hS => hS.2.2) ?_
    refine s_nx ?_
    refine s_cpyA (z := clZ) (us := clF (tag, mk)) (vs := y.park.flatMap clF) (fun w hw => ⟨cell_block (own_blkOf (b := m) hw) rfl, rd_at (b := g6) (l := tagF tag) (n := 4) hw, rd_at (b := m9) (l := markF mk) (n := 3) hw⟩) (fun w hw => (own_rd (s := ps) hw).1) (clF_fl _) (by omega) fun s' hs' => ?_
    refine s_st (b := m) (l' := [ls.val, s'.val, ds.val]) ?_
    rw [show y.park.flatMap clF ++ clF (tag, mk) = (rxP y (tag, mk)).park.flatMap clF by simp [List.flatMap_append]]
    refine s_end (Δ := r16L m ls s' ds (rxP y (tag, mk)) (Ref6 st n S P :: blk m9 (.cells (markF mk).toArray ty_api_Mark (0, 0)) :: blk g6 (.cells (tagF tag).toArray ty_api_Tag (0, 0)) :: Γ)) ?_
    exact s_mkRef16 h
  rw [if_neg h1] at h
  refine s_f ?_ (by simpa using h1)
  refine s_ldN (b := g6) (l' := tagF tag) ?_
  refine doom16_hg (by omega) ?_
  exact s_end h
theorem enter16_hg {ms : Sl} {L : List MarkM} {N : Nat} {Q : K} (hr : ∀ w, Holds B Γ w → RdC w ms 3 (L.flatMap markF)) (hk : ∀ m ∈ L, m.key.length < 1000000000) (hS : S.length < 100000000) (hN : rsz x N) (hNl : N + L.length ≤ 900000) (h : HG B (Ref16 m (rEnter n S tag L x) :: Ref6 st n S P :: Γ) Q) :
    HG B (Ref16 m x :: Ref6 st n S P :: Γ) (ref16_Locks_Enter.call (some ⟨m, 0, none⟩) (some ⟨st, 0, none⟩) (tagF tag).toArray ms Q) := fun w hw => by
  refine ref16_Locks_Enter_ok _ _ _ _ _ _ ?_
  have ln : ms.n = L.length := rd_len markF_len (by omega) (hr w hw.drops)
  refine hg hw ?_
  clear hw w
  unfold ref16_Locks_Enter
  refine s_new fun g6 => ?_
  refine s_end (Δ := Ref16 m x :: Ref6 st n S P :: blk g6 (.cells (tagF tag).toArray ty_api_Tag (0, 0)) :: Γ) ?_
  refine s_loop (α := Int) (ι := Nat × RX) (fun z i => z = (i.1 : Int) ∧ i.1 ≤ L.length ∧ i.2 = rEnter n S tag (L.take i.1) x ∧ rsz i.2 (N + i.1)) (fun z i => Ref16 m i.2 :: Ref6 st n S P :: blk g6 (.cells (tagF tag).toArray ty_api_Tag (0, 0)) :: Γ) (fun z i => L.length - i.1) (0, x) ⟨rfl, Nat.zero_le _, rfl, by simpa using hN⟩ ?_
  rintro k' _ ⟨i, y⟩ ⟨rfl, hi, hy, hsz⟩ hk'
  simp only at hi hy hsz hk' ⊢
  unfold ref16_Locks_Enter.b1
  refine s_ite (fun hb => ?_) fun hb => ?_
  rotate_left
  · have hil : i = L.length := by simp only [decide_eq_false_iff_not] at hb; omega
    rw [hil, List.take_length] at hy
    rw [hy]
    exact s_end h
  have hil : i < L.length := by simp only [decide_eq_true_eq] at hb; omega
  have htk := List.take_succ_eq_append_getElem hil
  have hge : L[i]? = some L[i] := List.getElem?_eq_getElem hil
  have hmem : L[i] ∈ L := List.getElem_mem hil
  generalize L[i] = mk at htk hge hmem
  have hstep : rEnter n S tag (L.take (i + 1)) x = rEnter1 n S tag y mk := by rw [htk, hy]; simp [rEnter, List.foldl_append]
  have hsz1 : rsz (rEnter1 n S tag y mk) (N + (i + 1)) := rsz_enter1 hsz
  refine s_idxN markF markF_len (fun w hw => hr w hw.drops) hge ?_
  refine s_new fun m9 => ?_
  refine s_stN (b := m9) (l' := markF mk) ?_
  have S2 : HG B (Ref16 m (rEnter1 n S tag y mk) :: Ref6 st n S P :: blk m9 (.cells (markF mk).toArray ty_api_Mark (0, 0)) :: blk g6 (.cells (tagF tag).toArray ty_api_Tag (0, 0)) :: Γ) (ref16_Locks_Enter.s2 Q k' (some ⟨m, 0, none⟩) (some ⟨st, 0, none⟩) ms ⟨g6, 0, none⟩ (i : Int)) := by
    unfold ref16_Locks_Enter.s2
    refine s_ai ?_
    exact s_end (hk' ((i : Int) + 1) (i + 1, rEnter1 n S tag y mk) ⟨by simp, hil, hstep.symm, hsz1⟩ (by simp only; omega))
  refine s_own m ?_
  refine s_ref16 fun ls ps ds => ?_
  refine s_dr ?_
  refine s_wsP (fun w => w.cell? ⟨m, 0, none⟩ = some ls.val ∧ w.cell? ⟨m, 1, none⟩ = some ps.val ∧ w.cell? ⟨m9, 0, none⟩ = some (.string (bs mk.key)) ∧ RdN w ⟨g6, 0, none⟩ (tagF tag).toArray) (fun w hw => ⟨cell_block (own_blkOf (b := m) hw) rfl, cell_block (own_blkOf (b := m) hw) rfl, cell_block (own_blkOf (b := m9) hw) rfl, rd_at (b := g6) (l := tagF tag) (n := 4) hw⟩) ?_
  refine s_nn ?_
  refine s_ldSP (x := ls) (fun w hS => hS.1) ?_
  refine s_ldSP (x := bs mk.key) (fun w hS => hS.2.2.1) ?_
  refine s_ldNSP (l := tagF tag) (fun w hS => hS.2.2.2) ?_
  refine has16_hg (L := y.line) (by have := hsz.1; omega) (fun w hw => (own_rd (s := ls) hw).1) ?_
  refine s_svP (fun w hw => ⟨cell_block (own_blkOf (b := m) hw) rfl, cell_block (own_blkOf (b := m) hw) rfl, cell_block (own_blkOf (b := m9) hw) rfl, rd_at (b := g6) (l := tagF tag) (n := 4) hw⟩) ?_
  have yes : (hasK y.line mk.key tag || hasK y.park mk.key tag) = true → HG B (r16L m ls ps ds y (Ref6 st n S P :: blk m9 (.cells (markF mk).toArray ty_api_Mark (0, 0)) :: blk g6 (.cells (tagF tag).toArray ty_api_Tag (0, 0)) :: Γ)) (ref16_Locks_Enter.s3 Q k' (some ⟨m, 0, none⟩) (some ⟨st, 0, none⟩) ms ⟨g6, 0, none⟩ (i : Int) ⟨m9, 0, none⟩ true) := fun hyes => by
    unfold ref16_Locks_Enter.s3
    refine s_t ?_
    rw [show rEnter1 n S tag y mk = y by unfold rEnter1; rw [if_pos hyes]] at S2
    exact s_mkRef16 S2
  by_cases h1 : hasK y.line mk.key tag = true
  · refine s_t ?_ h1
    exact s_end (yes (by rw [h1]; rfl))
  have h1' : hasK y.line mk.key tag = false := by simpa using h1
  refine s_f ?_ h1'
  refine s_ldSP (x := ps) (fun w hS => hS.2.1) ?_
  refine s_ldSP (x := bs mk.key) (fun w hS => hS.2.2.1) ?_
  refine s_ldNSP (l := tagF tag) (fun w hS => hS.2.2.2) ?_
  refine has16_hg (L := y.park) (by have := hsz.2.1; omega) (fun w hw => (own_rd (s := ps) hw).1) ?_
  by_cases h2 : hasK y.park mk.key tag = true
  · rw [h2]
    exact s_end (yes (by rw [h2]; simp))
  have h2' : hasK y.park mk.key tag = false := by simpa using h2
  rw [h2']
  refine s_end (Δ := r16L m ls ps ds y (Ref6 st n S P :: blk m9 (.cells (markF mk).toArray ty_api_Mark (0, 0)) :: blk g6 (.cells (tagF tag).toArray ty_api_Tag (0, 0)) :: Γ)) ?_
  exact s_mkRef16 (enter16_s3 (N := N + i) hsz (by omega) (hk _ hmem) hS (by rw [h1', h2']; rfl) S2)
end
end Go.Proofs.YtihncgfghpbhdaaGreat
/- The document's locks: Moved. -/
namespace Go.Proofs.YtihncgfghpbhdaaGreat
open Go Go.Sep Go.Sep.Bt
set_option linter.unusedSimpArgs false
set_option linter.unusedVariables false
set_option linter.unusedSectionVars false
set_option maxRecDepth 100000
theorem rDoomL_le (r : Rec) (key : List UInt8) : ∀ (L : List Claim) (D : List TagM), (rDoomL r key L D).length ≤ D.length + L.length
  | [], D => by simp [rDoomL]
  | c :: L, D => by
    show (rDoomL r key L (if c.2.key = key ∧ clLook r c ≠ 0 then addT D c.1 else D)).length ≤ _
    have h1 := rDoomL_le r key L (if c.2.key = key ∧ clLook r c ≠ 0 then addT D c.1 else D)
    have h2 := addT_le D c.1
    have h3 : (if c.2.key = key ∧ clLook r c ≠ 0 then addT D c.1 else D).length ≤ D.length + 1 := by
      split
      · exact h2
      · omega
    rw [List.length_cons]
    omega
theorem rMv_le (r : Rec) (key : List UInt8) : ∀ (L : List Claim) (x : List Claim × List TagM × List Claim), (rMv r key L x).1.length ≤ x.1.length + L.length ∧ (rMv r key L x).2.1.length ≤ x.2.1.length + L.length ∧ (rMv r key L x).2.2.length ≤ x.2.2.length + L.length
  | [], x => by simp [rMv]
  | c :: L, x => by
    show (rMv r key L (rMv1 r key x c)).1.length ≤ _ ∧ (rMv r key L (rMv1 r key x c)).2.1.length ≤ _ ∧ (rMv r key L (rMv1 r key x c)).2.2.length ≤ _
    have h1 := rMv_le r key L (rMv1 r key x c)
    have h2 := addT_le x.2.1 c.1
    have h3 : (rMv1 r key x c).1.length ≤ x.1.length + 1 ∧ (rMv1 r key x c).2.1.length ≤ x.2.1.length + 1 ∧ (rMv1 r key x c).2.2.length ≤ x.2.2.length + 1 := by
      unfold rMv1
      split
      · simp
      split <;> simp <;> omega
    simp only [List.length_cons]
    omega
theorem rDoomL_snoc (r : Rec) (key : List UInt8) (L : List Claim) (c : Claim) (D : List TagM) : rDoomL r key (L ++ [c]) D = if c.2.key = key ∧ clLook r c ≠ 0 then addT (rDoomL r key L D) c.1 else rDoomL r key L D := by
  unfold rDoomL
  rw [List.foldl_append]; rfl
theorem rMv_snoc (r : Rec) (key : List UInt8) (L : List Claim) (c : Claim) (x : List Claim × List TagM × List Claim) : rMv r key (L ++ [c]) x = rMv1 r key (rMv r key L x) c := by
  unfold rMv
  rw [List.foldl_append]; rfl
section
variable {B : World} {Γ Δ : List HProp} {k : K} {tag : TagM} {m n st : Nat} {x : RX} {S : Recs} {P : Pool}
theorem s_ldNAo {a : Addr} {off j : Nat} {cs us : List Value} {k : Array Value → K} (hn : ∀ w, Holds B Γ w → RdN w a cs.toArray) (hm : off + j ≤ cs.length) (h : HG B Γ (k us.toArray)) (hu : (cs.drop off).take j = us := by rfl) : HG B Γ (LdN (a.add off) j k) := fun w hw => by
  refine ⟨us.toArray, by rw [← hu]; simp; omega, fun i hi => ?_, h w hw⟩
  have hl : us.length = j := by rw [← hu, List.length_take, List.length_drop]; omega
  simp only [List.size_toArray] at hi
  have := hn w hw (off + i) (by simp only [List.size_toArray]; omega)
  rw [show (a.add off).add i = a.add (off + i) by cases a; by_cases h1 : off = 0 <;> by_cases h2 : i = 0 <;> simp [Addr.add, h1, h2, Nat.add_assoc]]
  rw [this]
  have e : cs[off + i]? = us[i]? := by rw [← hu, List.getElem?_take, if_pos (by omega), List.getElem?_drop]
  simpa using e
abbrev rec16L (r : Rec) (s : Sl) : List Value := [.bool r.has, s.val, .int .i64 r.home, .int .u64 r.cnt]
/-- The second walk. -/
theorem moved16_b4 {key : List UInt8} {r : Rec} {sl : Sl} {r6 t58 N : Nat} {D : List TagM} {Q : K} {X1 : Int → K} (hN : rsz ⟨x.line, x.park, D⟩ N) (hNl : N ≤ 400000)
    (h : HG B (Ref16 m ⟨(rMv r key x.park (x.line, D, [])).1, (rMv r key x.park (x.line, D, [])).2.2, (rMv r key x.park (x.line, D, [])).2.1⟩ :: blk r6 (.cells (rec16L r sl).toArray ty_api_Record (0, 0)) :: Γ) Q) :
    HG B (SlC ty_argosyref16_Claim 7 ⟨some ⟨t58, 0, none⟩, 0, 0⟩ [] :: Ref16 m ⟨x.line, x.park, D⟩ :: blk r6 (.cells (rec16L r sl).toArray ty_api_Record (0, 0)) :: Γ)
      (LoopK (α := Sl × Int) (fun X z => ref16_Locks_Moved.b4 Q X1 (fun left8_4 i9_4 => X (left8_4, i9_4)) ⟨m, 0, none⟩ (bs key) ⟨r6, 0, none⟩ z.1 z.2) ((Sl.mk (some ⟨t58, 0, none⟩) 0 0), 0)) := by
  obtain ⟨n1, n2, n3⟩ := hN
  simp only at n1 n2 n3
  refine s_loop (α := Sl × Int) (ι := Nat × (List Claim × List TagM × List Claim)) (fun z i => z.2 = (i.1 : Int) ∧ i.1 ≤ x.park.length ∧ i.2 = rMv r key (x.park.take i.1) (x.line, D, [])) (fun z i => SlC ty_argosyref16_Claim 7 z.1 (i.2.2.2.flatMap clF) :: Ref16 m ⟨i.2.1, x.park, i.2.2.1⟩ :: blk r6 (.cells (rec16L r sl).toArray ty_api_Record (0, 0)) :: Γ) (fun z i => x.park.length - i.1) (0, (x.line, D, [])) ⟨rfl, Nat.zero_le _, rfl⟩ ?_
  rintro k' ⟨o, _⟩ ⟨i, y⟩ ⟨rfl, hi, hy⟩ hk'
  simp only at hi hy hk' ⊢
  have hle := rMv_le r key (x.park.take i) (x.line, D, [])
  rw [← hy, List.length_take] at hle
  simp only [List.length_nil] at hle
  refine s_cap o fun b1 b2 b3 b4 => ?_
  rw [flatMap_len _ 7 clF_len] at b1
  refine s_own m ?_
  refine s_ref16 fun ls ps ds => ?_
  refine s_cap ps fun a1 a2 a3 a4 => ?_
  rw [flatMap_len _ 7 clF_len] at a1
  simp only at a1
  refine s_cap ls fun c1 c2 c3 c4 => ?_
  rw [flatMap_len _ 7 clF_len] at c1
  simp only at c1
  unfold ref16_Locks_Moved.b4
  refine s_ld (b := m) (x := ps) ?_
  refine s_ite (fun hb => ?_) fun hb => ?_
  rotate_left
  · have hil : i = x.park.length := by simp only [decide_eq_false_iff_not] at hb; omega
    rw [hil, List.take_length] at hy
    refine s_st (b := m) (l' := [ls.val, o.val, ds.val]) ?_
    rw [← hy] at h
    refine s_end (Δ := r16L m ls o ds ⟨y.1, y.2.2, y.2.1⟩ (blk r6 (.cells (rec16L r sl).toArray ty_api_Record (0, 0)) :: Γ)) ?_
    exact s_mkRef16 h
  have hil : i < x.park.length := by simp only [decide_eq_true_eq] at hb; omega
  have htk := List.take_succ_eq_append_getElem hil
  have hge : x.park[i]? = some x.park[i] := List.getElem?_eq_getElem hil
  generalize x.park[i] = c at htk hge
  have hstep : rMv r key (x.park.take (i + 1)) (x.line, D, []) = rMv1 r key y c := by rw [htk, rMv_snoc, ← hy]
  have S5 : ∀ (o2 ls2 ds2 : Sl) (y2 : List Claim × List TagM × List Claim) (c10 : Nat), rMv1 r key y c = y2 → HG B (SlC ty_argosyref16_Claim 7 o2 (y2.2.2.flatMap clF) :: Ref16 m ⟨y2.1, x.park, y2.2.1⟩ :: blk r6 (.cells (rec16L r sl).toArray ty_api_Record (0, 0)) :: Γ) (ref16_Locks_Moved.s5 Q X1 (fun left8_4 i9_4 => k' (left8_4, i9_4)) ⟨m, 0, none⟩ (bs key) ⟨r6, 0, none⟩ o2 (i : Int)) := fun o2 ls2 ds2 y2 c10 hy2 => by
    unfold ref16_Locks_Moved.s5
    refine s_ai ?_
    exact hk' (o2, (i : Int) + 1) (i + 1, y2) ⟨by simp, hil, by rw [hstep, hy2]⟩ (by simp only; omega)
  refine s_ld (b := m) (x := ps) ?_
  refine s_idxN clF clF_len (fun w hw => (own_rd (s := ps) hw).1) hge ?_
  refine s_new fun c10 => ?_
  refine s_stN (b := c10) (l' := clF c) ?_
  refine s_ldN (b := r6) (l' := rec16L r sl) ?_
  refine s_ldN (b := c10) (l' := markF c.2) ?_
  refine look16_hg (r := r) (mk := c.2) ?_
  refine s_ld (b := c10) (x := bs c.2.key) ?_
  have hlk : lookS r.cnt c.2.cnt r.home c.2.home = clLook r c := rfl
  rw [hlk]
  have left : (c.2.key ≠ key ∨ clLook r c = 1) → HG B (blk c10 (.cells (clF c).toArray ty_argosyref16_Claim (0, 0)) :: SlC ty_argosyref16_Claim 7 o (y.2.2.flatMap clF) :: r16L m ls ps ds ⟨y.1, x.park, y.2.1⟩ (blk r6 (.cells (rec16L r sl).toArray ty_api_Record (0, 0)) :: Γ)) (ref16_Locks_Moved.s6 Q X1 (fun left8_4 i9_4 => k' (left8_4, i9_4)) ⟨m, 0, none⟩ (bs key) ⟨r6, 0, none⟩ o (i : Int) ⟨c10, 0, none⟩ (clLook r c) true) := fun hc => by
    unfold ref16_Locks_Moved.s6
    refine s_t ?_
    refine s_ldN (b := c10) (l' := clF c) ?_
    refine s_bld1 ?_
    refine s_app1 (s := o) (m := 1) (us := clF c) (fun o2 ho2 => ?_)
    have hfin := S5 o2 ls ds (y.1, y.2.1, y.2.2 ++ [c]) c10 (by unfold rMv1; rw [if_pos hc])
    simp only [List.flatMap_append, List.flatMap_cons, List.flatMap_nil, List.append_nil] at hfin
    refine s_end (Δ := r16L m ls ps ds ⟨y.1, x.park, y.2.1⟩ (SlC ty_argosyref16_Claim 7 o2 (y.2.2.flatMap clF ++ clF c) :: blk r6 (.cells (rec16L r sl).toArray ty_api_Record (0, 0)) :: Γ)) ?_
    refine s_mkRef16 ?_
    exact s_end hfin
  refine s_ite (fun hp => ?_) fun hp => ?_
  · have hkey : c.2.key ≠ key := by rw [bs_list, bs_list] at hp; simpa using hp
    exact s_end (left (.inl hkey))
  have hkey : c.2.key = key := by rw [bs_list, bs_list] at hp; simpa using hp
  by_cases h1 : clLook r c = 1
  · rw [show decide (clLook r c = 1) = true by simpa using h1]
    exact s_end (left (.inr h1))
  rw [show decide (clLook r c = 1) = false by simpa using h1]
  unfold ref16_Locks_Moved.s6
  refine s_f ?_
  have hno : ¬ (c.2.key ≠ key ∨ clLook r c = 1) := by simp [hkey, h1]
  by_cases h0 : clLook r c = 0
  · refine s_t ?_ (by simpa using h0)
    refine s_dr ?_
    refine s_wsP (fun w => w.cell? ⟨m, 0, none⟩ = some ls.val ∧ RdN w ⟨c10, 0, none⟩ (clF c).toArray) (fun w hw => ⟨cell_block (own_blkOf (b := m) hw) rfl, rd_at (b := c10) (l := clF c) (n := 7) hw⟩) ?_
    refine s_ldSP (x := ls) (fun w hS => hS.1) ?_
    refine s_ldNSP (l := clF c) (fun w hS => hS.2) ?_
    refine s_cpyA (z := clZ) (us := clF c) (vs := y.1.flatMap clF) (fun w hw => ⟨cell_block (own_blkOf (b := m) hw) rfl, rd_at (b := c10) (l := clF c) (n := 7) hw⟩) (fun w hw => (own_rd (s := ls) hw).1) (clF_fl _) (by omega) fun s' hs' => ?_
    refine s_st (b := m) (l' := [s'.val, ps.val, ds.val]) ?_
    have hfin := S5 o s' ds (y.1 ++ [c], y.2.1, y.2.2) c10 (by unfold rMv1; rw [if_neg hno, if_pos h0])
    rw [show y.1.flatMap clF ++ clF c = (y.1 ++ [c]).flatMap clF by simp [List.flatMap_append]]
    refine s_end (Δ := r16L m s' ps ds ⟨y.1 ++ [c], x.park, y.2.1⟩ (SlC ty_argosyref16_Claim 7 o (y.2.2.flatMap clF) :: blk r6 (.cells (rec16L r sl).toArray ty_api_Record (0, 0)) :: Γ)) ?_
    refine s_mkRef16 ?_
    exact s_end hfin
  · refine s_f ?_ (by simpa using h0)
    refine s_ldN (b := c10) (l' := tagF c.1) ?_
    refine s_end (Δ := r16L m ls ps ds ⟨y.1, x.park, y.2.1⟩ (SlC ty_argosyref16_Claim 7 o (y.2.2.flatMap clF) :: blk r6 (.cells (rec16L r sl).toArray ty_api_Record (0, 0)) :: Γ)) ?_
    refine s_mkRef16 ?_
    refine doom16_hg (by simp only; omega) ?_
    have hfin := S5 o ls ds (y.1, addT y.2.1 c.1, y.2.2) c10 (by unfold rMv1; rw [if_neg hno, if_neg h0])
    exact s_end hfin
theorem moved16_hg {key : List UInt8} {N : Nat} {Q : K} (hk : key.length < 1000000000) (hS : S.length < 100000000) (hN : rsz x N) (hNl : N ≤ 100000) (h : HG B (Ref16 m (rMoved n S key x) :: Ref6 st n S P :: Γ) Q) :
    HG B (Ref16 m x :: Ref6 st n S P :: Γ) (ref16_Locks_Moved.call (some ⟨m, 0, none⟩) (some ⟨st, 0, none⟩) (bs key) Q) := by
  refine fun w hw => ref16_Locks_Moved_ok _ _ _ _ _ ?_
  refine hg hw ?_
  clear hw w
  obtain ⟨n1, n2, n3⟩ := hN
  unfold ref16_Locks_Moved
  refine s_own st ?_
  refine get6_hg (by show key.length < _; omega) hS fun sl hok _ => ?_
  have hmv : rMoved n S key x = ⟨(rMv (sGet n S (bs key)) key x.park (x.line, rDoomL (sGet n S (bs key)) key x.line x.doom, [])).1, (rMv (sGet n S (bs key)) key x.park (x.line, rDoomL (sGet n S (bs key)) key x.line x.doom, [])).2.2, (rMv (sGet n S (bs key)) key x.park (x.line, rDoomL (sGet n S (bs key)) key x.line x.doom, [])).2.1⟩ := rfl
  rw [hmv] at h
  generalize sGet n S (bs key) = r at h
  refine s_new fun r6 => ?_
  refine s_stN (b := r6) (l' := rec16L r sl) ?_
  refine s_end (Δ := Ref16 m ⟨x.line, x.park, x.doom⟩ :: Ref6 st n S P :: blk r6 (.cells (rec16L r sl).toArray ty_api_Record (0, 0)) :: Γ) ?_
  refine s_loop (α := Int) (ι := Nat × List TagM) (fun z i => z = (i.1 : Int) ∧ i.1 ≤ x.line.length ∧ i.2 = rDoomL r key (x.line.take i.1) x.doom) (fun z i => Ref16 m ⟨x.line, x.park, i.2⟩ :: Ref6 st n S P :: blk r6 (.cells (rec16L r sl).toArray ty_api_Record (0, 0)) :: Γ) (fun z i => x.line.length - i.1) (0, x.doom) ⟨rfl, Nat.zero_le _, rfl⟩ ?_
  rintro k' _ ⟨i, D⟩ ⟨rfl, hi, hD⟩ hk'
  simp only at hi hD hk' ⊢
  have hDl := rDoomL_le r key (x.line.take i) x.doom
  rw [← hD, List.length_take] at hDl
  refine s_ref16 fun ls ps ds => ?_
  refine s_cap ls fun a1 a2 a3 a4 => ?_
  rw [flatMap_len _ 7 clF_len] at a1
  simp only at a1
  unfold ref16_Locks_Moved.b1
  refine s_nn ?_
  refine s_ld (b := m) (x := ls) ?_
  refine s_ite (fun hb => ?_) fun hb => ?_
  rotate_left
  · have hil : i = x.line.length := by simp only [decide_eq_false_iff_not] at hb; omega
    rw [hil, List.take_length] at hD
    refine s_new fun t58 => ?_
    refine s_slc0 (esz := 7) ?_
    refine s_end (Δ := r16L m ls ps ds ⟨x.line, x.park, D⟩ (SlC ty_argosyref16_Claim 7 ⟨some ⟨t58, 0, none⟩, 0, 0⟩ [] :: blk r6 (.cells (rec16L r sl).toArray ty_api_Record (0, 0)) :: Ref6 st n S P :: Γ)) ?_
    refine s_mkRef16 ?_
    rw [← hD] at h
    have hfin := moved16_b4 (B := B) (Γ := Ref6 st n S P :: Γ) (m := m) (x := x) (key := key) (r := r) (sl := sl) (r6 := r6) (t58 := t58) (N := 300000) (D := D) (Q := Q) (X1 := k') ⟨by simp only; omega, by simp only; omega, by simp only; omega⟩ (by omega) (s_end h)
    exact s_end hfin
  have hil : i < x.line.length := by simp only [decide_eq_true_eq] at hb; omega
  have htk := List.take_succ_eq_append_getElem hil
  have hge : x.line[i]? = some x.line[i] := List.getElem?_eq_getElem hil
  generalize x.line[i] = c at htk hge
  have hstep : rDoomL r key (x.line.take (i + 1)) x.doom = if c.2.key = key ∧ clLook r c ≠ 0 then addT D c.1 else D := by rw [htk, rDoomL_snoc, ← hD]
  have S2 : ∀ D2, rDoomL r key (x.line.take (i + 1)) x.doom = D2 → HG B (Ref16 m ⟨x.line, x.park, D2⟩ :: Ref6 st n S P :: blk r6 (.cells (rec16L r sl).toArray ty_api_Record (0, 0)) :: Γ) (ref16_Locks_Moved.s2 Q k' ⟨m, 0, none⟩ (bs key) ⟨r6, 0, none⟩ (i : Int)) := fun D2 h2 => by
    unfold ref16_Locks_Moved.s2
    refine s_ai ?_
    exact hk' ((i : Int) + 1) (i + 1, D2) ⟨by simp, hil, h2.symm⟩ (by simp only; omega)
  have no : ¬ (c.2.key = key ∧ clLook r c ≠ 0) → HG B (r16L m ls ps ds ⟨x.line, x.park, D⟩ (Ref6 st n S P :: blk r6 (.cells (rec16L r sl).toArray ty_api_Record (0, 0)) :: Γ)) (ref16_Locks_Moved.s3 Q k' ⟨m, 0, none⟩ (bs key) ⟨r6, 0, none⟩ (i : Int) false) := fun hn => by
    unfold ref16_Locks_Moved.s3
    refine s_f ?_
    exact s_mkRef16 (S2 D (by rw [hstep, if_neg hn]))
  refine s_dr ?_
  refine s_ld (b := m) (x := ls) ?_
  refine s_idxFA clF clF_len (by omega) (fun w hw => (own_rd (s := ls) hw).1) hge fun t29 ht29 => ?_
  refine s_ldAi (cs := clF c) (i := 4) (x := bs c.2.key) (fun w hw => ht29 w (own_rd (s := ls) hw).1) rfl ?_
  refine s_ite (fun hp => ?_) fun hp => ?_
  rotate_left
  · have hkey : c.2.key ≠ key := by rw [bs_list, bs_list] at hp; simpa using hp
    exact s_end (no fun h => hkey h.1)
  have hkey : c.2.key = key := by rw [bs_list, bs_list] at hp; simpa using hp
  refine s_ldN (b := r6) (l' := rec16L r sl) ?_
  refine s_ld (b := m) (x := ls) ?_
  refine s_idxFA clF clF_len (by omega) (fun w hw => (own_rd (s := ls) hw).1) hge fun t42 ht42 => ?_
  refine s_ldNAo (cs := clF c) (us := markF c.2) (fun w hw => ht42 w (own_rd (s := ls) hw).1) (by rw [clF_len]; omega) ?_
  refine look16_hg (r := r) (mk := c.2) ?_
  have hlk : lookS r.cnt c.2.cnt r.home c.2.home = clLook r c := rfl
  rw [hlk]
  by_cases h0 : clLook r c = 0
  · rw [show decide (clLook r c ≠ 0) = false by simpa using h0]
    exact s_end (no fun h => h.2 h0)
  rw [show decide (clLook r c ≠ 0) = true by simpa using h0]
  unfold ref16_Locks_Moved.s3
  refine s_t ?_
  refine s_ld (b := m) (x := ls) ?_
  refine s_idxFA clF clF_len (by omega) (fun w hw => (own_rd (s := ls) hw).1) hge fun t54 ht54 => ?_
  refine s_ldNA16 (cs := clF c) (us := tagF c.1) (fun w hw => ht54 w (own_rd (s := ls) hw).1) (by rw [clF_len]; omega) ?_
  refine s_end (Δ := r16L m ls ps ds ⟨x.line, x.park, D⟩ (Ref6 st n S P :: blk r6 (.cells (rec16L r sl).toArray ty_api_Record (0, 0)) :: Γ)) ?_
  refine s_mkRef16 ?_
  refine doom16_hg (by simp only; omega) ?_
  exact s_end (S2 (addT D c.1) (by rw [hstep, if_pos ⟨hkey, h0⟩]))
end
end Go.Proofs.YtihncgfghpbhdaaGreat
/- Plain forms of functions, and that their code comes to them (package law16). -/
namespace Go.Proofs.YtihncgfghpbhdaaGreat
open Go Go.Sep
set_option linter.unusedVariables false
set_option linter.unusedSimpArgs false
set_option maxRecDepth 100000
set_option maxHeartbeats 4000000
attribute [local irreducible] G Gp Cx Tx Ex Sx Dx Ox Ax Lx Rx Fx Bx Bj Al Do Ld LdN St StN New CallF Ar DoU Rd Rd2 Pu Cd Ite Fv CallV CallY Ans0 Ans1 Ans2 Ans3 Ans4 Ans5 Ext Dead Dr WithS Sv LdS LdNS RdS Rd2S Nn Idx IdxA IdxS Fld Bld Slc SlcS Cat All LoopK RangeF RangeJ TakeD
namespace F_IRLaw16
instance at_42 : AT Tryz.prog 42 4 := ⟨by kernel_rfl⟩
instance at_45 : AT Tryz.prog 45 8 := ⟨by kernel_rfl⟩
instance at_59 : AT Tryz.prog 59 3 := ⟨by kernel_rfl⟩
instance cb_13 : CB Tryz.prog 13 := ⟨by kernel_rfl⟩
instance cb_14 : CB Tryz.prog 14 := ⟨by kernel_rfl⟩
instance cb_16 : CB Tryz.prog 16 := ⟨by kernel_rfl⟩
instance cb_23 : CB Tryz.prog 23 := ⟨by kernel_rfl⟩
instance cb_24 : CB Tryz.prog 24 := ⟨by kernel_rfl⟩
instance cb_25 : CB Tryz.prog 25 := ⟨by kernel_rfl⟩
instance cb_27 : CB Tryz.prog 27 := ⟨by kernel_rfl⟩
instance cb_28 : CB Tryz.prog 28 := ⟨by kernel_rfl⟩
instance cb_29 : CB Tryz.prog 29 := ⟨by kernel_rfl⟩
instance cb_30 : CB Tryz.prog 30 := ⟨by kernel_rfl⟩
instance cb_31 : CB Tryz.prog 31 := ⟨by kernel_rfl⟩
instance cb_32 : CB Tryz.prog 32 := ⟨by kernel_rfl⟩
instance cb_6 : CB Tryz.prog 6 := ⟨by kernel_rfl⟩
instance cb_7 : CB Tryz.prog 7 := ⟨by kernel_rfl⟩
instance ct_3 : CT Tryz.prog 3 := ⟨by kernel_rfl⟩
instance ct_43 : CT Tryz.prog 43 := ⟨by kernel_rfl⟩
instance ct_9 : CT Tryz.prog 9 := ⟨by kernel_rfl⟩
instance ft_45_0 : FT Tryz.prog 45 0 0 1 := ⟨by kernel_rfl⟩
instance ft_45_1 : FT Tryz.prog 45 1 1 1 := ⟨by kernel_rfl⟩
instance ft_45_2 : FT Tryz.prog 45 2 2 4 := ⟨by kernel_rfl⟩
instance ft_45_3 : FT Tryz.prog 45 3 6 1 := ⟨by kernel_rfl⟩
instance ft_45_4 : FT Tryz.prog 45 4 7 1 := ⟨by kernel_rfl⟩
instance ft_59_0 : FT Tryz.prog 59 0 0 1 := ⟨by kernel_rfl⟩
instance mx : MX Tryz.prog := ⟨mixed⟩
instance pl_40 : PLT Tryz.prog 40 [(0, 1), (1, 1), (2, 1)] := ⟨_, Tryz.underlying40, by kernel_rfl⟩
instance pl_42 : PLT Tryz.prog 42 [(0, 3), (3, 1)] := ⟨_, Tryz.underlying42, by kernel_rfl⟩
instance pl_59 : PLT Tryz.prog 59 [(0, 1), (1, 1), (2, 1)] := ⟨_, Tryz.underlying59, by kernel_rfl⟩
instance sl_22 : SLT Tryz.prog 22 45 8 := ⟨by kernel_rfl⟩
instance sl_35 : SLT Tryz.prog 35 42 4 := ⟨by kernel_rfl⟩
instance sl_43 : SLT Tryz.prog 43 59 3 := ⟨by kernel_rfl⟩
instance st_9 : STT Tryz.prog 9 := ⟨by kernel_rfl⟩
instance sz_42 : SZ Tryz.prog 42 4 := ⟨by kernel_rfl⟩
instance sz_45 : SZ Tryz.prog 45 8 := ⟨by kernel_rfl⟩
instance sz_59 : SZ Tryz.prog 59 3 := ⟨by kernel_rfl⟩
instance un_25 : UN Tryz.prog 25 (.pointer 67) := ⟨Tryz.underlying25⟩
instance un_29 : UN Tryz.prog 29 (.pointer 71) := ⟨Tryz.underlying29⟩
instance zt_40 : ZT Tryz.prog 40 (.agg #[(.int .i64 0), (.int .u64 0), (.int .u64 0)]) := ⟨Tryz.t40, by kernel_rfl, by kernel_rfl⟩
instance zt_42 : ZT Tryz.prog 42 (.agg #[(.int .i64 0), (.int .u64 0), (.int .u64 0), (.int .i64 0)]) := ⟨Tryz.t42, by kernel_rfl, by kernel_rfl⟩
instance zt_45 : ZT Tryz.prog 45 (.agg #[(.int .i64 0), (.int .i64 0), (.int .i64 0), (.int .u64 0), (.int .u64 0), (.int .i64 0), (.string ⟨#[]⟩), (Sl.val ⟨none, 0, 0⟩)]) := ⟨Tryz.t45, by kernel_rfl, by kernel_rfl⟩
instance zt_59 : ZT Tryz.prog 59 (.agg #[(.string ⟨#[]⟩), (.int .i64 0), (.int .u64 0)]) := ⟨Tryz.t59, by kernel_rfl, by kernel_rfl⟩
end F_IRLaw16
def law16_speaks.s2 (Q : Bool → K)  (t0_2 : Bool) : K :=
  Q t0_2
def law16_speaks.s1 (Q : Bool → K)  (s1_1 : (Option Addr)) (l3_1 : (Option Addr)) (t17_1 : Bool) : K :=
  Ite t17_1
    (Q false)
    (law16_tag.call 1 fun t20 =>
    Bld #[(.string ⟨#[]⟩), (.int .i64 0), (.int .u64 0)] (fun i => some (i * 3, 3)) [(0, (.agg #[(.string ⟨#[97]⟩), (.int .i64 0), (.int .u64 0)]))] fun ct22 =>
    New 59 ct22 fun t22 =>
    locks_Locks_Enter.call l3_1 s1_1 t20 (Sl.mk (some t22) 1 1) <|
    law16_tag.call 2 fun t26 =>
    Bld #[(.string ⟨#[]⟩), (.int .i64 0), (.int .u64 0), (.string ⟨#[]⟩), (.int .i64 0), (.int .u64 0)] (fun i => some (i * 3, 3)) [(0, (.agg #[(.string ⟨#[97]⟩), (.int .i64 0), (.int .u64 0)])), (1, (.agg #[(.string ⟨#[98]⟩), (.int .i64 0), (.int .u64 0)]))] fun ct29 =>
    New 59 ct29 fun t29 =>
    locks_Locks_Enter.call l3_1 s1_1 t26 (Sl.mk (some t29) 2 2) <|
    law16_tag.call 1 fun t32 =>
    locks_Locks_Ready.call l3_1 t32 fun t33 =>
    law16_tag.call 2 fun t35 =>
    locks_Locks_Ready.call l3_1 t35 fun t36 =>
    law16_tag.call 2 fun t38 =>
    locks_Locks_Ahead.call l3_1 t38 fun t39 =>
    law16_tag.call 1 fun t41 =>
    locks_Locks_Leave.call l3_1 t41 <|
    Ite t33
      (Ite (!t36)
        (law16_tag.call 1 fun t50 =>
        Bld #[(.int .i64 0), (.int .u64 0), (.int .u64 0), (.int .i64 0)] (fun i => some (i * 4, 4)) [(0, (.agg t50))] fun ct51 =>
        New 42 ct51 fun t51 =>
        ref16_Same.call t39 (Sl.mk (some t51) 1 1) fun t52 =>
        Ite t52
          (law16_tag.call 2 fun t56 =>
          locks_Locks_Ready.call l3_1 t56 fun t57 =>
          law16_speaks.s2 Q t57)
          (law16_speaks.s2 Q false))
        (law16_speaks.s2 Q false))
      (law16_speaks.s2 Q false))
def law16_speaks  (Q : Bool → K) : K :=
  store_New.call 1 fun t8x0 t8x1 =>
  locks_New.call  fun t11 =>
  Ite ((t8x0).isNone)
    (law16_speaks.s1 Q t8x0 t11 true)
    (law16_speaks.s1 Q t8x0 t11 ((t11).isNone))
theorem law16_speaks_ok  (Q : Bool → K) (w : World) (h : law16_speaks  Q w) : law16_speaks.call  Q w := by
  have hJ1000009 : JH 1000009 fun D => D [] (fun C => ∀ (t0_2 : Bool), C [(0, (.bool t0_2))] (law16_speaks.s2 Q t0_2)) := by intros; exact ⟨fun _ h => ⟨_, _, h⟩⟩
  have hJ4 : JH 4 fun D => ∃ (s1_1 : (Option Addr)) (l3_1 : (Option Addr)), D [(1, (.pointer s1_1)), (3, (.pointer l3_1))] (fun C => ∀ (t17_1 : Bool), C [(1, (.pointer s1_1)), (3, (.pointer l3_1)), (17, (.bool t17_1))] (law16_speaks.s1 Q s1_1 l3_1 t17_1)) := by intros; exact ⟨fun _ ⟨_, _, h⟩ => ⟨_, _, h⟩⟩
  exact g_walk 59 h Tryz.func4
def law16_great.b3 (Q : Bool → K) (X1 : Int → K) (X3 : Int → K) (t10_3 : Sl) (t11_3 : Int) (t12_3 : Int) (t27_3 : Sl) (t28_3 : Int) (t29_3 : Int) : K :=
  Ite (decide (t29_3 < t28_3))
    (Idx t27_3 t29_3 3 fun t31 =>
    LdN t31 3 fun t32 =>
    New 59 #[(.string ⟨#[]⟩), (.int .i64 0), (.int .u64 0)] fun m6 =>
    StN m6 3 t32 <|
    Ld m6 Value.string fun t34 =>
    Ite (decide ((100 : Int) < (t34.size : Int)))
      (Q true)
      (Ar (IntKind.wrap .i64 (t29_3 + 1)) fun t37 =>
      X3 t37))
    (Ar (IntKind.wrap .i64 (t12_3 + 1)) fun t38 =>
    X1 t38)
def law16_great.s2 (Q : Bool → K) (X1 : Int → K) (o4_2 : Addr) (t10_2 : Sl) (t11_2 : Int) (t12_2 : Int) (t25_2 : Bool) : K :=
  Ite t25_2
    (Q true)
    (Ld (o4_2.add 7) Sl.val fun t27 =>
    LoopK (α := Int) (fun X x => law16_great.b3 Q X1 X t10_2 t11_2 t12_2 t27 (t27.n : Int) x) 0)
def law16_great.b1 (Q : Bool → K)  (X1 : Int → K) (t10_1 : Sl) (t11_1 : Int) (t12_1 : Int) : K :=
  Ite (decide (t12_1 < t11_1))
    (Idx t10_1 t12_1 8 fun t14 =>
    LdN t14 8 fun t15 =>
    New 45 #[(.int .i64 0), (.int .i64 0), (.int .i64 0), (.int .u64 0), (.int .u64 0), (.int .i64 0), (.string ⟨#[]⟩), (Sl.val ⟨none, 0, 0⟩)] fun o4 =>
    StN o4 8 t15 <|
    Ld (o4.add 7) Sl.val fun t17 =>
    Ite (decide ((20 : Int) < (t17.n : Int)))
      (law16_great.s2 Q X1 o4 t10_1 t11_1 t12_1 true)
      (Ld (o4.add 6) Value.string fun t22 =>
      law16_great.s2 Q X1 o4 t10_1 t11_1 t12_1 (decide ((100 : Int) < (t22.size : Int)))))
    (Q false)
def law16_great (script0 : Sl) (Q : Bool → K) : K :=
  Ite (decide ((60 : Int) < (script0.n : Int)))
    (Q true)
    (LoopK (α := Int) (fun X x => law16_great.b1 Q X script0 (script0.n : Int) x) 0)
theorem law16_great_ok (script0 : Sl) (Q : Bool → K) (w : World) (h : law16_great script0 Q w) : law16_great.call script0 Q w := by
  have hL9 : ∀ (X1 : Int → K), XH 4 X1 → ∀ (t10_3 : Sl) (t11_3 : Int) (t12_3 : Int) (t27_3 : Sl) (t28_3 : Int), LH 9 (fun x : Int => [(10, (Sl.val t10_3)), (11, (.int .i64 t11_3)), (12, (.int .i64 t12_3)), (27, (Sl.val t27_3)), (28, (.int .i64 t28_3)), (29, (.int .i64 x))]) (fun X x => law16_great.b3 Q X1 X t10_3 t11_3 t12_3 t27_3 t28_3 x) := by intros; exact ⟨⟩
  have hJ7 : ∀ (X1 : Int → K), XH 4 X1 → JH 7 fun D => ∃ (o4_2 : Addr) (t10_2 : Sl) (t11_2 : Int) (t12_2 : Int), D [(4, (.pointer (some o4_2))), (10, (Sl.val t10_2)), (11, (.int .i64 t11_2)), (12, (.int .i64 t12_2))] (fun C => ∀ (t25_2 : Bool), C [(4, (.pointer (some o4_2))), (10, (Sl.val t10_2)), (11, (.int .i64 t11_2)), (12, (.int .i64 t12_2)), (25, (.bool t25_2))] (law16_great.s2 Q X1 o4_2 t10_2 t11_2 t12_2 t25_2)) := by intros; exact ⟨fun _ ⟨_, _, _, _, h⟩ => ⟨_, _, h⟩⟩
  have hL4 : ∀ (t10_1 : Sl) (t11_1 : Int), LH 4 (fun x : Int => [(10, (Sl.val t10_1)), (11, (.int .i64 t11_1)), (12, (.int .i64 x))]) (fun X x => law16_great.b1 Q X t10_1 t11_1 x) := by intros; exact ⟨⟩
  exact g_walk 39 h Tryz.func5
def law16_step.b1 (Q : K)  (X1 : Int → K) (in10_1 : Sl) (t33_1 : Int) (t34_1 : Int) : K :=
  Ite (decide (t34_1 < t33_1))
    (Idx in10_1 t34_1 3 fun t40 =>
    StN t40 3 #[(.string ⟨#[]⟩), (.int .i64 0), (.int .u64 0)] <|
    Ar (IntKind.wrap .i64 (t34_1 + 1)) fun t41 =>
    X1 t41)
    (Q)
def law16_step (s0 : (Option Addr)) (l1 : (Option Addr)) (t2 : (Option Addr)) (m3 : (Option Addr)) (o4 : (Array Value)) (Q : K) : K :=
  New 45 o4 fun o9 =>
  Ld o9 (Value.int .i64) fun t13 =>
  Ar (bitsOf .and .i64 t13 3) fun t14 =>
  Ite (decide (t14 = 0))
    (LdN (o9.add 2) 4 fun t46 =>
    locks_Locks_Leave.call l1 t46 <|
    LdN (o9.add 2) 4 fun t50 =>
    ref16_Locks_Leave.call m3 t50 <|
    Q)
    (Ite (decide (t14 = 1))
      (Ld (o9.add 6) Value.string fun t56 =>
      Ld (o9.add 1) (Value.int .i64) fun t58 =>
      store_Store_Move.call s0 t56 t58 fun t59 =>
      Ld (o9.add 6) Value.string fun t62 =>
      Ld (o9.add 1) (Value.int .i64) fun t64 =>
      ref06_Store_Move.call t2 t62 t64 fun t65 =>
      Ld (o9.add 6) Value.string fun t69 =>
      locks_Locks_Moved.call l1 s0 t69 <|
      Ld (o9.add 6) Value.string fun t74 =>
      ref16_Locks_Moved.call m3 t2 t74 <|
      Q)
      (New 59 #[] fun t15 =>
      Ld (o9.add 7) Sl.val fun t17 =>
      Do Tryz.prog (Builtin.append_ #[43, 43] 43 #[(Sl.val (Sl.mk (some t15) 0 0)), (Sl.val t17)]) Sl.val fun t18 =>
      LdN (o9.add 2) 4 fun t22 =>
      locks_Locks_Enter.call l1 s0 t22 t18 <|
      LdN (o9.add 2) 4 fun t28 =>
      Ld (o9.add 7) Sl.val fun t30 =>
      ref16_Locks_Enter.call m3 t2 t28 t30 <|
      LoopK (α := Int) (fun X x => law16_step.b1 Q X t18 (t18.n : Int) x) 0))
theorem law16_step_ok (s0 : (Option Addr)) (l1 : (Option Addr)) (t2 : (Option Addr)) (m3 : (Option Addr)) (o4 : (Array Value)) (Q : K) (w : World) (h : law16_step s0 l1 t2 m3 o4 Q w) : law16_step.call s0 l1 t2 m3 o4 Q w := by
  have hL6 : ∀ (in10_1 : Sl) (t33_1 : Int), LH 6 (fun x : Int => [(10, (Sl.val in10_1)), (33, (.int .i64 t33_1)), (34, (.int .i64 x))]) (fun X x => law16_step.b1 Q X in10_1 t33_1 x) := by intros; exact ⟨⟩
  exact g_walk 76 h Tryz.func9
def law16_tag (n0 : Int) (Q : (Array Value) → K) : K :=
  New 42 #[(.int .i64 0), (.int .u64 0), (.int .u64 0), (.int .i64 0)] fun t2 =>
  Bld #[(.int .i64 0), (.int .u64 0), (.int .u64 0), (.int .i64 0)] ([(0, 3), (3, 1)][·]?) [(0, (.agg #[(.int .i64 0), (.int .u64 0), (.int .u64 n0)]))] fun t5 =>
  StN t2 4 t5 <|
  LdN t2 4 fun r0 =>
  Q r0
theorem law16_tag_ok (n0 : Int) (Q : (Array Value) → K) (w : World) (h : law16_tag n0 Q w) : law16_tag.call n0 Q w := by
  exact g_walk 6 h Tryz.func24
end Go.Proofs.YtihncgfghpbhdaaGreat
/- The example of the law's chapter on locks. -/
namespace Go.Proofs.YtihncgfghpbhdaaGreat
open Go Go.Sep Go.Sep.Bt
set_option linter.unusedSimpArgs false
set_option linter.unusedVariables false
set_option maxRecDepth 100000

abbrev tg (n : Int) : TagM := ⟨0, 0, n, 0⟩
section
variable {B : World} {Γ Δ : List HProp}
theorem tag16_hg {n : Int} {Q : Array Value → K} (h : HG B Γ (Q (tagF (tg n)).toArray)) : HG B Γ (law16_tag.call n Q) := by
  refine fun w hw => law16_tag_ok _ _ _ ?_
  refine hg hw ?_
  clear hw w
  unfold law16_tag
  refine s_new fun t2 => ?_
  repeat refine s_nx ?_
  exact s_end h
theorem same16_hg {s1 s2 : Sl} {L1 L2 : List TagM} {Q : Bool → K} (hl : L1.length < 1000000000) (h1 : ∀ w, Holds B Γ w → RdC w s1 4 (L1.flatMap tagF)) (h2 : ∀ w, Holds B Γ w → RdC w s2 4 (L2.flatMap tagF)) (h : HG B Γ (Q (decide (L1 = L2)))) : HG B Γ (ref16_Same.call s1 s2 Q) := fun w hw => by
  refine ref16_Same_ok _ _ _ _ ?_
  have l1 : s1.n = L1.length := rd_len tagF_len (by omega) (h1 w hw)
  have l2 : s2.n = L2.length := rd_len tagF_len (by omega) (h2 w hw)
  refine hg hw ?_
  clear hw w
  unfold ref16_Same
  refine s_ite (fun hb => ?_) fun hb => ?_
  · have hne : L1.length ≠ L2.length := by simp only [decide_eq_true_eq] at hb; omega
    rw [show decide (L1 = L2) = false by simpa using fun e => hne (by rw [e])] at h
    exact h
  have hll : L1.length = L2.length := by simp only [decide_eq_false_iff_not] at hb; omega
  refine s_loopC (α := Int) (fun x => ∃ i : Nat, x = (i : Int) ∧ i ≤ L1.length ∧ L1.take i = L2.take i) (fun x => L1.length - x.toNat) ⟨0, rfl, Nat.zero_le _, by simp⟩ fun k' x hx hk' => ?_
  obtain ⟨i, rfl, hi, he⟩ := hx
  unfold ref16_Same.b1
  refine s_ite (fun hb => ?_) fun hb => ?_
  · have hil : i < L1.length := by simp only [decide_eq_true_eq] at hb; omega
    have hil2 : i < L2.length := by omega
    have t1 := List.take_succ_eq_append_getElem hil
    have t2 := List.take_succ_eq_append_getElem hil2
    have g1 : L1[i]? = some L1[i] := List.getElem?_eq_getElem hil
    have g2 : L2[i]? = some L2[i] := List.getElem?_eq_getElem hil2
    generalize L1[i] = x at t1 g1
    generalize L2[i] = y at t2 g2
    repeat refine s_nx ?_
    refine s_idxN tagF tagF_len h1 g1 ?_
    refine s_idxN tagF tagF_len h2 g2 ?_
    refine s_neS (xs := tagF x) (ys := tagF y) (ks := tagK) (p := x = y) tagF_inj ?_
    refine s_ite (fun hp => ?_) fun hp => ?_
    · have hp' : x ≠ y := by simpa using hp
      rw [show decide (L1 = L2) = false by simp only [decide_eq_false_iff_not]; rintro rfl; rw [g1] at g2; exact hp' (Option.some.inj g2)] at h
      exact h
    · have hp' : x = y := by simpa using hp
      refine s_ai ?_
      exact hk' _ ⟨i + 1, by simp, hil, by rw [t1, t2, he, hp']⟩ (by omega)
  · have hil : i = L1.length := by simp only [decide_eq_false_iff_not] at hb; omega
    rw [hil, List.take_length, hll, List.take_length] at he
    rw [show decide (L1 = L2) = true by simpa using he] at h
    exact h
theorem sort2 : sortL [[97], [98]] = [[97], [98]] := List.mergeSort_of_pairwise (by simp; decide)
theorem speaks16 {q : Bool → K} (h : HG B Γ (q true)) : HG B Γ (law16_speaks.call q) := by
  refine fun w hw => law16_speaks_ok _ _ ?_
  refine hg hw ?_
  clear hw w
  unfold law16_speaks
  refine storeNew_spec (n := 1) (by omega) (by omega) fun st => ?_
  refine locksNew_hg fun l => ?_
  repeat refine s_nx ?_
  unfold law16_speaks.s1
  repeat refine s_nx ?_
  refine tag16_hg ?_
  repeat refine s_nx ?_
  refine s_new fun t22 => ?_
  refine s_own st ?_
  refine s_own l ?_
  refine enter_hg (L := [⟨[97], 0, 0⟩]) (N := 0) (fun w hw => by have := blk_rd (t := t22) (cs := markF ⟨[97], 0, 0⟩) (k := 1) rfl w hw; simpa using this) (by simp) ⟨by simp, by simp⟩ (by simp) ?_
  refine tag16_hg ?_
  refine s_bldF (cs := [(⟨[97], 0, 0⟩ : MarkM), ⟨[98], 0, 0⟩].flatMap markF) ?_
  refine s_new fun t29 => ?_
  refine s_own st ?_
  refine s_own l ?_
  refine enter_hg (L := [⟨[97], 0, 0⟩, ⟨[98], 0, 0⟩]) (N := 1) (fun w hw => RdC.of_blk (E := ty_api_Mark) (b := t29) (n := 2) (vs := [(⟨[97], 0, 0⟩ : MarkM), ⟨[98], 0, 0⟩].flatMap markF) (cs := ([(⟨[97], 0, 0⟩ : MarkM), ⟨[98], 0, 0⟩].flatMap markF).toArray) hw (by simp) (by simp) rfl 2) (by simp) (gsz_enter (x := ([], fun _ => false)) (N := 0) ⟨by simp, by simp⟩) (by simp) ?_
  generalize hM : (enterM 1 [] (tg 2) [⟨[97], 0, 0⟩, ⟨[98], 0, 0⟩] (enterM 1 [] (tg 1) [⟨[97], 0, 0⟩] ([], fun _ => false))) = x
  have hM1 : x.1 = [([97], ([(tg 1, ⟨[97], 0, 0⟩), (tg 2, ⟨[97], 0, 0⟩)], [])), ([98], ([(tg 2, ⟨[98], 0, 0⟩)], []))] := by
    have hh : ∀ k, homeOf k 1 = 0 := fun k => by unfold homeOf; induction k with | nil => rfl | cons b k ih => simpa [Nat.mod_one] using ih
    rw [← hM]
    simp [enterM, enter1, atM, gateM, hasT, mget, mset, markLook, lookS, sGet, getM, hh]
  have hz : gsz x.1 10 := by rw [hM1]; exact ⟨by simp, by simp⟩
  obtain ⟨M, dm⟩ := x
  simp only at hM1 hz ⊢
  refine tag16_hg ?_
  refine ready_hg hz (by omega) ?_
  refine tag16_hg ?_
  refine ready_hg hz (by omega) ?_
  refine tag16_hg ?_
  refine ahead_hg hz (by omega) fun s => ?_
  refine tag16_hg ?_
  refine s_own l ?_
  refine leave_hg hz (by omega) ?_
  have hz2 : gsz (leaveM (tg 1) (M, dm)).1 10 := by rw [show (leaveM (tg 1) (M, dm)).1 = M.map fun p => (p.1, (noT (tg 1) p.2.1, noT (tg 1) p.2.2)) from rfl, hM1]; exact ⟨by simp, by simp [noT]⟩
  have r1 : readyM (tg 1) M = true := by rw [hM1]; rfl
  have r2 : readyM (tg 2) M = false := by rw [hM1]; rfl
  have ha : aheadM (tg 2) M = [tg 1] := by
    have hk : keysM M = [[97], [98]] := by
      unfold keysM
      rw [hM1]
      show (sortL [[97], [98]]).filter _ = _
      rw [sort2]; rfl
    unfold aheadM
    rw [hk, hM1]; rfl
  have r3 : readyM (tg 2) (leaveM (tg 1) (M, dm)).1 = true := by
    rw [show (leaveM (tg 1) (M, dm)).1 = M.map fun p => (p.1, (noT (tg 1) p.2.1, noT (tg 1) p.2.2)) from rfl, hM1]; rfl
  rw [r1, r2, ha]
  repeat refine s_nx ?_
  refine tag16_hg ?_
  repeat refine s_nx ?_
  refine s_new fun t51 => ?_
  refine same16_hg (L1 := [tg 1]) (L2 := [tg 1]) (by simp) (fun w hw => (own_rd (s := s) hw).1) (fun w hw => by have := blk_rd (t := t51) (cs := tagF (tg 1)) (k := 1) rfl w hw; simpa using this) ?_
  repeat refine s_nx ?_
  refine s_t ?_ (by simp)
  refine tag16_hg ?_
  refine s_own l ?_
  refine ready_hg hz2 (by omega) ?_
  rw [r3]
  unfold law16_speaks.s2
  exact s_end h
end
end Go.Proofs.YtihncgfghpbhdaaGreat
/- Scripts of locks: what is great, and one step on both. -/
namespace Go.Proofs.YtihncgfghpbhdaaGreat
open Go Go.Sep Go.Sep.Bt
set_option linter.unusedSimpArgs false
set_option linter.unusedVariables false
set_option linter.unusedSectionVars false
set_option maxRecDepth 100000
structure OpY where
  kind : Int
  to : Int
  tag : TagM
  key : List UInt8
  marks : List MarkM
  ms : Sl
abbrev opyF (o : OpY) : List Value := [.int .i64 o.kind, .int .i64 o.to, .int .i64 o.tag.node, .int .u64 o.tag.epoch, .int .u64 o.tag.seq, .int .i64 o.tag.tr, strV o.key, o.ms.val]
theorem opyF_len (o : OpY) : (opyF o).length = 8 := rfl
def okOp (o : OpY) : Prop := o.marks.length ≤ 20 ∧ o.key.length ≤ 100 ∧ ∀ m ∈ o.marks, m.key.length ≤ 100
/-- Both sides. -/
structure SX where
  m : GM
  dm : DM
  s : Recs
  r : RX
abbrev opC (o : OpY) : Int := bitsOf .and .i64 o.kind 3
abbrev mvS16 (o : OpY) (y : SX) : Recs := (sMove 3 y.s (bs o.key) o.to).1
abbrev lvX (o : OpY) (y : SX) : SX := ⟨(leaveM o.tag (y.m, y.dm)).1, (leaveM o.tag (y.m, y.dm)).2, y.s, rLeave o.tag y.r⟩
abbrev mvX (o : OpY) (y : SX) : SX := ⟨(movedM 3 (mvS16 o y) o.key (y.m, y.dm)).1, (movedM 3 (mvS16 o y) o.key (y.m, y.dm)).2, mvS16 o y, rMoved 3 (mvS16 o y) o.key y.r⟩
abbrev enX (o : OpY) (y : SX) : SX := ⟨(enterM 3 y.s o.tag o.marks (y.m, y.dm)).1, (enterM 3 y.s o.tag o.marks (y.m, y.dm)).2, y.s, rEnter 3 y.s o.tag o.marks y.r⟩
def stp (o : OpY) (y : SX) : SX := if opC o = 0 then lvX o y else if opC o = 1 then mvX o y else enX o y
/-- How much there is. -/
structure SzS (T W : Nat) (y : SX) : Prop where
  gl : y.m.length ≤ T
  gs : ∀ p ∈ y.m, p.2.1.length + p.2.2.length ≤ T
  rs : y.r.line.length + y.r.park.length ≤ T
  rd : y.r.doom.length ≤ W
  sl : y.s.length ≤ T
theorem SzS.gsz {T W : Nat} {y : SX} (h : SzS T W y) : gsz y.m T := ⟨h.gl, fun p hp => by have := h.gs p hp; omega⟩
theorem gs_at {M : GM} {k : List UInt8} {T : Nat} (h : ∀ p ∈ M, p.2.1.length + p.2.2.length ≤ T) : (atM k M).1.length + (atM k M).2.length ≤ T := by
  unfold atM
  rcases mfind k M with ⟨h1, _⟩ | ⟨j, v, _, h0, _, h1, _⟩
  · rw [h1]; simp
  · rw [h1]; exact h _ (List.mem_of_getElem? h0)
theorem gs_gate {M : GM} {k : List UInt8} {T : Nat} (h : ∀ p ∈ M, p.2.1.length + p.2.2.length ≤ T) : ∀ p ∈ gateM k M, p.2.1.length + p.2.2.length ≤ T := fun p hp => by
  unfold gateM at hp
  split at hp
  · rcases List.mem_append.1 hp with hp | hp
    · exact h p hp
    · rw [List.mem_singleton.1 hp]; simp
  · exact h p hp
theorem gs_set {M : GM} {k : List UInt8} {v : List Claim × List Claim} {T : Nat} (h : ∀ p ∈ M, p.2.1.length + p.2.2.length ≤ T) (hv : v.1.length + v.2.length ≤ T) : ∀ p ∈ mset k v M, p.2.1.length + p.2.2.length ≤ T := fun p hp => by
  rcases mem_mset hp with rfl | hp
  · exact hv
  · exact h p hp
theorem gate_len {M : GM} {k : List UInt8} : (gateM k M).length ≤ M.length + 1 := by
  unfold gateM
  split <;> simp
theorem gs_up {M : GM} {T T' : Nat} (h : ∀ p ∈ M, p.2.1.length + p.2.2.length ≤ T) (ht : T ≤ T') : ∀ p ∈ M, p.2.1.length + p.2.2.length ≤ T' := fun p hp => Nat.le_trans (h p hp) ht
theorem gs_enter {n : Nat} {S : Recs} {tag : TagM} {x : GM × DM} {m : MarkM} {T : Nat} (hl : x.1.length ≤ T) (h : ∀ p ∈ x.1, p.2.1.length + p.2.2.length ≤ T) : (enter1 n S tag x m).1.length ≤ T + 1 ∧ ∀ p ∈ (enter1 n S tag x m).1, p.2.1.length + p.2.2.length ≤ T + 1 := by
  have g1 : (gateM m.key x.1).length ≤ T + 1 := Nat.le_trans gate_len (by omega)
  have g2 := gs_up (gs_gate (k := m.key) h) (Nat.le_succ T)
  have g3 := gs_at (k := m.key) h
  unfold enter1
  split
  · exact ⟨g1, g2⟩
  split
  · exact ⟨by rw [mset_len gate_some]; exact g1, gs_set g2 (by simp only [List.length_append, List.length_cons, List.length_nil]; omega)⟩
  split
  · exact ⟨by rw [mset_len gate_some]; exact g1, gs_set g2 (by simp only [List.length_append, List.length_cons, List.length_nil]; omega)⟩
  · exact ⟨g1, g2⟩
theorem gs_enters {n : Nat} {S : Recs} {tag : TagM} : ∀ (L : List MarkM) {x : GM × DM} {T : Nat}, x.1.length ≤ T → (∀ p ∈ x.1, p.2.1.length + p.2.2.length ≤ T) → (enterM n S tag L x).1.length ≤ T + L.length ∧ ∀ p ∈ (enterM n S tag L x).1, p.2.1.length + p.2.2.length ≤ T + L.length
  | [], x, T, h1, h2 => ⟨h1, h2⟩
  | m :: L, x, T, h1, h2 => by
    obtain ⟨a1, a2⟩ := gs_enter (n := n) (S := S) (tag := tag) (m := m) h1 h2
    obtain ⟨b1, b2⟩ := gs_enters (n := n) (S := S) (tag := tag) L a1 a2
    rw [List.length_cons]
    exact ⟨by show (enterM n S tag L (enter1 n S tag x m)).1.length ≤ _; omega, gs_up (T := T + 1 + L.length) b2 (by omega)⟩
theorem delG_sum (r : Rec) : ∀ (L : List Claim) (x : List Claim × DM), (delG (mvP r) (mvS r) x L).1.1.length + (delG (mvP r) (mvS r) x L).2.length ≤ x.1.length + L.length
  | [], x => by simp [delG]
  | c :: L, x => by
    rw [delG_cons]
    have h1 := delG_sum r L (mvS r x c)
    simp only [List.length_cons]
    by_cases h0 : clLook r c = 1
    · rw [show mvP r x c = false by simp [mvP, h0]]
      rw [show mvS r x c = x by simp [mvS, h0]] at h1 ⊢
      simp only [Bool.false_eq_true, if_false, List.length_cons]
      omega
    · rw [show mvP r x c = true by simp [mvP, h0]]
      have h2 := mvS_len r x c
      simp only [if_true]
      omega
theorem gs_moved {n : Nat} {S : Recs} {key : List UInt8} {x : GM × DM} {T : Nat} (hl : x.1.length ≤ T) (h : ∀ p ∈ x.1, p.2.1.length + p.2.2.length ≤ T) : (movedM n S key x).1.length ≤ T + 1 ∧ ∀ p ∈ (movedM n S key x).1, p.2.1.length + p.2.2.length ≤ T := by
  have g1 : (gateM key x.1).length ≤ T + 1 := Nat.le_trans gate_len (by omega)
  have g3 := gs_at (k := key) h
  unfold movedM
  refine ⟨by simp only; rw [mset_len gate_some]; exact g1, gs_set (gs_gate h) ?_⟩
  have := delG_sum (sGet n S (bs key)) (atM key x.1).2 ((atM key x.1).1, doomL (sGet n S (bs key)) (atM key x.1).1 x.2)
  simp only at this ⊢
  omega
theorem gs_leave {tag : TagM} {x : GM × DM} {T : Nat} (hl : x.1.length ≤ T) (h : ∀ p ∈ x.1, p.2.1.length + p.2.2.length ≤ T) : (leaveM tag x).1.length ≤ T ∧ ∀ p ∈ (leaveM tag x).1, p.2.1.length + p.2.2.length ≤ T := by
  refine ⟨by simpa [leaveM] using hl, fun p hp => ?_⟩
  obtain ⟨q, hq, rfl⟩ := List.mem_map.1 hp
  have h1 := h q hq
  have h2 : (noT tag q.2.1).length ≤ q.2.1.length := List.length_filter_le _ _
  have h3 : (noT tag q.2.2).length ≤ q.2.2.length := List.length_filter_le _ _
  simp only
  omega
theorem rsz_enters {n : Nat} {S : Recs} {tag : TagM} : ∀ (L : List MarkM) (x : RX), (rEnter n S tag L x).line.length + (rEnter n S tag L x).park.length ≤ x.line.length + x.park.length + L.length ∧ (rEnter n S tag L x).doom.length ≤ x.doom.length + L.length
  | [], x => by simp [rEnter]
  | m :: L, x => by
    have h1 := rsz_enters (n := n) (S := S) (tag := tag) L (rEnter1 n S tag x m)
    have h2 : (rEnter1 n S tag x m).line.length + (rEnter1 n S tag x m).park.length ≤ x.line.length + x.park.length + 1 ∧ (rEnter1 n S tag x m).doom.length ≤ x.doom.length + 1 := by
      have := addT_le x.doom tag
      unfold rEnter1
      split
      · omega
      split
      · simp only [List.length_append, List.length_cons, List.length_nil]; omega
      split
      · simp only [List.length_append, List.length_cons, List.length_nil]; omega
      · simp only; omega
    show (rEnter n S tag L (rEnter1 n S tag x m)).line.length + (rEnter n S tag L (rEnter1 n S tag x m)).park.length ≤ _ ∧ (rEnter n S tag L (rEnter1 n S tag x m)).doom.length ≤ _
    rw [List.length_cons]
    omega
theorem rMv_sum (r : Rec) (key : List UInt8) : ∀ (L : List Claim) (x : List Claim × List TagM × List Claim), (rMv r key L x).1.length + (rMv r key L x).2.2.length ≤ x.1.length + x.2.2.length + L.length
  | [], x => by simp [rMv]
  | c :: L, x => by
    have h1 := rMv_sum r key L (rMv1 r key x c)
    have h2 : (rMv1 r key x c).1.length + (rMv1 r key x c).2.2.length ≤ x.1.length + x.2.2.length + 1 := by
      unfold rMv1
      split
      · simp; omega
      split <;> simp <;> omega
    show (rMv r key L (rMv1 r key x c)).1.length + (rMv r key L (rMv1 r key x c)).2.2.length ≤ _
    rw [List.length_cons]
    omega
theorem rsz_moved {n : Nat} {S : Recs} {key : List UInt8} {x : RX} : (rMoved n S key x).line.length + (rMoved n S key x).park.length ≤ x.line.length + x.park.length ∧ (rMoved n S key x).doom.length ≤ x.doom.length + x.line.length + x.park.length := by
  unfold rMoved
  have h1 := rMv_sum (sGet n S (bs key)) key x.park (x.line, rDoomL (sGet n S (bs key)) key x.line x.doom, [])
  have h2 := rMv_le (sGet n S (bs key)) key x.park (x.line, rDoomL (sGet n S (bs key)) key x.line x.doom, [])
  have h3 := rDoomL_le (sGet n S (bs key)) key x.line x.doom
  simp only [List.length_nil] at h1 h2 ⊢
  omega
theorem sMove_len16 (n : Nat) (M : Recs) (k : ByteArray) (to : Int) : (sMove n M k to).1.length ≤ M.length + 1 := by
  unfold sMove
  split
  · simp
  split
  · simp
  exact putM_len _ _ _
theorem SzS.step {T W : Nat} {y : SX} {o : OpY} (h : SzS T W y) (ho : okOp o) : SzS (T + 20) (W + T + 20) (stp o y) := by
  obtain ⟨o1, _, _⟩ := ho
  unfold stp
  split
  · obtain ⟨a1, a2⟩ := gs_leave (tag := o.tag) (x := (y.m, y.dm)) h.gl h.gs
    have b1 : (noT o.tag y.r.line).length ≤ y.r.line.length := List.length_filter_le _ _
    have b2 : (noT o.tag y.r.park).length ≤ y.r.park.length := List.length_filter_le _ _
    have b3 : (y.r.doom.filter fun t => !decide (t = o.tag)).length ≤ y.r.doom.length := List.length_filter_le _ _
    have c1 := h.rs; have c2 := h.rd; have c3 := h.sl
    exact ⟨Nat.le_trans a1 (by omega), gs_up a2 (by omega), by simp only; omega, by simp only; omega, by simp only; omega⟩
  split
  · obtain ⟨a1, a2⟩ := gs_moved (n := 3) (S := mvS16 o y) (key := o.key) (x := (y.m, y.dm)) h.gl h.gs
    obtain ⟨b1, b2⟩ := rsz_moved (n := 3) (S := mvS16 o y) (key := o.key) (x := y.r)
    have b3 : (mvS16 o y).length ≤ y.s.length + 1 := sMove_len16 3 y.s (bs o.key) o.to
    have c1 := h.rs; have c2 := h.rd; have c3 := h.sl
    exact ⟨Nat.le_trans a1 (by omega), gs_up a2 (by omega), by simp only; omega, by simp only; omega, by simp only; omega⟩
  · obtain ⟨a1, a2⟩ := gs_enters (n := 3) (S := y.s) (tag := o.tag) o.marks (x := (y.m, y.dm)) h.gl h.gs
    obtain ⟨b1, b2⟩ := rsz_enters (n := 3) (S := y.s) (tag := o.tag) o.marks y.r
    have c1 := h.rs; have c2 := h.rd; have c3 := h.sl
    exact ⟨Nat.le_trans a1 (by omega), gs_up a2 (by omega), by simp only; omega, by simp only; omega, by simp only; omega⟩
abbrev sxL (l st t m : Nat) (P : Pool) (y : SX) (Γ : List HProp) : List HProp := LocksR l y.m y.dm :: StoreR st 3 y.s :: Ref16 m y.r :: Ref6 t 3 y.s P :: Γ
section
variable {B : World} {Γ Δ : List HProp} {k : K} {l st t m : Nat} {P : Pool} {y : SX}
theorem step16_hg {o : OpY} {T W : Nat} {Q : K} (ho : okOp o) (hms : ∀ w, Holds B Γ w → RdC w o.ms 3 (o.marks.flatMap markF)) (hsz : SzS T W y) (hT : T ≤ 20000) (hW : W ≤ 90000) (h : HG B (sxL l st t m P (stp o y) Γ) Q) :
    HG B (sxL l st t m P y Γ) (law16_step.call (some ⟨st, 0, none⟩) (some ⟨l, 0, none⟩) (some ⟨t, 0, none⟩) (some ⟨m, 0, none⟩) (opyF o).toArray Q) := fun w hw => by
  refine law16_step_ok _ _ _ _ _ _ _ ?_
  have hmn : o.ms.n = o.marks.length := rd_len markF_len (by omega) (hms w hw.drops)
  refine hg hw ?_
  clear hw w
  obtain ⟨o1, o2, o3⟩ := ho
  have hg0 := hsz.gsz
  have c1 := hsz.rs; have c2 := hsz.rd; have c3 := hsz.sl
  have hr0 : rsz y.r 90000 := ⟨by omega, by omega, by omega⟩
  unfold stp at h
  unfold law16_step
  refine s_new fun o9 => ?_
  refine s_ld (b := o9) (x := o.kind) ?_
  refine s_ar (e' := opC o) rfl ?_
  by_cases h0 : opC o = 0
  · rw [if_pos h0] at h
    refine s_t ?_ (by simpa using h0)
    refine s_ldN (b := o9) (l' := tagF o.tag) ?_
    refine s_own l ?_
    refine leave_hg hg0 (by omega) ?_
    refine s_ldN (b := o9) (l' := tagF o.tag) ?_
    refine s_own m ?_
    refine leave16_hg ⟨by have := hr0.1; omega, by have := hr0.2.1; omega, by have := hr0.2.2; omega⟩ ?_
    exact s_end h
  rw [if_neg h0] at h
  refine s_f ?_ (by simpa using h0)
  by_cases h1 : opC o = 1
  · rw [if_pos h1] at h
    refine s_t ?_ (by simpa using h1)
    refine s_ld (b := o9) (x := bs o.key) ?_
    refine s_ld (b := o9) (x := o.to) ?_
    refine s_own st ?_
    refine storeMove_spec (by show o.key.length < _; omega) (by omega) ?_
    refine s_ld (b := o9) (x := bs o.key) ?_
    refine s_ld (b := o9) (x := o.to) ?_
    refine s_own t ?_
    refine move6_hg (by show o.key.length < _; omega) (by omega) ?_
    refine s_ld (b := o9) (x := bs o.key) ?_
    refine s_own st ?_
    refine s_own l ?_
    refine moved_hg (by omega) hg0 (by omega) ?_
    refine s_ld (b := o9) (x := bs o.key) ?_
    refine s_own t ?_
    refine s_own m ?_
    have := sMove_len16 3 y.s (bs o.key) o.to
    refine moved16_hg (N := 90000) (by omega) (by omega) hr0 (by omega) ?_
    exact s_end h
  rw [if_neg h1] at h
  refine s_f ?_ (by simpa using h1)
  refine s_new fun t15 => ?_
  refine s_slc0 (esz := 3) ?_
  refine s_ld (b := o9) (x := o.ms) ?_
  refine s_append (us := o.marks.flatMap markF) (fun w hw => hms w hw.drops) (fun v hv => ?_) (by simp only; omega) fun s' hs' => ?_
  · obtain ⟨z, _, hz⟩ := List.mem_flatMap.1 hv
    simp only [markF, List.mem_cons, List.not_mem_nil, or_false] at hz
    rcases hz with rfl | rfl | rfl <;> rfl
  rw [List.nil_append]
  refine s_ldN (b := o9) (l' := tagF o.tag) ?_
  refine s_own st ?_
  refine s_own l ?_
  refine enter_hg (L := o.marks) (fun w hw => (own_rd (s := s') hw).1) (fun z hz => by have := o3 z hz; omega) hg0 (by omega) ?_
  refine s_ldN (b := o9) (l' := tagF o.tag) ?_
  refine s_ld (b := o9) (x := o.ms) ?_
  refine s_own t ?_
  refine s_own m ?_
  refine enter16_hg (L := o.marks) (fun w hw => hms w hw.drops) (fun z hz => by have := o3 z hz; omega) (by omega) hr0 (by omega) ?_
  refine s_end (Δ := SlC ty_api_Mark 3 s' (o.marks.flatMap markF) :: sxL l st t m P (enX o y) Γ) ?_
  simp only at hs'
  refine s_loop (α := Int) (ι := Nat × List MarkM) (fun z i => z = (i.1 : Int) ∧ i.1 ≤ o.marks.length ∧ i.2.length = o.marks.length) (fun z i => SlC ty_api_Mark 3 s' (i.2.flatMap markF) :: sxL l st t m P (enX o y) Γ) (fun z i => o.marks.length - i.1) (0, o.marks) ⟨rfl, Nat.zero_le _, rfl⟩ ?_
  rintro k' _ ⟨i, M2⟩ ⟨rfl, hi, hM⟩ hk'
  simp only at hi hM hk' ⊢
  unfold law16_step.b1
  refine s_ite (fun hb => ?_) fun hb => s_end h
  have hil : i < o.marks.length := by simp only [decide_eq_true_eq] at hb; omega
  refine s_idx (s := s') (i := i) ?_
  refine flatMap_set (f := markF) (M := M2) (x := ⟨[], 0, 0⟩) markF_len rfl (by omega) ?_
  refine s_ai ?_
  exact hk' ((i : Int) + 1) (i + 1, M2.set i ⟨[], 0, 0⟩) ⟨by simp, hil, by rw [List.length_set]; exact hM⟩ (by simp only; omega)
end
end Go.Proofs.YtihncgfghpbhdaaGreat
/- How locks and the document's locks stand to each other. -/
namespace Go.Proofs.YtihncgfghpbhdaaGreat
open Go Go.Sep Go.Sep.Bt
set_option linter.unusedSimpArgs false
set_option linter.unusedVariables false
set_option linter.unusedSectionVars false
set_option maxRecDepth 100000
abbrev ofK (k : List UInt8) (L : List Claim) : List Claim := L.filter fun c => decide (c.2.key = k)
structure RelL (M : GM) (dm : DM) (x : RX) : Prop where
  line : ∀ k, (atM k M).1 = ofK k x.line
  park : ∀ k, (atM k M).2 = ofK k x.park
  doom : ∀ t, dm t = decide (t ∈ x.doom)
theorem at_leave' {tag : TagM} {M : GM} {dm : DM} {key : List UInt8} : atM key (leaveM tag (M, dm)).1 = (noT tag (atM key M).1, noT tag (atM key M).2) := by
  unfold leaveM atM
  simp only
  rw [show mget key (M.map fun p => (p.1, (noT tag p.2.1, noT tag p.2.2))) = (mget key M).map fun v => (noT tag v.1, noT tag v.2) from mget_map (fun v : List Claim × List Claim => (noT tag v.1, noT tag v.2)) key M]
  cases mget key M <;> rfl
theorem ofK_noT (k : List UInt8) (tag : TagM) (L : List Claim) : noT tag (ofK k L) = ofK k (noT tag L) := by
  unfold ofK noT
  rw [List.filter_filter, List.filter_filter]
  congr 1
  funext c
  exact Bool.and_comm _ _
theorem RelL.leave {M : GM} {dm : DM} {x : RX} {tag : TagM} (h : RelL M dm x) : RelL (leaveM tag (M, dm)).1 (leaveM tag (M, dm)).2 (rLeave tag x) := by
  refine ⟨fun k => ?_, fun k => ?_, fun t => ?_⟩
  · rw [at_leave', h.line]; exact ofK_noT k tag x.line
  · rw [at_leave', h.park]; exact ofK_noT k tag x.park
  · show dset dm tag false t = decide (t ∈ x.doom.filter fun t => !decide (t = tag))
    unfold dset
    by_cases ht : t = tag
    · rw [if_pos ht]; simp [ht]
    · rw [if_neg ht, h.doom]; simp [ht]
theorem at_gate' {key k : List UInt8} {M : GM} : atM k (gateM key M) = atM k M := by
  unfold gateM
  split
  · rename_i hn
    unfold atM
    rw [show mget k (M ++ [(key, ([], []))]) = mget k (mset key ([], []) M) by
      rcases mfind key M with ⟨_, h2, _⟩ | ⟨j, v, _, _, _, h1, _⟩
      · rw [h2]
      · rw [h1] at hn; simp at hn]
    rw [mget_mset]
    split
    · rename_i hk
      rw [hk]
      rw [show mget key M = none by simpa using hn]; rfl
    · rfl
  · rfl
theorem at_set {key k : List UInt8} {M : GM} {v : List Claim × List Claim} : atM k (mset key v (gateM key M)) = if k = key then v else atM k M := by
  have h := at_gate' (key := key) (k := k) (M := M)
  unfold atM at h ⊢
  rw [mget_mset]
  split
  · rfl
  · exact h
theorem hasT_of (k : List UInt8) (tag : TagM) (L : List Claim) : hasT tag (ofK k L) = hasK L k tag := by
  unfold hasT hasK ofK
  rw [List.any_filter]
theorem dset_add {dm : DM} {D : List TagM} {tag : TagM} (h : ∀ t, dm t = decide (t ∈ D)) : ∀ t, dset dm tag true t = decide (t ∈ addT D tag) := fun t => by
  unfold dset addT
  by_cases ht : t = tag
  · rw [if_pos ht]
    split
    · rename_i hi; rw [ht]; simpa using hi
    · simp [ht]
  · rw [if_neg ht, h]
    split
    · rfl
    · simp [ht]
theorem ofK_app (k : List UInt8) (L : List Claim) (c : Claim) : ofK k (L ++ [c]) = if c.2.key = k then ofK k L ++ [c] else ofK k L := by
  unfold ofK
  rw [List.filter_append]
  by_cases h : c.2.key = k <;> simp [h]
theorem RelL.enter1 {M : GM} {dm : DM} {x : RX} {tag : TagM} {n : Nat} {S : Recs} {m : MarkM} (h : RelL M dm x) : RelL (enter1 n S tag (M, dm) m).1 (enter1 n S tag (M, dm) m).2 (rEnter1 n S tag x m) := by
  have e : (hasT tag (atM m.key M).1 || hasT tag (atM m.key M).2) = (hasK x.line m.key tag || hasK x.park m.key tag) := by rw [h.line, h.park, hasT_of, hasT_of]
  unfold Go.Proofs.YtihncgfghpbhdaaGreat.enter1 rEnter1
  simp only
  rw [e]
  split
  · exact ⟨fun k => by rw [at_gate']; exact h.line k, fun k => by rw [at_gate']; exact h.park k, h.doom⟩
  split
  · refine ⟨fun k => ?_, fun k => ?_, h.doom⟩
    · simp only
      rw [at_set, ofK_app]
      by_cases hk : k = m.key
      · rw [if_pos hk, if_pos hk.symm, h.line, hk]
      · rw [if_neg hk, if_neg fun h => hk h.symm]; exact h.line k
    · simp only
      rw [at_set]
      split
      · rename_i hk; rw [hk]; exact h.park m.key
      · exact h.park k
  split
  · refine ⟨fun k => ?_, fun k => ?_, h.doom⟩
    · simp only
      rw [at_set]
      split
      · rename_i hk; rw [hk]; exact h.line m.key
      · exact h.line k
    · simp only
      rw [at_set, ofK_app]
      by_cases hk : k = m.key
      · rw [if_pos hk, if_pos hk.symm, h.park, hk]
      · rw [if_neg hk, if_neg fun h => hk h.symm]; exact h.park k
  · exact ⟨fun k => by rw [at_gate']; exact h.line k, fun k => by rw [at_gate']; exact h.park k, dset_add h.doom⟩
theorem RelL.enter {tag : TagM} {n : Nat} {S : Recs} : ∀ (L : List MarkM) {M : GM} {dm : DM} {x : RX}, RelL M dm x → RelL (enterM n S tag L (M, dm)).1 (enterM n S tag L (M, dm)).2 (rEnter n S tag L x)
  | [], M, dm, x, h => h
  | m :: L, M, dm, x, h => by
    have h1 := h.enter1 (tag := tag) (n := n) (S := S) (m := m)
    exact RelL.enter L (M := (Go.Proofs.YtihncgfghpbhdaaGreat.enter1 n S tag (M, dm) m).1) (dm := (Go.Proofs.YtihncgfghpbhdaaGreat.enter1 n S tag (M, dm) m).2) h1
theorem doomL_rel (r : Rec) (key : List UInt8) : ∀ (L : List Claim) {dm : DM} {D : List TagM}, (∀ t, dm t = decide (t ∈ D)) → ∀ t, doomL r (ofK key L) dm t = decide (t ∈ rDoomL r key L D)
  | [], dm, D, h => h
  | c :: L, dm, D, h => by
    show ∀ t, doomL r (ofK key (c :: L)) dm t = decide (t ∈ rDoomL r key L (if c.2.key = key ∧ clLook r c ≠ 0 then addT D c.1 else D))
    unfold ofK
    rw [List.filter_cons]
    by_cases hk : c.2.key = key
    · simp only [hk, decide_true, if_true, true_and]
      show ∀ t, doomL r (ofK key L) (if clLook r c ≠ 0 then dset dm c.1 true else dm) t = _
      by_cases h0 : clLook r c ≠ 0
      · rw [if_pos h0, if_pos h0]
        exact doomL_rel r key L (dset_add h)
      · rw [if_neg h0, if_neg h0]
        exact doomL_rel r key L h
    · simp only [hk, decide_false, Bool.false_eq_true, if_false, false_and]
      exact doomL_rel r key L h
theorem clLook_3 (r : Rec) (c : Claim) : clLook r c = 0 ∨ clLook r c = 1 ∨ clLook r c = 2 := lookS_3 _ _ _ _
theorem rMv_rel (r : Rec) (key : List UInt8) : ∀ (P : List Claim) {ls left ln : List Claim} {D : List TagM} {dm : DM}, ofK key ls = ln → (∀ t, dm t = decide (t ∈ D)) →
    ofK key (rMv r key P (ls, D, left)).1 = (delG (mvP r) (mvS r) (ln, dm) (ofK key P)).1.1 ∧ (∀ t, (delG (mvP r) (mvS r) (ln, dm) (ofK key P)).1.2 t = decide (t ∈ (rMv r key P (ls, D, left)).2.1)) ∧
    ofK key (rMv r key P (ls, D, left)).2.2 = ofK key left ++ (delG (mvP r) (mvS r) (ln, dm) (ofK key P)).2 ∧ ∀ k, k ≠ key → ofK k (rMv r key P (ls, D, left)).1 = ofK k ls ∧ ofK k (rMv r key P (ls, D, left)).2.2 = ofK k left ++ ofK k P
  | [], ls, left, ln, D, dm, h1, h2 => by
    subst h1
    exact ⟨rfl, h2, by simp [rMv, delG], fun k _ => ⟨rfl, by simp [rMv]⟩⟩
  | c :: P, ls, left, ln, D, dm, h1, h2 => by
    have e : rMv r key (c :: P) (ls, D, left) = rMv r key P (rMv1 r key (ls, D, left) c) := rfl
    rw [e]
    by_cases hk : c.2.key = key
    · have ef : ofK key (c :: P) = c :: ofK key P := by simp [ofK, List.filter_cons, hk]
      have eo : ∀ k, k ≠ key → ofK k (c :: P) = ofK k P := fun k hne => by
        have : ¬ c.2.key = k := fun h => hne (h.symm.trans hk)
        simp [ofK, List.filter_cons, this]
      rw [ef, delG_cons]
      rcases clLook_3 r c with h0 | h0 | h0
      · rw [show rMv1 r key (ls, D, left) c = (ls ++ [c], D, left) by unfold rMv1; simp [hk, h0], show mvS r (ln, dm) c = (ln ++ [c], dm) by simp [mvS, h0], show mvP r (ln, dm) c = true by simp [mvP, h0]]
        obtain ⟨a1, a2, a3, a4⟩ := rMv_rel r key P (ls := ls ++ [c]) (left := left) (ln := ln ++ [c]) (D := D) (dm := dm) (by rw [ofK_app, if_pos hk, h1]) h2
        refine ⟨a1, a2, by simpa using a3, fun k hne => ?_⟩
        have := a4 k hne
        rw [ofK_app, if_neg fun h => hne (h.symm.trans hk)] at this
        rw [eo k hne]; exact this
      · rw [show rMv1 r key (ls, D, left) c = (ls, D, left ++ [c]) by unfold rMv1; simp [h0], show mvS r (ln, dm) c = (ln, dm) by simp [mvS, h0], show mvP r (ln, dm) c = false by simp [mvP, h0]]
        obtain ⟨a1, a2, a3, a4⟩ := rMv_rel r key P (ls := ls) (left := left ++ [c]) (ln := ln) (D := D) (dm := dm) h1 h2
        rw [ofK_app, if_pos hk] at a3
        refine ⟨a1, a2, by simpa using a3, fun k hne => ?_⟩
        have := a4 k hne
        rw [ofK_app, if_neg fun h => hne (h.symm.trans hk)] at this
        rw [eo k hne]; exact this
      · rw [show rMv1 r key (ls, D, left) c = (ls, addT D c.1, left) by unfold rMv1; simp [hk, h0], show mvS r (ln, dm) c = (ln, dset dm c.1 true) by simp [mvS, h0], show mvP r (ln, dm) c = true by simp [mvP, h0]]
        obtain ⟨a1, a2, a3, a4⟩ := rMv_rel r key P (ls := ls) (left := left) (ln := ln) (D := addT D c.1) (dm := dset dm c.1 true) h1 (dset_add h2)
        refine ⟨a1, a2, by simpa using a3, fun k hne => ?_⟩
        rw [eo k hne]; exact a4 k hne
    · have ef : ofK key (c :: P) = ofK key P := by simp [ofK, List.filter_cons, hk]
      rw [ef, show rMv1 r key (ls, D, left) c = (ls, D, left ++ [c]) by unfold rMv1; simp [hk]]
      obtain ⟨a1, a2, a3, a4⟩ := rMv_rel r key P (ls := ls) (left := left ++ [c]) (ln := ln) (D := D) (dm := dm) h1 h2
      rw [ofK_app, if_neg hk] at a3
      refine ⟨a1, a2, a3, fun k hne => ⟨(a4 k hne).1, ?_⟩⟩
      rw [(a4 k hne).2, ofK_app]
      by_cases hck : c.2.key = k
      · simp [ofK, List.filter_cons, hck]
      · simp [ofK, List.filter_cons, hck]
theorem RelL.moved {M : GM} {dm : DM} {x : RX} {n : Nat} {S : Recs} {key : List UInt8} (h : RelL M dm x) : RelL (movedM n S key (M, dm)).1 (movedM n S key (M, dm)).2 (rMoved n S key x) := by
  unfold movedM rMoved
  simp only
  generalize sGet n S (bs key) = r
  obtain ⟨a1, a2, a3, a4⟩ := rMv_rel r key x.park (ls := x.line) (left := []) (ln := ofK key x.line) (D := rDoomL r key x.line x.doom) (dm := doomL r (ofK key x.line) dm) rfl (doomL_rel r key x.line h.doom)
  rw [h.line key, h.park key]
  refine ⟨fun k => ?_, fun k => ?_, a2⟩
  · simp only
    rw [at_set]
    by_cases hk : k = key
    · rw [if_pos hk, hk]; exact a1.symm
    · rw [if_neg hk, h.line k]; exact (a4 k hk).1.symm
  · simp only
    rw [at_set]
    by_cases hk : k = key
    · rw [if_pos hk, hk]; simpa using a3.symm
    · rw [if_neg hk, h.park k]; simpa using (a4 k hk).2.symm
theorem RelL.stp {y : SX} {o : OpY} (h : RelL y.m y.dm y.r) : RelL (stp o y).m (stp o y).dm (stp o y).r := by
  unfold Go.Proofs.YtihncgfghpbhdaaGreat.stp
  split
  · exact h.leave
  split
  · exact h.moved
  · exact h.enter o.marks
end Go.Proofs.YtihncgfghpbhdaaGreat
/- The document's locks: Tags, Keys, Ahead, Ready. -/
namespace Go.Proofs.YtihncgfghpbhdaaGreat
open Go Go.Sep Go.Sep.Bt
set_option linter.unusedSimpArgs false
set_option linter.unusedVariables false
set_option linter.unusedSectionVars false
set_option maxRecDepth 100000
abbrev lineR (x : RX) (key : List UInt8) : List TagM := (ofK key x.line).map Prod.fst
abbrev clKeys (L : List Claim) : List (List UInt8) := L.map fun c => c.2.key
theorem clKeys_app (L : List Claim) (c : Claim) : clKeys (L ++ [c]) = clKeys L ++ [c.2.key] := by simp [clKeys]
def refKeys (x : RX) : List (List UInt8) := keysT (clKeys x.line ++ clKeys x.park)
def rAhead (tag : TagM) (x : RX) : List TagM := (refKeys x).foldl (fun out key => (fore tag (lineR x key)).foldl addT out) []
section
variable {B : World} {Γ Δ : List HProp} {k : K} {tag : TagM} {m n st : Nat} {x : RX} {ls ps ds : Sl}
/-- With its slices told. -/
def RefF (m : Nat) (ls ps ds : Sl) (x : RX) : HProp := Sep.stars (r16L m ls ps ds x [])
instance (priority := high) own_refF : Sep.Own m (RefF m ls ps ds x :: Γ) (RefF m ls ps ds x) Γ := ⟨.refl _⟩
theorem s_refF (h : HG B (r16L m ls ps ds x Γ) k) : HG B (RefF m ls ps ds x :: Γ) k := by
  unfold RefF
  exact s_flat h
theorem s_mkRefF (h : HG B (RefF m ls ps ds x :: Γ) k) : HG B (r16L m ls ps ds x Γ) k := fun w hw => by
  refine h w ?_
  have h3 : Holds B (Sep.stars (r16L m ls ps ds x []) :: Γ) w := Holds.flat.2 hw
  exact h3
theorem s_toF (h : ∀ ls ps ds, HG B (RefF m ls ps ds x :: Γ) k) : HG B (Ref16 m x :: Γ) k := s_ref16 fun ls ps ds => s_mkRefF (h ls ps ds)
theorem s_fromF (h : HG B (Ref16 m x :: Γ) k) : HG B (RefF m ls ps ds x :: Γ) k := s_refF (s_mkRef16 h)
theorem tags16_hg {s : Sl} {L : List Claim} {key : List UInt8} {Q : Sl → K} (hl : L.length ≤ 1000000) (hr : ∀ w, Holds B Γ w → RdC w s 7 (L.flatMap clF)) (h : ∀ s', HG B (SlC ty_api_Tag 4 s' (((ofK key L).map Prod.fst).flatMap tagF) :: Γ) (Q s')) : HG B Γ (ref16_Tags.call s (bs key) Q) := fun w hw => by
  refine ref16_Tags_ok _ _ _ _ ?_
  have ln : s.n = L.length := rd_len clF_len (by omega) (hr w hw)
  refine hg hw ?_
  clear hw w
  unfold ref16_Tags
  refine s_new fun t7 => ?_
  refine s_slc0 (esz := 4) ?_
  refine s_loop (α := Sl × Int) (ι := Nat) (fun z i => z.2 = (i : Int) ∧ i ≤ L.length) (fun z i => SlC ty_api_Tag 4 z.1 (((ofK key (L.take i)).map Prod.fst).flatMap tagF) :: Γ) (fun z i => L.length - i) 0 ⟨rfl, Nat.zero_le _⟩ ?_
  rintro k' ⟨o, _⟩ i ⟨rfl, hi⟩ hk'
  simp only at hi hk' ⊢
  refine s_cap o fun a1 a2 a3 a4 => ?_
  rw [flatMap_len _ 4 tagF_len, List.length_map] at a1
  have ho : (ofK key (L.take i)).length ≤ i := by
    have h1 := List.length_filter_le (fun c : Claim => decide (c.2.key = key)) (L.take i)
    rw [List.length_take] at h1
    show (List.filter _ _).length ≤ i
    omega
  unfold ref16_Tags.b1
  refine s_ite (fun hb => ?_) fun hb => ?_
  · have hil : i < L.length := by simp only [decide_eq_true_eq] at hb; omega
    have htk := List.take_succ_eq_append_getElem hil
    have hge : L[i]? = some L[i] := List.getElem?_eq_getElem hil
    generalize L[i] = c at htk hge
    refine s_idxFA clF clF_len (by omega) (fun w hw => hr w hw.drops) hge fun t16 ht16 => ?_
    refine s_ldAi (cs := clF c) (i := 4) (x := bs c.2.key) (fun w hw => ht16 w (hr w hw.drops)) rfl ?_
    refine s_ite (fun hp => ?_) fun hp => ?_
    · have hkey : c.2.key = key := by rw [bs_list, bs_list] at hp; simpa using hp
      refine s_idxFA clF clF_len (by omega) (fun w hw => hr w hw.drops) hge fun t25 ht25 => ?_
      refine s_ldNA16 (cs := clF c) (us := tagF c.1) (fun w hw => ht25 w (hr w hw.drops)) (by rw [clF_len]; omega) ?_
      refine s_bld1 ?_
      refine s_app1 (s := o) (m := 1) (us := tagF c.1) (fun o2 ho2 => ?_)
      unfold ref16_Tags.s2
      refine s_ai ?_
      have hfin := hk' (o2, (i : Int) + 1) (i + 1) ⟨by simp, hil⟩ (by omega)
      rw [htk, ofK_app, if_pos hkey, List.map_append, List.flatMap_append] at hfin
      exact hfin
    · have hkey : c.2.key ≠ key := by rw [bs_list, bs_list] at hp; simpa using hp
      unfold ref16_Tags.s2
      refine s_ai ?_
      have hfin := hk' (o, (i : Int) + 1) (i + 1) ⟨by simp, hil⟩ (by omega)
      rw [htk, ofK_app, if_neg hkey] at hfin
      exact hfin
  · have hil : i = L.length := by simp only [decide_eq_false_iff_not] at hb; omega
    rw [hil, List.take_length]
    exact s_end (h o)
theorem keys16_hg {Q : Sl → K} (hN : rsz x 1000000) (h : ∀ s, HG B (SlS s (refKeys x) :: RefF m ls ps ds x :: Γ) (Q s)) : HG B (RefF m ls ps ds x :: Γ) (ref16_Locks_Keys.call (some ⟨m, 0, none⟩) Q) := by
  refine fun w hw => ref16_Locks_Keys_ok _ _ _ ?_
  refine hg hw ?_
  clear hw w
  obtain ⟨n1, n2, n3⟩ := hN
  refine s_refF ?_
  refine s_cap ls fun a1 a2 a3 a4 => ?_
  rw [flatMap_len _ 7 clF_len] at a1
  refine s_cap ps fun c1 c2 c3 c4 => ?_
  rw [flatMap_len _ 7 clF_len] at c1
  unfold ref16_Locks_Keys
  refine s_new fun t6 => ?_
  refine s_slc0 (esz := 1) ?_
  refine s_loop (α := Sl × Int) (ι := Nat) (fun z i => z.2 = (i : Int) ∧ i ≤ x.line.length) (fun z i => SlS z.1 (clKeys (x.line.take i)) :: r16L m ls ps ds x Γ) (fun z i => x.line.length - i) 0 ⟨rfl, Nat.zero_le _⟩ ?_
  rintro k' ⟨o, _⟩ i ⟨rfl, hi⟩ hk'
  simp only at hi hk' ⊢
  refine s_cap o fun b1 b2 b3 b4 => ?_
  rw [List.length_map, List.length_map, List.length_take] at b1
  unfold ref16_Locks_Keys.b1
  refine s_nn ?_
  refine s_ld (b := m) (x := ls) ?_
  refine s_ite (fun hb => ?_) fun hb => ?_
  · have hil : i < x.line.length := by simp only [decide_eq_true_eq] at hb; omega
    have htk := List.take_succ_eq_append_getElem hil
    have hge : x.line[i]? = some x.line[i] := List.getElem?_eq_getElem hil
    generalize x.line[i] = c at htk hge
    refine s_ld (b := m) (x := ls) ?_
    refine s_idxFA clF clF_len (by omega) (fun w hw => (own_rd (s := ls) hw).1) hge fun t16 ht16 => ?_
    refine s_ldAi (cs := clF c) (i := 4) (x := bs c.2.key) (fun w hw => ht16 w (own_rd (s := ls) hw).1) rfl ?_
    refine s_app1 (s := o) (m := 1) (us := [strV c.2.key]) (fun o2 ho2 => ?_)
    refine s_ai ?_
    have hfin : HG B (SlS o2 (clKeys (x.line.take (i + 1))) :: r16L m ls ps ds x Γ) (k' (o2, (i : Int) + 1)) := hk' (o2, (i : Int) + 1) (i + 1) ⟨by simp, hil⟩ (by omega)
    rw [show SlS o2 (clKeys (x.line.take (i + 1))) = SlC ty_string 1 o2 ((clKeys (x.line.take i)).map strV ++ [strV c.2.key]) by rw [htk, clKeys_app]; show SlC ty_string 1 o2 ((clKeys (x.line.take i) ++ [c.2.key]).map strV) = _; rw [List.map_append]; rfl] at hfin
    exact hfin
  have hil : i = x.line.length := by simp only [decide_eq_false_iff_not] at hb; omega
  rw [hil, List.take_length]
  refine s_end (Δ := SlS o (clKeys x.line ++ clKeys (x.park.take 0)) :: r16L m ls ps ds x Γ) ?_ (d := by simpa using (inferInstance : Drops (SlS o (clKeys x.line) :: r16L m ls ps ds x Γ) (SlS o (clKeys x.line) :: r16L m ls ps ds x Γ)))
  refine s_loop (α := Sl × Int) (ι := Nat) (fun z i => z.2 = (i : Int) ∧ i ≤ x.park.length) (fun z i => SlS z.1 (clKeys x.line ++ clKeys (x.park.take i)) :: r16L m ls ps ds x Γ) (fun z i => x.park.length - i) 0 ⟨rfl, Nat.zero_le _⟩ ?_
  rintro k2 ⟨o, _⟩ i ⟨rfl, hi⟩ hk2
  simp only at hi hk2 ⊢
  refine s_cap o fun b1 b2 b3 b4 => ?_
  rw [List.length_map, List.length_append, List.length_map, List.length_map, List.length_take] at b1
  unfold ref16_Locks_Keys.b2
  refine s_ld (b := m) (x := ps) ?_
  refine s_ite (fun hb => ?_) fun hb => ?_
  · have hil : i < x.park.length := by simp only [decide_eq_true_eq] at hb; omega
    have htk := List.take_succ_eq_append_getElem hil
    have hge : x.park[i]? = some x.park[i] := List.getElem?_eq_getElem hil
    generalize x.park[i] = c at htk hge
    refine s_ld (b := m) (x := ps) ?_
    refine s_idxFA clF clF_len (by omega) (fun w hw => (own_rd (s := ps) hw).1) hge fun t16 ht16 => ?_
    refine s_ldAi (cs := clF c) (i := 4) (x := bs c.2.key) (fun w hw => ht16 w (own_rd (s := ps) hw).1) rfl ?_
    refine s_app1 (s := o) (m := 1) (us := [strV c.2.key]) (fun o2 ho2 => ?_)
    refine s_ai ?_
    have hfin : HG B (SlS o2 (clKeys x.line ++ clKeys (x.park.take (i + 1))) :: r16L m ls ps ds x Γ) (k2 (o2, (i : Int) + 1)) := hk2 (o2, (i : Int) + 1) (i + 1) ⟨by simp, hil⟩ (by omega)
    rw [show SlS o2 (clKeys x.line ++ clKeys (x.park.take (i + 1))) = SlC ty_string 1 o2 ((clKeys x.line ++ clKeys (x.park.take i)).map strV ++ [strV c.2.key]) by rw [htk, clKeys_app, ← List.append_assoc]; show SlC ty_string 1 o2 (((clKeys x.line ++ clKeys (x.park.take i)) ++ [c.2.key]).map strV) = _; rw [List.map_append]; rfl] at hfin
    exact hfin
  have hil : i = x.park.length := by simp only [decide_eq_false_iff_not] at hb; omega
  rw [hil, List.take_length]
  refine keys05_hg (t := ⟨0, [], clKeys x.line ++ clKeys x.park, [], 0, ⟨none, 0, 0⟩, o, ⟨none, 0, 0⟩⟩) (fun w hw => RdC.none') (fun w hw => (own_rd (s := o) hw).1) (by simp) (by simp; omega) fun s => ?_
  show HG B (SlS s (refKeys x) :: SlS o (clKeys x.line ++ clKeys x.park) :: r16L m ls ps ds x Γ) _
  refine s_end (Δ := r16L m ls ps ds x (SlS s (refKeys x) :: Γ)) ?_
  refine s_mkRefF ?_
  exact s_end (h s)
theorem addT_in {D : List TagM} {t : TagM} (h : t ∈ D) : addT D t = D := by unfold addT; rw [if_pos h]
theorem addT_out {D : List TagM} {t : TagM} (h : t ∉ D) : addT D t = D ++ [t] := by unfold addT; rw [if_neg h]
theorem addT_fold_len (L out : List TagM) : (L.foldl addT out).length ≤ out.length + L.length := addT_len L out
/-- The tries ahead of one in one line. -/
theorem ahead16_b3 {line out : Sl} {LN O : List TagM} {g3 : Nat} {keys : Sl} {j : Nat} {i7 : Int} {Q : Sl → K} {X1 : Sl → Int → K} (hj : (LN.findIdx? fun t => decide (t = tag)) = some j) (hL : LN.length ≤ 1000000) (hO : O.length ≤ 90000000) (hr : ∀ w, Holds B Γ w → RdC w line 4 (LN.flatMap tagF))
    (h : ∀ o2, HG B (SlC ty_api_Tag 4 o2 (((fore tag LN).foldl addT O).flatMap tagF) :: blk g3 (.cells (tagF tag).toArray ty_api_Tag (0, 0)) :: Γ) (ref16_Locks_Ahead.s2 Q X1 (some ⟨m, 0, none⟩) ⟨g3, 0, none⟩ o2 keys i7)) :
    HG B (SlC ty_api_Tag 4 out (O.flatMap tagF) :: blk g3 (.cells (tagF tag).toArray ty_api_Tag (0, 0)) :: Γ) (LoopK (α := Sl × Int) (fun X z => ref16_Locks_Ahead.b3 Q X1 (fun out5_3 k9_3 => X (out5_3, k9_3)) ⟨m, 0, none⟩ ⟨g3, 0, none⟩ keys i7 line z.1 z.2) (out, 0)) := by
  rw [List.findIdx?_eq_some_iff_getElem] at hj
  obtain ⟨hjl, hjt, hjb⟩ := hj
  have hfore : fore tag LN = LN.take j := by
    unfold fore
    rw [show (LN.findIdx? fun t => decide (t = tag)) = some j from List.findIdx?_eq_some_iff_getElem.2 ⟨hjl, hjt, hjb⟩]; rfl
  rw [hfore] at h
  refine s_loop (α := Sl × Int) (ι := Nat) (fun z i => z.2 = (i : Int) ∧ i ≤ j) (fun z i => SlC ty_api_Tag 4 z.1 (((LN.take i).foldl addT O).flatMap tagF) :: blk g3 (.cells (tagF tag).toArray ty_api_Tag (0, 0)) :: Γ) (fun z i => j - i) 0 ⟨rfl, Nat.zero_le _⟩ ?_
  rintro k' ⟨o, _⟩ i ⟨rfl, hi⟩ hk'
  simp only at hi hk' ⊢
  have hfl := addT_len (LN.take i) O
  rw [List.length_take] at hfl
  refine s_cap o fun b1 b2 b3 b4 => ?_
  rw [flatMap_len _ 4 tagF_len] at b1
  have hil : i < LN.length := by omega
  have htk := List.take_succ_eq_append_getElem hil
  have hge : LN[i]? = some LN[i] := List.getElem?_eq_getElem hil
  have hcmp : i = j ∨ (i < j ∧ LN[i] ≠ tag) := by
    rcases Nat.lt_or_ge i j with h | h
    · exact .inr ⟨h, by simpa using hjb i h⟩
    · exact .inl (by omega)
  have heq : i = j → LN[i] = tag := fun h => by subst h; simpa using hjt
  generalize LN[i] = t at htk hge hcmp heq
  unfold ref16_Locks_Ahead.b3
  refine s_dr ?_
  refine s_idxN tagF tagF_len (fun w hw => hr w hw.drops) hge ?_
  refine s_ldN (b := g3) (l' := tagF tag) ?_
  refine s_neS (xs := tagF t) (ys := tagF tag) (ks := tagK) tagF_inj ?_
  rcases hcmp with hc | ⟨hc, hne⟩
  · refine s_f ?_ (by simp [heq hc])
    subst hc
    exact h o
  refine s_t ?_ (by simp [hne])
  refine s_idxN tagF tagF_len (fun w hw => hr w hw.drops) hge ?_
  refine in16_hg (L := (LN.take i).foldl addT O) (by omega) (fun w hw => (own_rd (s := o) hw).1) ?_
  have hst : (LN.take (i + 1)).foldl addT O = addT ((LN.take i).foldl addT O) t := by rw [htk, List.foldl_append]; rfl
  by_cases hin : t ∈ (LN.take i).foldl addT O
  · refine s_f ?_ (by simp [hin])
    unfold ref16_Locks_Ahead.s4
    refine s_ai ?_
    have hfin := hk' (o, (i : Int) + 1) (i + 1) ⟨by simp, hc⟩ (by omega)
    rw [hst, show addT ((LN.take i).foldl addT O) t = (LN.take i).foldl addT O from addT_in hin] at hfin
    exact hfin
  · refine s_t ?_ (by simp [hin])
    refine s_idxN tagF tagF_len (fun w hw => hr w hw.drops) hge ?_
    refine s_bld1 ?_
    refine s_app1 (s := o) (m := 1) (us := tagF t) (fun o2 ho2 => ?_)
    unfold ref16_Locks_Ahead.s4
    refine s_ai ?_
    have hfin := hk' (o2, (i : Int) + 1) (i + 1) ⟨by simp, hc⟩ (by omega)
    rw [hst, show addT ((LN.take i).foldl addT O) t = (LN.take i).foldl addT O ++ [t] from addT_out hin, List.flatMap_append] at hfin
    exact hfin
theorem fore_none {LN : List TagM} (h : tag ∉ LN) : fore tag LN = [] := by
  unfold fore
  rw [show (LN.findIdx? fun t => decide (t = tag)) = none by
    rw [List.findIdx?_eq_none_iff]
    intro t ht
    simp only [decide_eq_false_iff_not]
    rintro rfl
    exact h ht]
  rfl
theorem refKeys_len : (refKeys x).length ≤ x.line.length + x.park.length := by
  unfold refKeys
  refine Nat.le_trans (keysT_len _) ?_
  simp [clKeys]
theorem ahead16_hg {Q : Sl → K} (hN : x.line.length ≤ 3000 ∧ x.park.length ≤ 3000 ∧ x.doom.length ≤ 1000000) (h : ∀ s, HG B (SlC ty_api_Tag 4 s ((rAhead tag x).flatMap tagF) :: RefF m ls ps ds x :: Γ) (Q s)) : HG B (RefF m ls ps ds x :: Γ) (ref16_Locks_Ahead.call (some ⟨m, 0, none⟩) (tagF tag).toArray Q) := by
  refine fun w hw => ref16_Locks_Ahead_ok _ _ _ _ ?_
  refine hg hw ?_
  clear hw w
  obtain ⟨n1, n2, n3⟩ := hN
  have hkl := refKeys_len (x := x)
  unfold ref16_Locks_Ahead
  refine s_new fun g3 => ?_
  refine s_new fun t10 => ?_
  refine s_slc0 (esz := 4) ?_
  refine s_own m ?_
  refine keys16_hg ⟨by omega, by omega, by omega⟩ fun sk => ?_
  unfold rAhead at h
  generalize refKeys x = KS at hkl h ⊢
  refine s_cap sk fun a1 a2 a3 a4 => ?_
  rw [List.length_map] at a1
  refine s_end (Δ := SlC ty_api_Tag 4 ⟨some ⟨t10, 0, none⟩, 0, 0⟩ [] :: blk g3 (.cells (tagF tag).toArray ty_api_Tag (0, 0)) :: RefF m ls ps ds x :: SlS sk KS :: Γ) ?_
  refine s_loop (α := Sl × Int) (ι := Nat × List TagM) (fun z i => z.2 = (i.1 : Int) ∧ i.1 ≤ KS.length ∧ i.2 = (KS.take i.1).foldl (fun out key => (fore tag (lineR x key)).foldl addT out) [] ∧ i.2.length ≤ 3000 * i.1) (fun z i => SlC ty_api_Tag 4 z.1 (i.2.flatMap tagF) :: blk g3 (.cells (tagF tag).toArray ty_api_Tag (0, 0)) :: RefF m ls ps ds x :: SlS sk KS :: Γ) (fun z i => KS.length - i.1) (0, []) ⟨rfl, Nat.zero_le _, rfl, by simp⟩ ?_
  rintro k' ⟨o, _⟩ ⟨i, O⟩ ⟨rfl, hi, hO, hOl⟩ hk'
  simp only at hi hO hOl hk' ⊢
  unfold ref16_Locks_Ahead.b1
  refine s_ite (fun hb => ?_) fun hb => ?_
  rotate_left
  · have hil : i = KS.length := by simp only [decide_eq_false_iff_not] at hb; omega
    rw [hil, List.take_length] at hO
    rw [hO]
    exact s_end (h o)
  have hil : i < KS.length := by simp only [decide_eq_true_eq] at hb; omega
  have htk := List.take_succ_eq_append_getElem hil
  have hge : KS[i]? = some KS[i] := List.getElem?_eq_getElem hil
  generalize KS[i] = key at htk hge
  have hstep : (KS.take (i + 1)).foldl (fun out key => (fore tag (lineR x key)).foldl addT out) [] = (fore tag (lineR x key)).foldl addT O := by rw [htk, List.foldl_append, hO]; rfl
  have hll : (lineR x key).length ≤ 3000 := by
    show ((ofK key x.line).map Prod.fst).length ≤ 3000
    rw [List.length_map]
    exact Nat.le_trans (List.length_filter_le _ _) (by omega)
  have hfl : ((fore tag (lineR x key)).foldl addT O).length ≤ 3000 * (i + 1) := by
    have h1 := addT_len (fore tag (lineR x key)) O
    have h2 : (fore tag (lineR x key)).length ≤ (lineR x key).length := by unfold fore; rw [List.length_take]; omega
    omega
  refine s_dr ?_
  refine s_nn ?_
  refine s_own m ?_
  refine s_refF ?_
  refine s_idxFA (fun z : List UInt8 => [strV z]) (fun _ => rfl) (by omega) (fun w hw => by have := (own_rd (s := sk) hw).1; rw [flatMap_1]; exact this) hge fun t25 ht25 => ?_
  refine s_ld (b := m) (x := ls) ?_
  refine s_ldA0 (cs := [strV key]) (x := bs key) (fun w hw => ht25 w (by have := (own_rd (s := sk) hw).1; rw [flatMap_1]; exact this)) rfl ?_
  refine tags16_hg (L := x.line) (by omega) (fun w hw => (own_rd (s := ls) hw).1) fun st => ?_
  refine s_ldN (b := g3) (l' := tagF tag) ?_
  refine in16_hg (L := lineR x key) (by omega) (fun w hw => (own_rd (s := st) hw).1) ?_
  have S2 : ∀ o2, HG B (SlC ty_api_Tag 4 o2 (((fore tag (lineR x key)).foldl addT O).flatMap tagF) :: blk g3 (.cells (tagF tag).toArray ty_api_Tag (0, 0)) :: RefF m ls ps ds x :: SlS sk KS :: Γ) (ref16_Locks_Ahead.s2 Q (fun out5_1 i7_1 => k' (out5_1, i7_1)) (some ⟨m, 0, none⟩) ⟨g3, 0, none⟩ o2 sk (i : Int)) := fun o2 => by
    unfold ref16_Locks_Ahead.s2
    refine s_ai ?_
    exact hk' (o2, (i : Int) + 1) (i + 1, (fore tag (lineR x key)).foldl addT O) ⟨by simp, hil, hstep.symm, hfl⟩ (by simp only; omega)
  refine s_end (Δ := r16L m ls ps ds x (SlC ty_api_Tag 4 st ((lineR x key).flatMap tagF) :: SlC ty_api_Tag 4 o (O.flatMap tagF) :: blk g3 (.cells (tagF tag).toArray ty_api_Tag (0, 0)) :: SlS sk KS :: Γ)) ?_
  refine s_mkRefF ?_
  by_cases hin : tag ∈ lineR x key
  · refine s_f ?_ (by simp [hin])
    obtain ⟨j, hj⟩ : ∃ j, ((lineR x key).findIdx? fun t => decide (t = tag)) = some j := by
      cases hf : (lineR x key).findIdx? fun t => decide (t = tag) with
      | some j => exact ⟨j, rfl⟩
      | none =>
        rw [List.findIdx?_eq_none_iff] at hf
        have := hf tag hin
        simp at this
    have hfin := ahead16_b3 (B := B) (Γ := SlC ty_api_Tag 4 st ((lineR x key).flatMap tagF) :: RefF m ls ps ds x :: SlS sk KS :: Γ) (m := m) (tag := tag) (line := st) (out := o) (LN := lineR x key) (O := O) (g3 := g3) (keys := sk) (j := j) (i7 := (i : Int)) (Q := Q) (X1 := fun out5_1 i7_1 => k' (out5_1, i7_1)) hj (by omega) (by omega) (fun w hw => (own_rd (s := st) hw).1) fun o2 => s_end (S2 o2)
    exact s_end hfin
  · refine s_t ?_ (by simp [hin])
    have := S2 o
    rw [fore_none hin, List.foldl_nil] at this
    exact s_end this
theorem ready16_hg {Q : Bool → K} (hN : x.line.length ≤ 3000 ∧ x.park.length ≤ 3000 ∧ x.doom.length ≤ 1000000) (h : HG B (RefF m ls ps ds x :: Γ) (Q (!hasT tag x.park && decide (rAhead tag x = [])))) : HG B (RefF m ls ps ds x :: Γ) (ref16_Locks_Ready.call (some ⟨m, 0, none⟩) (tagF tag).toArray Q) := by
  refine fun w hw => ref16_Locks_Ready_ok _ _ _ _ ?_
  refine hg hw ?_
  clear hw w
  have hN' := hN
  obtain ⟨n1, n2, n3⟩ := hN
  unfold ref16_Locks_Ready
  refine s_new fun g3 => ?_
  refine s_end (Δ := RefF m ls ps ds x :: blk g3 (.cells (tagF tag).toArray ty_api_Tag (0, 0)) :: Γ) ?_
  refine s_loop (α := Int) (ι := Nat) (fun z i => z = (i : Int) ∧ i ≤ x.park.length ∧ hasT tag (x.park.take i) = false) (fun z i => RefF m ls ps ds x :: blk g3 (.cells (tagF tag).toArray ty_api_Tag (0, 0)) :: Γ) (fun z i => x.park.length - i) 0 ⟨rfl, Nat.zero_le _, by simp [hasT]⟩ ?_
  rintro k' _ i ⟨rfl, hi, hn⟩ hk'
  refine s_refF ?_
  refine s_cap ps fun a1 a2 a3 a4 => ?_
  rw [flatMap_len _ 7 clF_len] at a1
  unfold ref16_Locks_Ready.b1
  refine s_nn ?_
  refine s_ld (b := m) (x := ps) ?_
  refine s_ite (fun hb => ?_) fun hb => ?_
  · have hil : i < x.park.length := by simp only [decide_eq_true_eq] at hb; omega
    have htk := List.take_succ_eq_append_getElem hil
    have hge : x.park[i]? = some x.park[i] := List.getElem?_eq_getElem hil
    have hmem : x.park[i] ∈ x.park := List.getElem_mem hil
    generalize x.park[i] = c at htk hge hmem
    refine s_dr ?_
    refine s_ld (b := m) (x := ps) ?_
    refine s_idxFA clF clF_len (by omega) (fun w hw => (own_rd (s := ps) hw).1) hge fun t16 ht16 => ?_
    refine s_ldNA16 (cs := clF c) (us := tagF c.1) (fun w hw => ht16 w (own_rd (s := ps) hw).1) (by rw [clF_len]; omega) ?_
    refine s_ldN (b := g3) (l' := tagF tag) ?_
    refine s_eqS (xs := tagF c.1) (ys := tagF tag) (ks := tagK) tagF_inj ?_
    refine s_end (Δ := r16L m ls ps ds x (blk g3 (.cells (tagF tag).toArray ty_api_Tag (0, 0)) :: Γ)) ?_
    refine s_mkRefF ?_
    refine s_ite (fun hp => ?_) fun hp => ?_
    · have hc : c.1 = tag := by simpa using hp
      rw [show hasT tag x.park = true by unfold hasT; rw [List.any_eq_true]; exact ⟨c, hmem, by simp [hc]⟩] at h
      exact s_end h
    · have hc : c.1 ≠ tag := by simpa using hp
      refine s_ai ?_
      exact hk' ((i : Int) + 1) (i + 1) ⟨by simp, hil, by rw [htk]; unfold hasT at hn ⊢; rw [List.any_append, hn]; simp [hc]⟩ (by omega)
  · have hil : i = x.park.length := by simp only [decide_eq_false_iff_not] at hb; omega
    rw [hil, List.take_length] at hn
    refine s_ldN (b := g3) (l' := tagF tag) ?_
    refine s_end (Δ := r16L m ls ps ds x Γ) ?_
    refine s_mkRefF ?_
    refine ahead16_hg hN' fun s => ?_
    refine s_cap s fun b1 b2 b3 b4 => ?_
    rw [flatMap_len _ 4 tagF_len] at b1
    rw [hn] at h
    rw [show decide ((s.n : Int) = 0) = (!false && decide (rAhead tag x = [])) by
      rw [Bool.not_false, Bool.true_and]
      congr 1
      rw [← List.length_eq_zero_iff]
      apply propext
      omega]
    exact s_end h
end
end Go.Proofs.YtihncgfghpbhdaaGreat
/- One that leaves. -/
namespace Go.Proofs.YtihncgfghpbhdaaGreat
open Go Go.Sep Go.Sep.Bt
set_option linter.unusedSimpArgs false
set_option linter.unusedVariables false
set_option linter.unusedSectionVars false
set_option maxRecDepth 100000
theorem at_leave {tag : TagM} {M : GM} {dm : DM} {key : List UInt8} : atM key (leaveM tag (M, dm)).1 = (noT tag (atM key M).1, noT tag (atM key M).2) := by
  unfold leaveM atM
  simp only
  rw [show mget key (M.map fun p => (p.1, (noT tag p.2.1, noT tag p.2.2))) = (mget key M).map fun v => (noT tag v.1, noT tag v.2) from mget_map (fun v : List Claim × List Claim => (noT tag v.1, noT tag v.2)) key M]
  cases mget key M <;> rfl
theorem noT_fst (tag : TagM) (L : List Claim) : (noT tag L).map Prod.fst = (L.map Prod.fst).filter fun t => !decide (t = tag) := by
  unfold noT
  rw [List.filter_map]; rfl
theorem noT_none (tag : TagM) (L : List Claim) : tag ∉ (noT tag L).map Prod.fst := by
  rw [noT_fst]; simp
theorem idx_none {tag : TagM} {L : List TagM} (h : tag ∉ L) : (L.findIdx? fun t => decide (t = tag)) = none := by
  rw [List.findIdx?_eq_none_iff]
  intro t ht
  simp only [decide_eq_false_iff_not]
  rintro rfl
  exact h ht
theorem ahead_leave {tag : TagM} {M : GM} {dm : DM} : aheadM tag (leaveM tag (M, dm)).1 = [] := by
  unfold aheadM
  have : ∀ (K : List (List UInt8)), K.foldl (fun out key => (fore tag (lineT (leaveM tag (M, dm)).1 key)).foldl addT out) [] = [] := fun K => by
    induction K with
    | nil => rfl
    | cons key K ih =>
      rw [List.foldl_cons]
      rw [show fore tag (lineT (leaveM tag (M, dm)).1 key) = [] by
        unfold fore lineT
        rw [at_leave, idx_none (noT_none tag _)]; rfl]
      exact ih
  exact this _
theorem ready_leave {tag : TagM} {M : GM} {dm : DM} : readyM tag (leaveM tag (M, dm)).1 = true := by
  unfold readyM
  rw [List.all_eq_true]
  intro p hp
  obtain ⟨q, _, rfl⟩ := List.mem_map.1 hp
  have h1 : hasT tag (noT tag q.2.2) = false := by
    unfold hasT noT
    rw [List.any_eq_false]
    intro c hc
    have := (List.mem_filter.1 hc).2
    simpa using this
  have h2 : ((noT tag q.2.1).findIdx? fun c => decide (c.1 = tag)) = none := by
    rw [List.findIdx?_eq_none_iff]
    intro c hc
    unfold noT at hc
    have := (List.mem_filter.1 hc).2
    simpa using this
  unfold readyG
  rw [h1, h2]; rfl
theorem SzS.mono {T W T' W' : Nat} {y : SX} (h : SzS T W y) (h1 : T ≤ T') (h2 : W ≤ W') : SzS T' W' y := ⟨Nat.le_trans h.gl h1, gs_up h.gs h1, Nat.le_trans h.rs h1, Nat.le_trans h.rd h2, Nat.le_trans h.sl h1⟩
section
variable {B : World} {Γ Δ : List HProp} {q : Bool → K}
theorem great16_hg {L : List OpY} {ss : Sl} {Q : Bool → K} (hr : ∀ w, Holds B Γ w → RdC w ss 8 (L.flatMap opyF)) (hm : ∀ o ∈ L, ∀ w, Holds B Γ w → RdC w o.ms 3 (o.marks.flatMap markF)) (hyes : HG B Γ (Q true)) (hno : L.length ≤ 60 → (∀ o ∈ L, okOp o) → HG B Γ (Q false)) : HG B Γ (law16_great.call ss Q) := fun w hw => by
  refine law16_great_ok _ _ _ ?_
  have ln : ss.n = L.length := rd_len opyF_len (by omega) (hr w hw)
  have lm : ∀ o ∈ L, o.ms.n = o.marks.length := fun o ho => rd_len markF_len (by omega) (hm o ho w hw)
  refine hg hw ?_
  clear hw w
  unfold law16_great
  refine s_ite (fun hb => hyes) fun hb => ?_
  have hL : L.length ≤ 60 := by simp only [decide_eq_false_iff_not] at hb; omega
  refine s_loop (α := Int) (ι := Nat) (fun z i => z = (i : Int) ∧ i ≤ L.length ∧ ∀ o ∈ L.take i, okOp o) (fun z i => Γ) (fun z i => L.length - i) 0 ⟨rfl, Nat.zero_le _, by simp⟩ ?_
  rintro k' _ i ⟨rfl, hi, hok⟩ hk'
  unfold law16_great.b1
  refine s_ite (fun hb => ?_) fun hb => ?_
  rotate_left
  · have hil : i = L.length := by simp only [decide_eq_false_iff_not] at hb; omega
    rw [hil, List.take_length] at hok
    exact hno hL hok
  have hil : i < L.length := by simp only [decide_eq_true_eq] at hb; omega
  have htk := List.take_succ_eq_append_getElem hil
  have hge : L[i]? = some L[i] := List.getElem?_eq_getElem hil
  have hmem : L[i] ∈ L := List.getElem_mem hil
  generalize L[i] = o at htk hge hmem
  have hmn := lm o hmem
  refine s_idxN opyF opyF_len hr hge ?_
  refine s_new fun o4 => ?_
  refine s_stN (b := o4) (l' := opyF o) ?_
  refine s_ld (b := o4) (x := o.ms) ?_
  have out : HG B (blk o4 (.cells (opyF o).toArray ty_argosylaw16_Op (0, 0)) :: Γ) (law16_great.s2 Q k' ⟨o4, 0, none⟩ ss (ss.n : Int) (i : Int) true) := by
    unfold law16_great.s2
    refine s_t ?_
    exact s_end hyes
  refine s_ite (fun hp => out) fun hp => ?_
  have h20 : o.marks.length ≤ 20 := by simp only [decide_eq_false_iff_not] at hp; omega
  refine s_ld (b := o4) (x := bs o.key) ?_
  by_cases hk : 100 < o.key.length
  · rw [show decide ((100 : Int) < ((bs o.key).size : Int)) = true by simp only [decide_eq_true_eq]; show (100 : Int) < (o.key.length : Int); omega]
    exact out
  rw [show decide ((100 : Int) < ((bs o.key).size : Int)) = false by simp only [decide_eq_false_iff_not]; show ¬ (100 : Int) < (o.key.length : Int); omega]
  unfold law16_great.s2
  refine s_f ?_
  refine s_ld (b := o4) (x := o.ms) ?_
  refine s_end (Δ := Γ) ?_
  refine s_loop (α := Int) (ι := Nat) (fun z j => z = (j : Int) ∧ j ≤ o.marks.length ∧ ∀ m ∈ o.marks.take j, m.key.length ≤ 100) (fun z j => Γ) (fun z j => o.marks.length - j) 0 ⟨rfl, Nat.zero_le _, by simp⟩ ?_
  rintro k2 _ j ⟨rfl, hj, hmk⟩ hk2
  unfold law16_great.b3
  refine s_ite (fun hb => ?_) fun hb => ?_
  rotate_left
  · have hjl : j = o.marks.length := by simp only [decide_eq_false_iff_not] at hb; omega
    rw [hjl, List.take_length] at hmk
    refine s_ai ?_
    refine hk' ((i : Int) + 1) (i + 1) ⟨by simp, hil, fun z hz => ?_⟩ (by omega)
    rw [htk] at hz
    rcases List.mem_append.1 hz with hz | hz
    · exact hok z hz
    · rw [List.mem_singleton.1 hz]; exact ⟨h20, by omega, hmk⟩
  have hjl : j < o.marks.length := by simp only [decide_eq_true_eq] at hb; omega
  have htk2 := List.take_succ_eq_append_getElem hjl
  have hge2 : o.marks[j]? = some o.marks[j] := List.getElem?_eq_getElem hjl
  generalize o.marks[j] = mk at htk2 hge2
  refine s_idxN markF markF_len (hm o hmem) hge2 ?_
  refine s_new fun m6 => ?_
  refine s_stN (b := m6) (l' := markF mk) ?_
  refine s_ld (b := m6) (x := bs mk.key) ?_
  refine s_ite (fun hp => s_end hyes) fun hp => ?_
  have hp' : ¬ (100 : Int) < (mk.key.length : Int) := by
    have h9 := hp
    simp only [decide_eq_false_iff_not] at h9
    exact h9
  refine s_ai ?_
  refine s_end (hk2 ((j : Int) + 1) (j + 1) ⟨by simp, hjl, fun z hz => ?_⟩ (by omega))
  rw [htk2] at hz
  rcases List.mem_append.1 hz with hz | hz
  · exact hmk z hz
  · rw [List.mem_singleton.1 hz]; omega
end
section
variable {B : World} {Γ Δ : List HProp} {k : K} {l gm db st n : Nat} {M : GM} {dm : DM} {X : GX} {D : List (TagM × Int)} {S : Recs} {tag : TagM}
theorem parked_hg {key : List UInt8} {N : Nat} {Q : Sl → K} (hN : gsz M N) (hNl : N ≤ 1000000) (h : ∀ s, HG B (SlC ty_api_Tag 4 s (((atM key M).2.map Prod.fst).flatMap tagF) :: LocksR l M dm :: Γ) (Q s)) : HG B (LocksR l M dm :: Γ) (locks_Locks_Parked.call (some ⟨l, 0, none⟩) (bs key) Q) := by
  refine fun w hw => locks_Locks_Parked_ok _ _ _ _ ?_
  refine hg hw ?_
  clear hw w
  have hz := gsz_at (k := key) hN
  refine s_locks fun gm db X D hf => ?_
  unfold locks_Locks_Parked
  repeat refine s_nx ?_
  refine gateLook (X := X) ?_
  rw [gate_at hf] at h hz
  cases hm : mget key X with
  | none =>
    rw [hm] at h
    simp only [Option.map_none, Option.getD_none, List.map_nil, List.flatMap_nil] at h
    refine s_f ?_
    refine fun w hw => ?_
    refine hg (show Holds B (SlC ty_api_Tag 4 ⟨none, 0, 0⟩ [] :: _) w from hw.nilSl _ _) ?_
    clear hw w
    refine s_own db ?_
    refine s_pick (Sep.stars (X.map gB)) ?_
    refine s_own gm ?_
    refine s_own l ?_
    exact s_mkLocks hf (s_end (h ⟨none, 0, 0⟩))
  | some g =>
    rw [hm] at h hz
    simp only [Option.map_some, Option.getD_some] at h hz
    obtain ⟨A, C, hX⟩ := mget_split hm
    simp only [Option.map_some]
    refine s_t ?_
    refine s_pick (Sep.stars (X.map gB)) ?_
    refine s_pickG hX ?_
    repeat refine s_nx ?_
    refine tags_hg (L := g.park) (by omega) (fun w hw => (own_rd (s := g.ps) hw).1) fun s' => ?_
    refine s_pick (Sep.stars ((A ++ C).map gB)) ?_
    refine s_ownS g.ps ?_
    refine s_ownS g.ls ?_
    refine s_own g.b ?_
    refine s_unpickG (key := key) ?_
    rw [← hX]
    refine s_own db ?_
    refine s_pick (Sep.stars (X.map gB)) ?_
    refine s_own gm ?_
    refine s_own l ?_
    exact s_mkLocks hf (s_end (h s'))
end
section
variable {B : World} {Γ Δ : List HProp} {q : Bool → K}
abbrev qB (M : GM) (p : List UInt8 × Sl) : HProp := SlC ty_api_Tag 4 p.2 (((atM p.1 M).1.map Prod.fst).flatMap tagF)
end
end Go.Proofs.YtihncgfghpbhdaaGreat

namespace Go.Proofs.YtihncgfghpbhdaaGreat
open Go Go.Sep Go.RowKit
theorem rdy_mk16 {w : World} {cs : List Value} (hc : cs.length = 3) (y : Rdy w (.fld 0 1 .str (.fld 1 1 (.int .i64) (.fld 2 1 (.int .u64) .nil))) cs) : ∃ x : MarkM, cs = markF x ∧ True := by
  match cs, hc with
  | [a, b, c], _ =>
    obtain ⟨⟨x0, e0, _⟩, ⟨x1, e1, _⟩, ⟨x2, e2, _⟩, _⟩ := y
    cases e0; cases e1; cases e2
    obtain ⟨l, rfl⟩ := bs_of x0
    exact ⟨⟨l, x1, x2⟩, rfl, trivial⟩
theorem rdy_opY {w : World} {cs : List Value} (hc : cs.length = 8) (y : Rdy w (.fld 0 1 (.int .i64) (.fld 1 1 (.int .i64) (.fld 2 4 (.fld 0 3 (.fld 0 1 (.int .i64) (.fld 1 1 (.int .u64) (.fld 2 1 (.int .u64) .nil))) (.fld 3 1 (.int .i64) .nil)) (.fld 6 1 .str (.fld 7 1 (.sl (.fld 0 1 .str (.fld 1 1 (.int .i64) (.fld 2 1 (.int .u64) .nil))) 3) .nil))))) cs) : ∃ o : OpY, cs = opyF o ∧ RdC w o.ms 3 (o.marks.flatMap markF) := by
  match cs, hc with
  | [a, b, c, d, e, f, g, i], _ =>
    obtain ⟨⟨x0, e0, _⟩, ⟨x1, e1, _⟩, ⟨⟨⟨x2, e2, _⟩, ⟨x3, e3, _⟩, ⟨x4, e4, _⟩, _⟩, ⟨x5, e5, _⟩, _⟩, ⟨x6, e6, _⟩, ⟨s, e7, _, _, h1, h2⟩, _⟩ := y
    cases e0; cases e1; cases e2; cases e3; cases e4; cases e5; cases e6; cases e7
    obtain ⟨l, rfl⟩ := bs_of x6
    obtain ⟨L, _, hL, _⟩ := rd_list markF (fun _ => True) markF_len h1 h2 fun cs hc hr => rdy_mk16 hc hr
    exact ⟨⟨x0, x1, ⟨x2, x3, x4, x5⟩, l, L, s⟩, rfl, hL⟩
end Go.Proofs.YtihncgfghpbhdaaGreat
/- Every script on locks: what both tell is the same. -/
namespace Go.Proofs.YtihncgfghpbhdaaGreat
open Go Go.Sep Go.Sep.Bt
set_option linter.unusedSimpArgs false
set_option linter.unusedVariables false
set_option linter.unusedSectionVars false
set_option maxRecDepth 100000
theorem sort_same {K : List (List UInt8)} (h : K.Pairwise (· ≤ ·)) : sortL K = K := List.mergeSort_of_pairwise (h.imp fun h => by simpa using h)
theorem rise_eq {K1 K2 : List (List UInt8)} (h1 : K1.Pairwise (· < ·)) (h2 : K2.Pairwise (· < ·)) (hm : ∀ k, k ∈ K1 ↔ k ∈ K2) : K1 = K2 := by
  have n1 : K1.Nodup := h1.imp fun h e => by subst e; exact List.lt_irrefl _ h
  have n2 : K2.Nodup := h2.imp fun h e => by subst e; exact List.lt_irrefl _ h
  have hp : K1.Perm K2 := (List.perm_ext_iff_of_nodup n1 n2).2 hm
  have := sortL_perm hp
  rwa [sort_same (h1.imp fun h => List.le_of_lt h), sort_same (h2.imp fun h => List.le_of_lt h)] at this
theorem keysM_rises {M : GM} (hu : KeysU M) : (keysM M).Pairwise (· < ·) := by
  unfold keysM
  refine List.Pairwise.filter _ ?_
  have h1 := sortL_le (M.map Prod.fst)
  have h2 : (sortL (M.map Prod.fst)).Nodup := (List.mergeSort_perm _ _).nodup_iff.2 hu
  refine (h1.and h2).imp fun h => ?_
  rcases List.le_iff_lt_or_eq.1 h.1 with h3 | h3
  · exact h3
  · exact absurd h3 h.2
theorem keysM_mem {M : GM} {k : List UInt8} : k ∈ keysM M ↔ (atM k M).1.length + (atM k M).2.length ≠ 0 := by
  unfold keysM
  rw [List.mem_filter, sortL_mem]
  constructor
  · intro h
    have h2 := h.2
    simp only [Bool.not_eq_true', decide_eq_false_iff_not] at h2
    exact h2
  · intro h
    refine ⟨?_, by simp only [Bool.not_eq_true', decide_eq_false_iff_not]; exact h⟩
    rcases mfind k M with ⟨h1, _⟩ | ⟨j, v, _, h0, _⟩
    · unfold atM at h; rw [h1] at h; simp at h
    · exact List.mem_map.2 ⟨_, List.mem_of_getElem? h0, rfl⟩
theorem ofK_some {k : List UInt8} {L : List Claim} : (ofK k L).length ≠ 0 ↔ k ∈ clKeys L := by
  rw [Ne, List.length_eq_zero_iff]
  unfold ofK
  rw [List.filter_eq_nil_iff]
  constructor
  · intro h
    refine Classical.byContradiction fun h2 => h fun c hc => ?_
    simp only [decide_eq_true_eq]
    rintro rfl
    exact h2 (List.mem_map.2 ⟨c, hc, rfl⟩)
  · intro h h2
    obtain ⟨c, hc, rfl⟩ := List.mem_map.1 h
    exact h2 c hc (by simp)
theorem keys_eq {M : GM} {dm : DM} {x : RX} (h : RelL M dm x) (hu : KeysU M) : keysM M = refKeys x := by
  refine rise_eq (keysM_rises hu) (keysT_rises _) fun k => ?_
  unfold refKeys
  rw [keysM_mem, keysT_mem, List.mem_append, ← ofK_some, ← ofK_some, h.line, h.park]
  omega
theorem ahead_eq {M : GM} {dm : DM} {x : RX} {tag : TagM} (h : RelL M dm x) (hu : KeysU M) : aheadM tag M = rAhead tag x := by
  unfold aheadM rAhead
  rw [keys_eq h hu]
  have : ∀ key, lineT M key = lineR x key := fun key => by unfold lineT; rw [h.line]
  simp only [this]
theorem fore_nil {tag : TagM} {LN : List TagM} : fore tag LN = [] ↔ ¬ 0 < idxI (LN.findIdx? fun t => decide (t = tag)) := by
  unfold fore
  cases hf : LN.findIdx? fun t => decide (t = tag) with
  | none => simp [idxI]
  | some j =>
    obtain ⟨hj, _⟩ := List.findIdx?_eq_some_iff_getElem.1 hf
    simp only [Option.getD_some, idxI, List.take_eq_nil_iff]
    constructor
    · rintro (h | h)
      · omega
      · rw [h] at hj; simp at hj
    · intro h; left; omega
theorem addT_ne (L out : List TagM) (h : out ≠ [] ∨ L ≠ []) : L.foldl addT out ≠ [] := by
  induction L generalizing out with
  | nil => simpa using h
  | cons t L ih =>
    rw [List.foldl_cons]
    refine ih _ (.inl ?_)
    unfold addT
    split
    · rename_i hm; exact fun e => by rw [e] at hm; simp at hm
    · simp
theorem fold_nil {tag : TagM} {g : List UInt8 → List TagM} : ∀ (K : List (List UInt8)) (out : List TagM), K.foldl (fun out key => (fore tag (g key)).foldl addT out) out = [] ↔ out = [] ∧ ∀ key ∈ K, fore tag (g key) = []
  | [], out => by simp
  | key :: K, out => by
    rw [List.foldl_cons, fold_nil K]
    constructor
    · rintro ⟨h1, h2⟩
      by_cases ho : out = []
      · by_cases hf : fore tag (g key) = []
        · exact ⟨ho, fun k hk => by
            rcases List.mem_cons.1 hk with rfl | hk
            · exact hf
            · exact h2 k hk⟩
        · exact absurd h1 (addT_ne _ _ (.inr hf))
      · exact absurd h1 (addT_ne _ _ (.inl ho))
    · rintro ⟨h1, h2⟩
      refine ⟨?_, fun k hk => h2 k (List.mem_cons_of_mem _ hk)⟩
      rw [h2 key List.mem_cons_self, h1]; rfl
theorem at_of {M : GM} {p : List UInt8 × (List Claim × List Claim)} (hu : KeysU M) (hp : p ∈ M) : atM p.1 M = p.2 := by
  obtain ⟨A, C, rfl⟩ := List.append_of_mem hp
  unfold atM
  rw [mget_mid (once_mid (k := p.1) (v := p.2) hu).1]; rfl
theorem at_in {M : GM} {k : List UInt8} (h : (atM k M).1.length + (atM k M).2.length ≠ 0) : (k, atM k M) ∈ M := by
  unfold atM at h ⊢
  rcases mfind k M with ⟨h1, _⟩ | ⟨j, v, _, h0, _, h1, _⟩
  · rw [h1] at h; simp at h
  · rw [h1]; exact List.mem_of_getElem? h0
theorem ready_eq {M : GM} {dm : DM} {x : RX} {tag : TagM} (h : RelL M dm x) (hu : KeysU M) : readyM tag M = (!hasT tag x.park && decide (rAhead tag x = [])) := by
  have hidx : ∀ L : List Claim, (L.findIdx? fun c => decide (c.1 = tag)) = ((L.map Prod.fst).findIdx? fun t => decide (t = tag)) := fun L => by rw [List.findIdx?_map]; rfl
  rw [Bool.eq_iff_iff]
  unfold readyM rAhead
  rw [List.all_eq_true, Bool.and_eq_true, decide_eq_true_eq, fold_nil]
  constructor
  · intro ha
    refine ⟨?_, rfl, fun key hk => ?_⟩
    · rw [Bool.not_eq_true', hasT, List.any_eq_false]
      intro c hc hct
      have hin : c ∈ (atM c.2.key M).2 := by rw [h.park]; exact List.mem_filter.2 ⟨hc, by simp⟩
      have hl : (atM c.2.key M).2.length ≠ 0 := by intro e; rw [List.length_eq_zero_iff.1 e] at hin; cases hin
      have := ha _ (at_in (M := M) (k := c.2.key) (by omega))
      unfold readyG at this
      rw [Bool.and_eq_true, Bool.not_eq_true', hasT, List.any_eq_false] at this
      exact this.1 c hin hct
    · rw [← keys_eq h hu, keysM_mem] at hk
      have := ha _ (at_in hk)
      unfold readyG at this
      rw [Bool.and_eq_true] at this
      have h2 := this.2
      simp only [Bool.not_eq_true', decide_eq_false_iff_not] at h2
      rw [hidx, h.line] at h2
      exact fore_nil.2 h2
  · rintro ⟨h1, _, h2⟩ p hp
    have hpa := at_of hu hp
    unfold readyG
    rw [Bool.and_eq_true]
    refine ⟨?_, ?_⟩
    · rw [← hpa, h.park]
      rw [Bool.not_eq_true', hasT, List.any_eq_false] at h1 ⊢
      exact fun c hc => h1 c (List.mem_filter.1 hc).1
    · simp only [Bool.not_eq_true', decide_eq_false_iff_not]
      rw [hidx, ← hpa, h.line]
      by_cases hk : p.1 ∈ refKeys x
      · exact fore_nil.1 (h2 _ hk)
      · have : ofK p.1 x.line = [] := by
          refine Classical.byContradiction fun hne => hk ?_
          unfold refKeys
          rw [keysT_mem, List.mem_append]
          exact .inl (ofK_some.1 fun e => hne (List.length_eq_zero_iff.1 e))
        rw [this]; simp [idxI]
end Go.Proofs.YtihncgfghpbhdaaGreat
/- Plain forms of functions, and that their code comes to them (package law16_LocksPlays). -/
namespace Go.Proofs.YtihncgfghpbhdaaGreat
open Go Go.Sep
set_option linter.unusedVariables false
set_option linter.unusedSimpArgs false
set_option maxRecDepth 100000
set_option maxHeartbeats 4000000
attribute [local irreducible] G Gp Cx Tx Ex Sx Dx Ox Ax Lx Rx Fx Bx Bj Al Do Ld LdN St StN New CallF Ar DoU Rd Rd2 Pu Cd Ite Fv CallV CallY Ans0 Ans1 Ans2 Ans3 Ans4 Ans5 Ext Dead Dr WithS Sv LdS LdNS RdS Rd2S Nn Idx IdxA IdxS Fld Bld Slc SlcS Cat All LoopK RangeF RangeJ TakeD
namespace F_IRLaw16LocksPlays
instance at_42 : AT Tryz.prog 42 4 := ⟨by kernel_rfl⟩
instance at_45 : AT Tryz.prog 45 8 := ⟨by kernel_rfl⟩
instance cb_10 : CB Tryz.prog 10 := ⟨by kernel_rfl⟩
instance cb_11 : CB Tryz.prog 11 := ⟨by kernel_rfl⟩
instance cb_12 : CB Tryz.prog 12 := ⟨by kernel_rfl⟩
instance cb_13 : CB Tryz.prog 13 := ⟨by kernel_rfl⟩
instance cb_14 : CB Tryz.prog 14 := ⟨by kernel_rfl⟩
instance cb_15 : CB Tryz.prog 15 := ⟨by kernel_rfl⟩
instance cb_16 : CB Tryz.prog 16 := ⟨by kernel_rfl⟩
instance cb_17 : CB Tryz.prog 17 := ⟨by kernel_rfl⟩
instance cb_18 : CB Tryz.prog 18 := ⟨by kernel_rfl⟩
instance cb_19 : CB Tryz.prog 19 := ⟨by kernel_rfl⟩
instance cb_20 : CB Tryz.prog 20 := ⟨by kernel_rfl⟩
instance cb_21 : CB Tryz.prog 21 := ⟨by kernel_rfl⟩
instance cb_22 : CB Tryz.prog 22 := ⟨by kernel_rfl⟩
instance cb_4 : CB Tryz.prog 4 := ⟨by kernel_rfl⟩
instance cb_5 : CB Tryz.prog 5 := ⟨by kernel_rfl⟩
instance cb_6 : CB Tryz.prog 6 := ⟨by kernel_rfl⟩
instance cb_7 : CB Tryz.prog 7 := ⟨by kernel_rfl⟩
instance cb_8 : CB Tryz.prog 8 := ⟨by kernel_rfl⟩
instance cb_9 : CB Tryz.prog 9 := ⟨by kernel_rfl⟩
instance ct_34 : CT Tryz.prog 34 := ⟨by kernel_rfl⟩
instance ct_35 : CT Tryz.prog 35 := ⟨by kernel_rfl⟩
instance ct_9 : CT Tryz.prog 9 := ⟨by kernel_rfl⟩
instance ft_37_0 : FT Tryz.prog 37 0 0 1 := ⟨by kernel_rfl⟩
instance ft_37_1 : FT Tryz.prog 37 1 1 1 := ⟨by kernel_rfl⟩
instance ft_37_2 : FT Tryz.prog 37 2 2 1 := ⟨by kernel_rfl⟩
instance ft_45_2 : FT Tryz.prog 45 2 2 4 := ⟨by kernel_rfl⟩
instance mx : MX Tryz.prog := ⟨mixed⟩
instance pl_37 : PLT Tryz.prog 37 [(0, 1), (1, 1), (2, 1)] := ⟨_, Tryz.underlying37, by kernel_rfl⟩
instance pl_42 : PLT Tryz.prog 42 [(0, 3), (3, 1)] := ⟨_, Tryz.underlying42, by kernel_rfl⟩
instance sl_22 : SLT Tryz.prog 22 45 8 := ⟨by kernel_rfl⟩
instance sl_35 : SLT Tryz.prog 35 42 4 := ⟨by kernel_rfl⟩
instance sl_47 : SLT Tryz.prog 47 9 1 := ⟨by kernel_rfl⟩
instance sz_42 : SZ Tryz.prog 42 4 := ⟨by kernel_rfl⟩
instance sz_45 : SZ Tryz.prog 45 8 := ⟨by kernel_rfl⟩
instance un_25 : UN Tryz.prog 25 (.pointer 67) := ⟨Tryz.underlying25⟩
instance un_29 : UN Tryz.prog 29 (.pointer 71) := ⟨Tryz.underlying29⟩
instance un_4 : UN Tryz.prog 4 .bool := ⟨Tryz.underlying4⟩
instance zt_37 : ZT Tryz.prog 37 (.agg #[(Sl.val ⟨none, 0, 0⟩), (Sl.val ⟨none, 0, 0⟩), (Sl.val ⟨none, 0, 0⟩)]) := ⟨Tryz.t37, by kernel_rfl, by kernel_rfl⟩
instance zt_42 : ZT Tryz.prog 42 (.agg #[(.int .i64 0), (.int .u64 0), (.int .u64 0), (.int .i64 0)]) := ⟨Tryz.t42, by kernel_rfl, by kernel_rfl⟩
instance zt_45 : ZT Tryz.prog 45 (.agg #[(.int .i64 0), (.int .i64 0), (.int .i64 0), (.int .u64 0), (.int .u64 0), (.int .i64 0), (.string ⟨#[]⟩), (Sl.val ⟨none, 0, 0⟩)]) := ⟨Tryz.t45, by kernel_rfl, by kernel_rfl⟩
end F_IRLaw16LocksPlays
def law16_LocksPlays.b6 (Q : Bool → K) (X2 : Int → K) (X4 : Int → K) (X6 : Int → K) (s3_6 : (Option Addr)) (l5_6 : (Option Addr)) (t6_6 : (Option Addr)) (m7_6 : Addr) (a13_6 : Sl) (t34_6 : Sl) (t35_6 : Int) (t36_6 : Int) (t90_6 : Sl) (t91_6 : Int) (t92_6 : Int) (t123_6 : Int) (t124_6 : Int) : K :=
  Ite (decide (t124_6 < t123_6))
    (Idx a13_6 t124_6 4 fun t130 =>
    StN t130 4 #[(.int .i64 0), (.int .u64 0), (.int .u64 0), (.int .i64 0)] <|
    Ar (IntKind.wrap .i64 (t124_6 + 1)) fun t131 =>
    X6 t131)
    (Ar (IntKind.wrap .i64 (t92_6 + 1)) fun t132 =>
    X4 t132)
def law16_LocksPlays.s5 (Q : Bool → K) (X2 : Int → K) (X4 : Int → K) (s3_5 : (Option Addr)) (l5_5 : (Option Addr)) (t6_5 : (Option Addr)) (m7_5 : Addr) (a13_5 : Sl) (t34_5 : Sl) (t35_5 : Int) (t36_5 : Int) (t90_5 : Sl) (t91_5 : Int) (t92_5 : Int) (t121_5 : Bool) : K :=
  Ite t121_5
    (Q false)
    (LoopK (α := Int) (fun X x => law16_LocksPlays.b6 Q X2 X4 X s3_5 l5_5 t6_5 m7_5 a13_5 t34_5 t35_5 t36_5 t90_5 t91_5 t92_5 (a13_5.n : Int) x) 0)
def law16_LocksPlays.b4 (Q : Bool → K) (X2 : Int → K) (X4 : Int → K) (s3_4 : (Option Addr)) (l5_4 : (Option Addr)) (t6_4 : (Option Addr)) (m7_4 : Addr) (t34_4 : Sl) (t35_4 : Int) (t36_4 : Int) (t90_4 : Sl) (t91_4 : Int) (t92_4 : Int) : K :=
  Ite (decide (t92_4 < t91_4))
    (Idx t90_4 t92_4 1 fun t94 =>
    Ld t94 Value.string fun t95 =>
    locks_Locks_Queue.call l5_4 t95 fun t98 =>
    locks_Locks_Parked.call l5_4 t95 fun t101 =>
    Ld m7_4 Sl.val fun t106 =>
    ref16_Tags.call t106 t95 fun t108 =>
    ref16_Same.call t98 t108 fun t109 =>
    Ite (!t109)
      (law16_LocksPlays.s5 Q X2 X4 s3_4 l5_4 t6_4 m7_4 t98 t34_4 t35_4 t36_4 t90_4 t91_4 t92_4 true)
      (Ld (m7_4.add 1) Sl.val fun t116 =>
      ref16_Tags.call t116 t95 fun t118 =>
      ref16_Same.call t101 t118 fun t119 =>
      law16_LocksPlays.s5 Q X2 X4 s3_4 l5_4 t6_4 m7_4 t98 t34_4 t35_4 t36_4 t90_4 t91_4 t92_4 (!t119)))
    (Ar (IntKind.wrap .i64 (t36_4 + 1)) fun t133 =>
    X2 t133)
def law16_LocksPlays.s3 (Q : Bool → K) (X2 : Int → K) (s3_3 : (Option Addr)) (l5_3 : (Option Addr)) (t6_3 : (Option Addr)) (m7_3 : Addr) (keys10_3 : Sl) (t34_3 : Sl) (t35_3 : Int) (t36_3 : Int) (t89_3 : Bool) : K :=
  Ite t89_3
    (Q false)
    (LoopK (α := Int) (fun X x => law16_LocksPlays.b4 Q X2 X s3_3 l5_3 t6_3 m7_3 t34_3 t35_3 t36_3 keys10_3 (keys10_3.n : Int) x) 0)
def law16_LocksPlays.b2 (Q : Bool → K)  (X2 : Int → K) (s3_2 : (Option Addr)) (l5_2 : (Option Addr)) (t6_2 : (Option Addr)) (m7_2 : Addr) (t34_2 : Sl) (t35_2 : Int) (t36_2 : Int) : K :=
  Ite (decide (t36_2 < t35_2))
    (Idx t34_2 t36_2 8 fun t38 =>
    LdN t38 8 fun t39 =>
    New 45 #[(.int .i64 0), (.int .i64 0), (.int .i64 0), (.int .u64 0), (.int .u64 0), (.int .i64 0), (.string ⟨#[]⟩), (Sl.val ⟨none, 0, 0⟩)] fun o9 =>
    StN o9 8 t39 <|
    LdN o9 8 fun t44 =>
    law16_step.call s3_2 l5_2 t6_2 (some m7_2) t44 <|
    locks_Locks_Keys.call l5_2 fun t47 =>
    Dr <| WithS fun S =>
    ref16_Locks_Keys.call (some m7_2) fun t50 =>
    Sv S <|
    ref05_SameTexts.call t47 t50 fun t51 =>
    Sv S <|
    Ite (!t51)
      (law16_LocksPlays.s3 Q X2 s3_2 l5_2 t6_2 m7_2 t47 t34_2 t35_2 t36_2 true)
      (LdNS S (o9.add 2) 4 fun t56 =>
      LdNS S (o9.add 2) 4 fun t60 =>
      locks_Locks_Ahead.call l5_2 t56 fun t57 =>
      Sv S <|
      ref16_Locks_Ahead.call (some m7_2) t60 fun t61 =>
      Sv S <|
      ref16_Same.call t57 t61 fun t62 =>
      Sv S <|
      Ite (!t62)
        (law16_LocksPlays.s3 Q X2 s3_2 l5_2 t6_2 m7_2 t47 t34_2 t35_2 t36_2 true)
        (LdNS S (o9.add 2) 4 fun t68 =>
        LdNS S (o9.add 2) 4 fun t72 =>
        locks_Locks_Ready.call l5_2 t68 fun t69 =>
        Sv S <|
        ref16_Locks_Ready.call (some m7_2) t72 fun t73 =>
        Sv S <|
        Ite (!(t69 == t73))
          (law16_LocksPlays.s3 Q X2 s3_2 l5_2 t6_2 m7_2 t47 t34_2 t35_2 t36_2 true)
          (LdNS S (o9.add 2) 4 fun t79 =>
          LdS S (m7_2.add 2) Sl.val fun t84 =>
          LdNS S (o9.add 2) 4 fun t86 =>
          locks_Locks_Doomed.call l5_2 t79 fun t80 =>
          Sv S <|
          ref16_In.call t84 t86 fun t87 =>
          law16_LocksPlays.s3 Q X2 s3_2 l5_2 t6_2 m7_2 t47 t34_2 t35_2 t36_2 (!(t80 == t87))))))
    (Q true)
def law16_LocksPlays.s1 (Q : Bool → K)  (script0_1 : Sl) (s3_1 : (Option Addr)) (l5_1 : (Option Addr)) (t6_1 : (Option Addr)) (m7_1 : Addr) (t33_1 : Bool) : K :=
  Ite t33_1
    (Q false)
    (LoopK (α := Int) (fun X x => law16_LocksPlays.b2 Q X s3_1 l5_1 t6_1 m7_1 script0_1 (script0_1.n : Int) x) 0)
def law16_LocksPlays (script0 : Sl) (Q : Bool → K) : K :=
  law16_speaks.call  fun t16 =>
  Ite (!t16)
    (Q false)
    (law16_great.call script0 fun t19 =>
    Ite t19
      (Q true)
      (store_New.call 3 fun t21x0 t21x1 =>
      locks_New.call  fun t24 =>
      ref06_New.call 3 fun t25 =>
      New 37 #[(Sl.val ⟨none, 0, 0⟩), (Sl.val ⟨none, 0, 0⟩), (Sl.val ⟨none, 0, 0⟩)] fun t27 =>
      Ite ((t21x0).isNone)
        (law16_LocksPlays.s1 Q script0 t21x0 t24 t25 t27 true)
        (law16_LocksPlays.s1 Q script0 t21x0 t24 t25 t27 ((t24).isNone))))
theorem law16_LocksPlays_ok (script0 : Sl) (Q : Bool → K) (w : World) (h : law16_LocksPlays script0 Q w) : law16_LocksPlays.call script0 Q w := by
  have hL23 : ∀ (X2 : Int → K), XH 10 X2 → ∀ (X4 : Int → K), XH 17 X4 → ∀ (s3_6 : (Option Addr)) (l5_6 : (Option Addr)) (t6_6 : (Option Addr)) (m7_6 : Addr) (a13_6 : Sl) (t34_6 : Sl) (t35_6 : Int) (t36_6 : Int) (t90_6 : Sl) (t91_6 : Int) (t92_6 : Int) (t123_6 : Int), LH 23 (fun x : Int => [(3, (.pointer s3_6)), (5, (.pointer l5_6)), (6, (.pointer t6_6)), (7, (.pointer (some m7_6))), (13, (Sl.val a13_6)), (34, (Sl.val t34_6)), (35, (.int .i64 t35_6)), (36, (.int .i64 t36_6)), (90, (Sl.val t90_6)), (91, (.int .i64 t91_6)), (92, (.int .i64 t92_6)), (123, (.int .i64 t123_6)), (124, (.int .i64 x))]) (fun X x => law16_LocksPlays.b6 Q X2 X4 X s3_6 l5_6 t6_6 m7_6 a13_6 t34_6 t35_6 t36_6 t90_6 t91_6 t92_6 t123_6 x) := by intros; exact ⟨⟩
  have hJ21 : ∀ (X2 : Int → K), XH 10 X2 → ∀ (X4 : Int → K), XH 17 X4 → JH 21 fun D => ∃ (s3_5 : (Option Addr)) (l5_5 : (Option Addr)) (t6_5 : (Option Addr)) (m7_5 : Addr) (a13_5 : Sl) (t34_5 : Sl) (t35_5 : Int) (t36_5 : Int) (t90_5 : Sl) (t91_5 : Int) (t92_5 : Int), D [(3, (.pointer s3_5)), (5, (.pointer l5_5)), (6, (.pointer t6_5)), (7, (.pointer (some m7_5))), (13, (Sl.val a13_5)), (34, (Sl.val t34_5)), (35, (.int .i64 t35_5)), (36, (.int .i64 t36_5)), (90, (Sl.val t90_5)), (91, (.int .i64 t91_5)), (92, (.int .i64 t92_5))] (fun C => ∀ (t121_5 : Bool), C [(3, (.pointer s3_5)), (5, (.pointer l5_5)), (6, (.pointer t6_5)), (7, (.pointer (some m7_5))), (13, (Sl.val a13_5)), (34, (Sl.val t34_5)), (35, (.int .i64 t35_5)), (36, (.int .i64 t36_5)), (90, (Sl.val t90_5)), (91, (.int .i64 t91_5)), (92, (.int .i64 t92_5)), (121, (.bool t121_5))] (law16_LocksPlays.s5 Q X2 X4 s3_5 l5_5 t6_5 m7_5 a13_5 t34_5 t35_5 t36_5 t90_5 t91_5 t92_5 t121_5)) := by intros; exact ⟨fun _ ⟨_, _, _, _, _, _, _, _, _, _, _, h⟩ => ⟨_, _, h⟩⟩
  have hL17 : ∀ (X2 : Int → K), XH 10 X2 → ∀ (s3_4 : (Option Addr)) (l5_4 : (Option Addr)) (t6_4 : (Option Addr)) (m7_4 : Addr) (t34_4 : Sl) (t35_4 : Int) (t36_4 : Int) (t90_4 : Sl) (t91_4 : Int), LH 17 (fun x : Int => [(3, (.pointer s3_4)), (5, (.pointer l5_4)), (6, (.pointer t6_4)), (7, (.pointer (some m7_4))), (34, (Sl.val t34_4)), (35, (.int .i64 t35_4)), (36, (.int .i64 t36_4)), (90, (Sl.val t90_4)), (91, (.int .i64 t91_4)), (92, (.int .i64 x))]) (fun X x => law16_LocksPlays.b4 Q X2 X s3_4 l5_4 t6_4 m7_4 t34_4 t35_4 t36_4 t90_4 t91_4 x) := by intros; exact ⟨⟩
  have hJ15 : ∀ (X2 : Int → K), XH 10 X2 → JH 15 fun D => ∃ (s3_3 : (Option Addr)) (l5_3 : (Option Addr)) (t6_3 : (Option Addr)) (m7_3 : Addr) (keys10_3 : Sl) (t34_3 : Sl) (t35_3 : Int) (t36_3 : Int), D [(3, (.pointer s3_3)), (5, (.pointer l5_3)), (6, (.pointer t6_3)), (7, (.pointer (some m7_3))), (10, (Sl.val keys10_3)), (34, (Sl.val t34_3)), (35, (.int .i64 t35_3)), (36, (.int .i64 t36_3))] (fun C => ∀ (t89_3 : Bool), C [(3, (.pointer s3_3)), (5, (.pointer l5_3)), (6, (.pointer t6_3)), (7, (.pointer (some m7_3))), (10, (Sl.val keys10_3)), (34, (Sl.val t34_3)), (35, (.int .i64 t35_3)), (36, (.int .i64 t36_3)), (89, (.bool t89_3))] (law16_LocksPlays.s3 Q X2 s3_3 l5_3 t6_3 m7_3 keys10_3 t34_3 t35_3 t36_3 t89_3)) := by intros; exact ⟨fun _ ⟨_, _, _, _, _, _, _, _, h⟩ => ⟨_, _, h⟩⟩
  have hD14 : DH 14 2 [39] (.s [0, 1] (.a [(2, 1, .a [(3, 1, .s [4, 5] (.i (.s [6, 7, 8, 9, 10, 11, 12, 13, 14, 15, 16, 17, 18, 19, 20, 21, 22, 23, 24, 25, 26, 27, 28, 29, 30, 31, 32, 33, 34, 35, 36, 37, 38, 39, 40, 41] .e) (.s [6, 7, 10, 11, 8, 12] (.a [(9, 1, .a [(13, 1, .a [(14, 1, .s [15, 16, 17] (.i (.s [18, 19, 20, 21, 22, 23, 24, 25, 26, 27, 28, 29, 30, 31, 32, 33, 34, 35, 36, 37, 38, 39, 40, 41] .e) (.s [18, 19, 22, 23, 20, 24] (.a [(21, 1, .a [(25, 1, .s [26, 27, 28] (.i (.s [29, 30, 31, 32, 33, 34, 35, 36, 37, 38, 39, 40, 41] .e) (.s [29, 30, 33, 34, 35, 37, 31, 36, 38] (.a [(32, 1, .a [(39, 0, .s [40, 41] .e)])]))))])]))))])])]))))])])) := by intros; exact ⟨⟩
  have hL10 : ∀ (s3_2 : (Option Addr)) (l5_2 : (Option Addr)) (t6_2 : (Option Addr)) (m7_2 : Addr) (t34_2 : Sl) (t35_2 : Int), LH 10 (fun x : Int => [(3, (.pointer s3_2)), (5, (.pointer l5_2)), (6, (.pointer t6_2)), (7, (.pointer (some m7_2))), (34, (Sl.val t34_2)), (35, (.int .i64 t35_2)), (36, (.int .i64 x))]) (fun X x => law16_LocksPlays.b2 Q X s3_2 l5_2 t6_2 m7_2 t34_2 t35_2 x) := by intros; exact ⟨⟩
  have hJ8 : JH 8 fun D => ∃ (script0_1 : Sl) (s3_1 : (Option Addr)) (l5_1 : (Option Addr)) (t6_1 : (Option Addr)) (m7_1 : Addr), D [(0, (Sl.val script0_1)), (3, (.pointer s3_1)), (5, (.pointer l5_1)), (6, (.pointer t6_1)), (7, (.pointer (some m7_1)))] (fun C => ∀ (t33_1 : Bool), C [(0, (Sl.val script0_1)), (3, (.pointer s3_1)), (5, (.pointer l5_1)), (6, (.pointer t6_1)), (7, (.pointer (some m7_1))), (33, (.bool t33_1))] (law16_LocksPlays.s1 Q script0_1 s3_1 l5_1 t6_1 m7_1 t33_1)) := by intros; exact ⟨fun _ ⟨_, _, _, _, _, h⟩ => ⟨_, _, h⟩⟩
  exact g_walk 134 h Tryz.func3
end Go.Proofs.YtihncgfghpbhdaaGreat
/- Every call of any script on locks. -/
namespace Go.Proofs.YtihncgfghpbhdaaGreat
open Go Go.Sep Go.Sep.Bt
set_option linter.unusedSimpArgs false
set_option linter.unusedVariables false
set_option linter.unusedSectionVars false
set_option maxRecDepth 100000
theorem ahead_len {tag : TagM} {M : GM} {N : Nat} (hN : gsz M N) (hNl : N ≤ 5000) : (aheadM tag M).length ≤ 25000000 := by
  have key : ∀ (ks : List (List UInt8)) (out : List TagM), (ks.foldl (fun out key => (fore tag (lineT M key)).foldl addT out) out).length ≤ out.length + ks.length * N := by
    intro ks
    induction ks with
    | nil => intro out; simp
    | cons k ks ih =>
      intro out
      have h1 := ih ((fore tag (lineT M k)).foldl addT out)
      have h2 := addT_len (fore tag (lineT M k)) out
      have h3 : (fore tag (lineT M k)).length ≤ N := by
        unfold fore lineT
        rw [List.length_take, List.length_map]
        have := (gsz_at (k := k) hN).1; omega
      simp only [List.foldl_cons, List.length_cons, Nat.add_mul]
      omega
  have h1 := key (keysM M) []
  have h2 : (keysM M).length ≤ N := by
    have h1 := List.length_filter_le (fun k => !decide ((atM k M).1.length + (atM k M).2.length = 0)) (sortL (M.map Prod.fst))
    rw [sortL_len, List.length_map] at h1
    have := hN.1
    unfold keysM; omega
  have h3 : (keysM M).length * N ≤ 5000 * 5000 := Nat.mul_le_mul (by omega) hNl
  simp only [List.length_nil] at h1
  unfold aheadM; omega
section
variable {B : World} {Γ Δ : List HProp} {k : K} {tag : TagM} {l m n st t : Nat} {x : RX} {ls ps ds : Sl} {q : Bool → K} {M : GM} {dm : DM}
theorem s_locksU (h : KeysU M → HG B (LocksR l M dm :: Γ) k) : HG B (LocksR l M dm :: Γ) k := s_locks fun gm db X D hf => s_mkLocks hf (h (by
  have := hf.once
  rw [← hf.mod]
  simpa [KeysU, modG, List.map_map, Function.comp_def] using this))
theorem refF_cell {w : World} (hw : Holds B Γ w) [p : Sep.Own m Γ (RefF m ls ps ds x) Δ] : w.cell? ⟨m, 2, none⟩ = some ds.val := by
  have h1 := hw.perm p.perm
  unfold RefF at h1
  have h2 : Holds B (r16L m ls ps ds x Δ) w := Holds.flat.1 h1
  exact cell_block (own_blkOf (b := m) h2) rfl
theorem plays_b4 {L : List OpY} {s3 t6 : Option Addr} {sk ss : Sl} {i3 i2 : Int} {X2 : Int → K} (hR : RelL M dm x) (hz : gsz M 1300) (hx : x.line.length ≤ 2000 ∧ x.park.length ≤ 2000) (hK : (keysM M).length ≤ 1300)
    (h : HG B (LocksR l M dm :: RefF m ls ps ds x :: Γ) (Ar (IntKind.wrap .i64 (i2 + 1)) fun t133 => X2 t133)) :
    HG B (SlS sk (keysM M) :: LocksR l M dm :: RefF m ls ps ds x :: Γ) (LoopK (α := Int) (fun X z => law16_LocksPlays.b4 q X2 X s3 (some ⟨l, 0, none⟩) t6 ⟨m, 0, none⟩ ss i3 i2 sk (sk.n : Int) z) 0) := by
  refine s_cap sk fun a1 a2 a3 a4 => ?_
  rw [List.length_map] at a1
  refine s_loop (α := Int) (ι := Nat) (fun z i => z = (i : Int) ∧ i ≤ (keysM M).length) (fun z i => SlS sk (keysM M) :: LocksR l M dm :: RefF m ls ps ds x :: Γ) (fun z i => (keysM M).length - i) 0 ⟨rfl, Nat.zero_le _⟩ ?_
  rintro k' _ i ⟨rfl, hi⟩ hk'
  unfold law16_LocksPlays.b4
  refine s_ite (fun hb => ?_) fun hb => s_end h
  have hil : i < (keysM M).length := by simp only [decide_eq_true_eq] at hb; omega
  have hge : (keysM M)[i]? = some (keysM M)[i] := List.getElem?_eq_getElem hil
  generalize (keysM M)[i] = key at hge
  refine s_idx1 (c := Value.string) (L := (keysM M).map bs) (x := bs key) (fun w hw => by have := (own_rd (s := sk) hw).1; simpa [List.map_map, Function.comp_def] using this) (by rw [List.getElem?_map, hge]; rfl) ?_
  refine s_own l ?_
  refine queue_hg hz (by omega) fun s1 => ?_
  refine s_own l ?_
  refine parked_hg hz (by omega) fun s2 => ?_
  refine s_own m ?_
  refine s_refF ?_
  refine s_ld (b := m) (x := ls) ?_
  refine tags16_hg (L := x.line) (by omega) (fun w hw => (own_rd (s := ls) hw).1) fun s4 => ?_
  have z1 : ((atM key M).1.map Prod.fst).length ≤ 1300 := by rw [List.length_map]; exact (gsz_at (k := key) hz).1
  have z2 : ((atM key M).2.map Prod.fst).length ≤ 1300 := by rw [List.length_map]; exact (gsz_at (k := key) hz).2
  refine same16_hg (L1 := (atM key M).1.map Prod.fst) (L2 := (ofK key x.line).map Prod.fst) (by omega) (fun w hw => (own_rd (s := s1) hw).1) (fun w hw => (own_rd (s := s4) hw).1) ?_
  refine s_f ?_ (by rw [hR.line]; simp)
  refine s_ld (b := m) (x := ps) ?_
  refine tags16_hg (L := x.park) (by omega) (fun w hw => (own_rd (s := ps) hw).1) fun s5 => ?_
  refine same16_hg (L1 := (atM key M).2.map Prod.fst) (L2 := (ofK key x.park).map Prod.fst) (by omega) (fun w hw => (own_rd (s := s2) hw).1) (fun w hw => (own_rd (s := s5) hw).1) ?_
  rw [show (!decide ((atM key M).2.map Prod.fst = (ofK key x.park).map Prod.fst)) = false by rw [hR.park]; simp]
  unfold law16_LocksPlays.s5
  refine s_f ?_
  generalize (atM key M).1.map Prod.fst = T1 at z1 ⊢
  refine s_end (Δ := r16L m ls ps ds x (SlC ty_api_Tag 4 s1 (T1.flatMap tagF) :: SlS sk (keysM M) :: LocksR l M dm :: Γ)) ?_
  refine s_mkRefF ?_
  refine s_cap s1 fun d1 d2 d3 d4 => ?_
  rw [flatMap_len _ 4 tagF_len] at d1
  refine s_end (Δ := SlC ty_api_Tag 4 s1 (T1.flatMap tagF) :: RefF m ls ps ds x :: SlS sk (keysM M) :: LocksR l M dm :: Γ) ?_
  refine s_loop (α := Int) (ι := Nat × List TagM) (fun z i => z = (i.1 : Int) ∧ i.1 ≤ T1.length ∧ i.2.length = T1.length) (fun z i => SlC ty_api_Tag 4 s1 (i.2.flatMap tagF) :: RefF m ls ps ds x :: SlS sk (keysM M) :: LocksR l M dm :: Γ) (fun z i => T1.length - i.1) (0, T1) ⟨rfl, Nat.zero_le _, rfl⟩ ?_
  rintro k2 _ ⟨j, T2⟩ ⟨rfl, hj, hT⟩ hk2
  simp only at hj hT hk2 ⊢
  unfold law16_LocksPlays.b6
  refine s_ite (fun hb2 => ?_) fun hb2 => ?_
  · have hjl : j < T1.length := by simp only [decide_eq_true_eq] at hb2; omega
    refine s_idx (s := s1) (i := j) ?_
    refine flatMap_set (f := tagF) (M := T2) (x := ⟨0, 0, 0, 0⟩) tagF_len rfl (by omega) ?_
    refine s_ai ?_
    exact hk2 ((j : Int) + 1) (j + 1, T2.set j ⟨0, 0, 0, 0⟩) ⟨by simp, hjl, by rw [List.length_set]; exact hT⟩ (by simp only; omega)
  · refine s_ai ?_
    exact s_end (hk' ((i : Int) + 1) (i + 1) ⟨by simp, hil⟩ (by omega))
theorem LocksPlays_hg {L : List OpY} {ss : Sl} (hr : RdC B ss 8 (L.flatMap opyF)) (hm : ∀ o ∈ L, RdC B o.ms 3 (o.marks.flatMap markF)) (h : HG B Γ (q true)) : HG B Γ (law16_LocksPlays.call ss q) := fun w hw => by
  refine law16_LocksPlays_ok _ _ _ ?_
  have ln : ss.n = L.length := rd_len opyF_len (by omega) hr
  refine hg hw ?_
  clear hw w
  unfold law16_LocksPlays
  refine speaks16 ?_
  refine s_f ?_
  refine great16_hg (L := L) (fun w hw => hr.old hw) (fun o ho w hw => (hm o ho).old hw) (s_t (s_end h)) fun hL60 hok => ?_
  refine s_f ?_
  refine storeNew_spec (n := 3) (by omega) (by omega) fun st => ?_
  refine locksNew_hg fun l => ?_
  refine new6_hg (n := 3) (P := []) (by omega) (by omega) fun t => ?_
  refine new16_hg fun m => ?_
  refine s_f ?_
  unfold law16_LocksPlays.s1
  refine s_f ?_
  refine s_end (Δ := sxL l st t m [] ⟨[], fun _ => false, [], ⟨[], [], []⟩⟩ Γ) ?_
  refine s_loop (α := Int) (ι := Nat × SX) (fun z i => z = (i.1 : Int) ∧ i.1 ≤ L.length ∧ SzS (20 * i.1) (1300 * i.1) i.2 ∧ RelL i.2.m i.2.dm i.2.r) (fun z i => sxL l st t m [] i.2 Γ) (fun z i => L.length - i.1) (0, ⟨[], fun _ => false, [], ⟨[], [], []⟩⟩) ⟨rfl, Nat.zero_le _, ⟨by simp, by simp, by simp, by simp, by simp⟩, ⟨fun k => by simp [atM, mget], fun k => by simp [atM, mget], by simp⟩⟩ ?_
  rintro k' _ ⟨i, y⟩ ⟨rfl, hi, hsz, hR⟩ hk'
  simp only at hi hsz hR hk' ⊢
  unfold law16_LocksPlays.b2
  refine s_ite (fun hb => ?_) fun hb => s_end h
  have hil : i < L.length := by simp only [decide_eq_true_eq] at hb; omega
  have hge : L[i]? = some L[i] := List.getElem?_eq_getElem hil
  have hmem : L[i] ∈ L := List.getElem_mem hil
  generalize L[i] = o at hge hmem
  have hsz1 : SzS (20 * (i + 1)) (1300 * (i + 1)) (stp o y) := (hsz.step (hok o hmem)).mono (by omega) (by omega)
  have hR1 := hR.stp (o := o)
  have hnext := hk' ((i : Int) + 1) (i + 1, stp o y) ⟨by simp, hil, hsz1, hR1⟩ (by simp only; omega)
  refine s_idxN opyF opyF_len (fun w hw => hr.old hw) hge ?_
  refine s_new fun o9 => ?_
  refine s_stN (b := o9) (l' := opyF o) ?_
  refine s_ldN (b := o9) (l' := opyF o) ?_
  refine s_end (Δ := sxL l st t m [] y (blk o9 (.cells (opyF o).toArray ty_argosylaw16_Op (0, 0)) :: Γ)) ?_
  refine step16_hg (o := o) (hok o hmem) (fun w hw => (hm o hmem).old hw) hsz (by omega) (by omega) ?_
  generalize stp o y = y' at hsz1 hR1 hnext ⊢
  obtain ⟨M, dm, S, x⟩ := y'
  have c1 := hsz1.rs; have c2 := hsz1.rd; have hz : gsz M 1300 := gsz_le hsz1.gsz (by omega)
  simp only at c1 c2 hR1 hnext ⊢
  show HG B (LocksR l M dm :: StoreR st 3 S :: Ref16 m x :: Ref6 t 3 S [] :: blk o9 (.cells (opyF o).toArray ty_argosylaw16_Op (0, 0)) :: Γ) _
  refine s_locksU fun hu => ?_
  refine keys_hg hz (by omega) fun sk => ?_
  have hKl : (keysM M).length ≤ 1300 := by
    unfold keysM
    refine Nat.le_trans (List.length_filter_le _ _) ?_
    rw [sortL_len, List.length_map]
    exact hz.1
  refine s_own m ?_
  refine s_toF fun ls ps ds => ?_
  refine s_dr ?_
  refine s_wsP (fun w => RdN w ⟨o9, 2, none⟩ (tagF o.tag).toArray ∧ w.cell? ⟨m, 2, none⟩ = some ds.val) (fun w hw => ⟨rd_at (b := o9) (l := opyF o) (n := 4) hw, refF_cell (m := m) hw⟩) ?_
  have hA := fun tg => ahead_len (tag := tg) hz (by omega)
  refine keys16_hg ⟨by omega, by omega, by omega⟩ fun sk2 => ?_
  refine s_svP (fun w hw => ⟨rd_at (b := o9) (l := opyF o) (n := 4) hw, refF_cell (m := m) hw⟩) ?_
  refine texts05_hg (La := keysM M) (Lb := refKeys x) (by omega) (fun w hw => (own_rd (s := sk) hw).1) (fun w hw => (own_rd (s := sk2) hw).1) ?_
  refine s_svP (fun w hw => ⟨rd_at (b := o9) (l := opyF o) (n := 4) hw, refF_cell (m := m) hw⟩) ?_
  refine s_f ?_ (by rw [keys_eq hR1 hu]; simp)
  refine s_ldNSP (l := tagF o.tag) (fun w hS => hS.1) ?_
  refine s_ldNSP (l := tagF o.tag) (fun w hS => hS.1) ?_
  refine s_own l ?_
  refine ahead_hg hz (by omega) fun sa => ?_
  refine s_svP (fun w hw => ⟨rd_at (b := o9) (l := opyF o) (n := 4) hw, refF_cell (m := m) hw⟩) ?_
  refine s_own m ?_
  refine ahead16_hg ⟨by omega, by omega, by omega⟩ fun sb => ?_
  refine s_svP (fun w hw => ⟨rd_at (b := o9) (l := opyF o) (n := 4) hw, refF_cell (m := m) hw⟩) ?_
  refine same16_hg (L1 := aheadM o.tag M) (L2 := rAhead o.tag x) (by have := hA o.tag; omega) (fun w hw => (own_rd (s := sa) hw).1) (fun w hw => (own_rd (s := sb) hw).1) ?_
  refine s_svP (fun w hw => ⟨rd_at (b := o9) (l := opyF o) (n := 4) hw, refF_cell (m := m) hw⟩) ?_
  refine s_f ?_ (by rw [ahead_eq hR1 hu]; simp)
  refine s_ldNSP (l := tagF o.tag) (fun w hS => hS.1) ?_
  refine s_ldNSP (l := tagF o.tag) (fun w hS => hS.1) ?_
  refine s_own l ?_
  refine ready_hg hz (by omega) ?_
  refine s_svP (fun w hw => ⟨rd_at (b := o9) (l := opyF o) (n := 4) hw, refF_cell (m := m) hw⟩) ?_
  refine s_own m ?_
  refine ready16_hg ⟨by omega, by omega, by omega⟩ ?_
  refine s_svP (fun w hw => ⟨rd_at (b := o9) (l := opyF o) (n := 4) hw, refF_cell (m := m) hw⟩) ?_
  refine s_f ?_ (by rw [ready_eq hR1 hu]; simp)
  refine s_ldNSP (l := tagF o.tag) (fun w hS => hS.1) ?_
  refine s_ldSP (x := ds) (fun w hS => hS.2) ?_
  refine s_ldNSP (l := tagF o.tag) (fun w hS => hS.1) ?_
  refine s_own l ?_
  refine doomed_hg ?_
  refine s_svP (fun w hw => ⟨rd_at (b := o9) (l := opyF o) (n := 4) hw, refF_cell (m := m) hw⟩) ?_
  refine s_own m ?_
  refine s_refF ?_
  refine in16_hg (L := x.doom) (by omega) (fun w hw => (own_rd (s := ds) hw).1) ?_
  rw [show (!(dm o.tag == decide (o.tag ∈ x.doom))) = false by rw [hR1.doom]; simp]
  unfold law16_LocksPlays.s3
  refine s_f ?_
  refine s_end (Δ := r16L m ls ps ds x (SlS sk (keysM M) :: LocksR l M dm :: StoreR st 3 S :: Ref6 t 3 S [] :: Γ)) ?_
  refine s_mkRefF ?_
  refine s_end (Δ := SlS sk (keysM M) :: LocksR l M dm :: RefF m ls ps ds x :: StoreR st 3 S :: Ref6 t 3 S [] :: Γ) ?_
  refine plays_b4 (L := L) hR1 hz ⟨by omega, by omega⟩ hKl ?_
  refine s_ai ?_
  refine s_end (Δ := RefF m ls ps ds x :: LocksR l M dm :: StoreR st 3 S :: Ref6 t 3 S [] :: Γ) ?_
  refine s_fromF ?_
  exact s_end hnext
end
end Go.Proofs.YtihncgfghpbhdaaGreat

namespace Go.Proofs.YtihncgfghpbhdaaGreat
open Go Go.Sep Go.RowKit
theorem LocksPlays_walk (W : World) (s0 : Sl) (y0 : Rdy W Sh_ty_s_argosylaw16_Op (Sl.val s0).cells.toList) :
    Calls Tryz.prog 3 #[s0.val] W (Ret fun v w' => v = .bool true ∧ Below W.heap.size W w') := by
  obtain ⟨g1, g2⟩ := rdy_sl y0
  obtain ⟨L, _, hL, hm⟩ := rd_list opyF (fun o => RdC W o.ms 3 (o.marks.flatMap markF)) opyF_len g1 g2 fun cs hc hr => rdy_opY hc hr
  exact law_call (LocksPlays_hg (Γ := []) hL hm (fun w h => ⟨rfl, h⟩) W (Holds.start W))
end Go.Proofs.YtihncgfghpbhdaaGreat
